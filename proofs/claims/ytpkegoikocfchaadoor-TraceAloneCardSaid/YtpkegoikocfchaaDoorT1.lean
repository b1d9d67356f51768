/- Helper lemmas for the claim's theorem: an abstract machine over the model, proved sound; no condition beyond each lemma's own. -/
import Derived.Test.YtpkegoikocfchaaDoorT0
set_option linter.unusedVariables false
set_option linter.unusedSimpArgs false
set_option linter.unnecessarySimpa false
set_option linter.unusedSectionVars false
namespace Go.Proofs.YtpkegoikocfchaaDoor
open Go Go.AM
set_option maxRecDepth 100000
set_option maxHeartbeats 1000000
set_option linter.unusedVariables false
set_option linter.unusedSimpArgs false
noncomputable def go_trace_Check_j42 (v8_5111 : Int) (vm_5112 : List (Int × trace_seen)) : Option (Int × Int) :=
  some (v8_5111, 0)

noncomputable def go_trace_Check_j41 (a1_5 : List api_Event) (v23_5107 : Int) (v12_202_5108 : List Int) (vm_5109 : List (Int × trace_seen)) : Option (Int × Int) :=
  if (decide (v23_5107 < 0)) = true then
    go_trace_Check_j42 (a1_5.length : Int) vm_5109
  else
    go_trace_Check_j42 v23_5107 vm_5109

noncomputable def go_trace_Check_j61 (a1_5 : List api_Event) (v8_5730 : Int) (v6_6074 : Bool) (v12_202_6075 : List Int) (vm_6076 : List (Int × trace_seen)) : Option ((Int × (List Int) × (List (Int × trace_seen))) ⊕ (Int × Int)) :=
  if (!v6_6074) = true then
    inrO (
      go_trace_Check_j41 a1_5 v8_5730 v12_202_6075 vm_6076)
  else
    nextO (IntKind.i64.wrap (v8_5730 + 1), v12_202_6075, vm_6076)

noncomputable def go_trace_Check_j62 (a1_5 : List api_Event) (v8_5730 : Int) (v24_6088 : Bool) (v12_202_6089 : List Int) (vm_6090 : List (Int × trace_seen)) : Option ((Int × (List Int) × (List (Int × trace_seen))) ⊕ (Int × Int)) :=
  go_trace_Check_j61 a1_5 v8_5730 v24_6088 v12_202_6089 vm_6090

noncomputable def go_trace_Check_s57 (a0_4 : List (List api_Instr)) (a1_5 : List api_Event) : (Int × (List Int) × (List (Int × trace_seen))) → Option ((Int × (List Int) × (List (Int × trace_seen))) ⊕ (Int × Int))
  | (v8_5730, v12_202_5731, vm_5732) =>
    if (decide (v8_5730 < (a1_5.length : Int))) = true then
      if 0 ≤ v8_5730 ∧ v8_5730 < (a1_5.length : Int) then
        mcase (mget vm_5732 ((gt a1_5 v8_5730).Id))
          (
            (go_life_New ((gt a1_5 v8_5730).Id) 0 ((gt a1_5 v8_5730).A)).bind fun (x_6092, x_6093) =>
            if (x_6093 != 0) = true then
              go_trace_Check_j62 a1_5 v8_5730 false v12_202_5731 vm_5732
            else
              if (((gt a1_5 v8_5730).Kind) != 1) = true then
                go_trace_Check_j62 a1_5 v8_5730 false v12_202_5731 vm_5732
              else
                if (decide (((gt a1_5 v8_5730).A) ≥ (a0_4.length : Int))) = true then
                  go_trace_Check_j62 a1_5 v8_5730 false v12_202_5731 vm_5732
                else
                  if few (v12_202_5731 ++ [(gt a1_5 v8_5730).Id]).length then
                    go_trace_Check_j62 a1_5 v8_5730 true (v12_202_5731 ++ [(gt a1_5 v8_5730).Id]) (mput vm_5732 ((gt a1_5 v8_5730).Id) (trace_seen.mk x_6092 (gt a1_5 v8_5730)))
                  else none)
          (fun e_6080 =>
            if (((gt a1_5 v8_5730).Kind) == 2) = true then
              if 0 ≤ e_6080.Task.Prog ∧ e_6080.Task.Prog < (a0_4.length : Int) then
                (go_step_Next e_6080.Task (gt a0_4 e_6080.Task.Prog)).bind fun (x_6217, x_6218) =>
                if ((((x_6218 != 0) || (e_6080.Task.State != 1)) || (x_6217.Op != ((gt a1_5 v8_5730).A))) || ((e_6080.last.Kind == 2) && (e_6080.last.A == 9))) = true then
                  go_trace_Check_j61 a1_5 v8_5730 false v12_202_5731 (mput vm_5732 ((gt a1_5 v8_5730).Id) (trace_seen.mk e_6080.Task (gt a1_5 v8_5730)))
                else
                  (go_life_Move e_6080.Task 2).bind fun (x_6225, x_6226) =>
                  if (x_6226 != 0) = true then
                    go_trace_Check_j61 a1_5 v8_5730 false v12_202_5731 (mput vm_5732 ((gt a1_5 v8_5730).Id) (trace_seen.mk e_6080.Task (gt a1_5 v8_5730)))
                  else
                    (go_step_Do x_6225 (gt a0_4 e_6080.Task.Prog)).bind fun (x_6229, x_6230, x_6231) =>
                    if (x_6231 != 0) = true then
                      go_trace_Check_j61 a1_5 v8_5730 false v12_202_5731 (mput vm_5732 ((gt a1_5 v8_5730).Id) (trace_seen.mk e_6080.Task (gt a1_5 v8_5730)))
                    else
                      (go_life_Move x_6229 1).bind fun (x_6234, x_6235) =>
                      go_trace_Check_j61 a1_5 v8_5730 (x_6235 == 0) v12_202_5731 (mput vm_5732 ((gt a1_5 v8_5730).Id) (trace_seen.mk x_6234 (gt a1_5 v8_5730)))
              else none
            else
              if (((gt a1_5 v8_5730).Kind) == 3) = true then
                if (e_6080.Task.State == 1) = true then
                  if (e_6080.last.Kind == 2) = true then
                    if (((gt a1_5 v8_5730).A) != 0) = true then
                      if (((gt a1_5 v8_5730).A) == (go_trace_Held e_6080.last.A)) = true then
                        go_trace_Check_j61 a1_5 v8_5730 (((gt a1_5 v8_5730).A) == (go_trace_Held e_6080.last.A)) v12_202_5731 (mput vm_5732 ((gt a1_5 v8_5730).Id) (trace_seen.mk (api_Task.mk e_6080.Task.Id e_6080.Task.Tenant e_6080.Task.Prog e_6080.Task.Pc e_6080.Task.Unit e_6080.Task.Keeps ((gt a1_5 v8_5730).A) e_6080.Task.Ran) (gt a1_5 v8_5730)))
                      else
                        go_trace_Check_j61 a1_5 v8_5730 (((gt a1_5 v8_5730).A) == (go_trace_Held e_6080.last.A)) v12_202_5731 (mput vm_5732 ((gt a1_5 v8_5730).Id) (trace_seen.mk e_6080.Task (gt a1_5 v8_5730)))
                    else
                      go_trace_Check_j61 a1_5 v8_5730 false v12_202_5731 (mput vm_5732 ((gt a1_5 v8_5730).Id) (trace_seen.mk e_6080.Task (gt a1_5 v8_5730)))
                  else
                    go_trace_Check_j61 a1_5 v8_5730 false v12_202_5731 (mput vm_5732 ((gt a1_5 v8_5730).Id) (trace_seen.mk e_6080.Task (gt a1_5 v8_5730)))
                else
                  go_trace_Check_j61 a1_5 v8_5730 false v12_202_5731 (mput vm_5732 ((gt a1_5 v8_5730).Id) (trace_seen.mk e_6080.Task (gt a1_5 v8_5730)))
              else
                if (((gt a1_5 v8_5730).Kind) == 4) = true then
                  if ((go_life_Waits e_6080.Task.State) && (((gt a1_5 v8_5730).A) == 0)) = true then
                    go_trace_Check_j61 a1_5 v8_5730 ((go_life_Waits e_6080.Task.State) && (((gt a1_5 v8_5730).A) == 0)) v12_202_5731 (mput vm_5732 ((gt a1_5 v8_5730).Id) (trace_seen.mk (api_Task.mk e_6080.Task.Id e_6080.Task.Tenant e_6080.Task.Prog e_6080.Task.Pc e_6080.Task.Unit e_6080.Task.Keeps 1 e_6080.Task.Ran) (gt a1_5 v8_5730)))
                  else
                    go_trace_Check_j61 a1_5 v8_5730 ((go_life_Waits e_6080.Task.State) && (((gt a1_5 v8_5730).A) == 0)) v12_202_5731 (mput vm_5732 ((gt a1_5 v8_5730).Id) (trace_seen.mk e_6080.Task (gt a1_5 v8_5730)))
                else
                  if (((gt a1_5 v8_5730).Kind) == 5) = true then
                    if ((((e_6080.Task.State == 1) && (e_6080.last.Kind == 2)) && (e_6080.last.A == 9)) && (((gt a1_5 v8_5730).A) == 0)) = true then
                      go_trace_Check_j61 a1_5 v8_5730 ((((e_6080.Task.State == 1) && (e_6080.last.Kind == 2)) && (e_6080.last.A == 9)) && (((gt a1_5 v8_5730).A) == 0)) v12_202_5731 (mput vm_5732 ((gt a1_5 v8_5730).Id) (trace_seen.mk (api_Task.mk e_6080.Task.Id e_6080.Task.Tenant e_6080.Task.Prog e_6080.Task.Pc e_6080.Task.Unit e_6080.Task.Keeps 7 e_6080.Task.Ran) (gt a1_5 v8_5730)))
                    else
                      go_trace_Check_j61 a1_5 v8_5730 ((((e_6080.Task.State == 1) && (e_6080.last.Kind == 2)) && (e_6080.last.A == 9)) && (((gt a1_5 v8_5730).A) == 0)) v12_202_5731 (mput vm_5732 ((gt a1_5 v8_5730).Id) (trace_seen.mk e_6080.Task (gt a1_5 v8_5730)))
                  else
                    if (((gt a1_5 v8_5730).Kind) == 6) = true then
                      if ((e_6080.Task.State != 7) && (((gt a1_5 v8_5730).A) == 0)) = true then
                        go_trace_Check_j61 a1_5 v8_5730 ((e_6080.Task.State != 7) && (((gt a1_5 v8_5730).A) == 0)) v12_202_5731 (mput vm_5732 ((gt a1_5 v8_5730).Id) (trace_seen.mk (api_Task.mk e_6080.Task.Id e_6080.Task.Tenant e_6080.Task.Prog e_6080.Task.Pc e_6080.Task.Unit e_6080.Task.Keeps 7 e_6080.Task.Ran) (gt a1_5 v8_5730)))
                      else
                        go_trace_Check_j61 a1_5 v8_5730 ((e_6080.Task.State != 7) && (((gt a1_5 v8_5730).A) == 0)) v12_202_5731 (mput vm_5732 ((gt a1_5 v8_5730).Id) (trace_seen.mk e_6080.Task (gt a1_5 v8_5730)))
                    else
                      go_trace_Check_j61 a1_5 v8_5730 false v12_202_5731 (mput vm_5732 ((gt a1_5 v8_5730).Id) (trace_seen.mk e_6080.Task (gt a1_5 v8_5730))))
      else none
    else
      inrO (
        go_trace_Check_j41 a1_5 (-1) v12_202_5731 vm_5732)

noncomputable def go_trace_Check (a0_4 : List (List api_Instr)) (a1_5 : List api_Event) : Option (Int × Int) :=
  (go_code_CheckAll a0_4).bind fun x_4139 =>
  if ((x_4139 != 0) || (decide ((a1_5.length : Int) > 65536))) = true then
    some (0, 1)
  else
    whileO (go_trace_Check_s57 a0_4 a1_5) (0, [], [])

theorem go_trace_Check_sc (a0_4 : List (List api_Instr)) (a1_5 : List api_Event) (r : Int × Int) (h : go_trace_Check a0_4 a1_5 = some r) : SC Tryd.prog gl 11 [V.sl 1 (rws (fun l => [V.sl 3 (rws api_Instr.cells l)]) a0_4), V.sl 3 (rws api_Event.cells a1_5)] (V.tup [V.int .i64 r.1, V.int .i64 r.2]) := by
  rw [go_trace_Check] at h
  refine SC.of E_good Tryd.func11 rfl (fun _ _ => Tryd.call11 _ _) rfl ?_
  repeat (first | refine Safe.seq ?_ | refine Safe.skip ?_ | with_reducible refine thenQ.n ?_ | with_reducible refine blockQ.n ?_)
  refine Safe.region ?_
  refine SafeOps.quiet0 E_good rfl rfl rfl (v := V.int .i64 0) (.fn rfl) ?_
  refine SafeOps.quiet0 E_good rfl rfl rfl (v := V.int .i64 0) (.fn rfl) ?_
  refine SafeOps.nil ?_
  repeat (first | refine Safe.seq ?_ | refine Safe.skip ?_ | with_reducible refine thenQ.n ?_ | with_reducible refine blockQ.n ?_)
  refine Safe.region ?_
  refine SafeOps.quiet0 E_good rfl rfl rfl (v := V.sl 1 (rws (fun l => [V.sl 3 (rws api_Instr.cells l)]) a0_4)) (.fn rfl) ?_
  refine SafeOps.quiet0 E_good rfl rfl rfl (v := V.sl 3 (rws api_Event.cells a1_5)) (.fn rfl) ?_
  refine SafeOps.inline E_good rfl rfl rfl rfl rfl Tryd.func25 rfl (fun _ _ => Tryd.call25 _ _) rfl ?_
  repeat (first | refine Safe.seq ?_ | refine Safe.skip ?_ | with_reducible refine thenQ.n ?_ | with_reducible refine blockQ.n ?_)
  refine Safe.region ?_
  refine SafeOps.quiet0 E_good rfl rfl rfl (v := V.nilp) (.fn rfl) ?_
  refine SafeOps.quiet0 E_good rfl rfl rfl (v := V.int .i64 0) (.fn rfl) ?_
  refine SafeOps.quiet0 E_good rfl rfl rfl (v := V.int .i64 0) (.fn rfl) ?_
  refine SafeOps.nil ?_
  repeat (first | refine Safe.seq ?_ | refine Safe.skip ?_ | with_reducible refine thenQ.n ?_ | with_reducible refine blockQ.n ?_)
  refine Safe.region ?_
  refine SafeOps.quiet0 E_good rfl rfl rfl (v := V.sl 1 (rws (fun l => [V.sl 3 (rws api_Instr.cells l)]) a0_4)) (.fn rfl) ?_
  refine bindG h ?_
  intro x_4139 he4140 h
  refine SafeOps.quiet0 E_good rfl rfl rfl (v := V.int .i64 x_4139) (.callP rfl rfl (go_code_CheckAll_sc a0_4 _ he4140) rfl) ?_
  refine SafeOps.quiet0 E_good rfl rfl rfl (v := V.bool (x_4139 != 0)) (.fn rfl) ?_
  refine SafeOps.quiet0 E_good rfl rfl rfl (v := V.bool (x_4139 != 0)) (.fn rfl) ?_
  refine SafeOps.bjoin 4 16 (b := ((x_4139 != 0) || (decide ((a1_5.length : Int) > 65536)))) (b1 := true) (b0 := decide ((a1_5.length : Int) > 65536)) (fun hc4141 K => ?_) (fun hc4141 K => ?_) bj_or ?_
  · skip
    refine SafeOps.skip (congrArg (fun b => some (!b)) hc4141) rfl rfl ?_
    refine SafeOps.skip (congrArg (fun b => some (!b)) hc4141) rfl rfl ?_
    refine SafeOps.skip (congrArg (fun b => some (!b)) hc4141) rfl rfl ?_
    refine SafeOps.quiet0 E_good rfl rfl rfl (v := V.bool true) (.pickK rfl hc4141 rfl) ?_
    exact SafeOps.drop' 4 rfl rfl rfl K
  · skip
    refine SafeOps.quiet0 E_good (congrArg (fun b => some (!b)) hc4141) rfl rfl (v := V.sl 3 (rws api_Event.cells a1_5)) (.fn rfl) ?_
    refine SafeOps.quiet0 E_good (congrArg (fun b => some (!b)) hc4141) rfl rfl (v := V.int .i64 (a1_5.length : Int)) (.fnE rfl lenE) ?_
    refine SafeOps.quiet0 E_good (congrArg (fun b => some (!b)) hc4141) rfl rfl (v := V.bool (decide ((a1_5.length : Int) > 65536))) (.fn rfl) ?_
    refine SafeOps.quiet0 E_good rfl rfl rfl (v := V.bool (decide ((a1_5.length : Int) > 65536))) (.pickK rfl hc4141 rfl) ?_
    exact SafeOps.drop' 4 rfl rfl rfl K
  refine SafeOps.nil ?_
  repeat (first | refine Safe.seq ?_ | refine Safe.skip ?_ | with_reducible refine thenQ.n ?_ | with_reducible refine blockQ.n ?_)
  refine ifG h (fun hc4142 h => ?_) (fun hc4142 h => ?_)
  · skip
    refine Safe.condK rfl hc4142 ?_
    repeat (first | refine Safe.seq ?_ | refine Safe.skip ?_ | with_reducible refine thenQ.n ?_ | with_reducible refine blockQ.n ?_)
    refine Safe.region ?_
    refine SafeOps.quiet0 E_good rfl rfl rfl (v := V.nilp) (.fn rfl) ?_
    refine SafeOps.quiet0 E_good rfl rfl rfl (v := V.int .i64 0) (.fn rfl) ?_
    refine SafeOps.quiet0 E_good rfl rfl rfl (v := V.int .i64 1) (.fn rfl) ?_
    refine SafeOps.nil ?_
    repeat (first | refine Safe.seq ?_ | refine Safe.skip ?_ | with_reducible refine thenQ.n ?_ | with_reducible refine blockQ.n ?_)
    refine Safe.ret ?_
    repeat (first | with_reducible refine thenQ.r ?_ | with_reducible refine blockQ.r ?_)
    refine inQ.gen (vs := [V.nilp, V.int .i64 0, V.int .i64 1]) (v := V.tup [V.nilp, V.int .i64 0, V.int .i64 1]) (.inr rfl) rfl (.tmp (v := V.nilp) rfl (.tmp (v := V.int .i64 0) rfl (.tmp (v := V.int .i64 1) rfl .nil))) rfl ?_
    refine SafeOps.quiet0 E_good rfl rfl rfl (v := V.tup [V.nilp, V.int .i64 0, V.int .i64 1]) (.fn rfl) ?_
    refine SafeOps.quiet0 E_good rfl rfl rfl (v := V.nilp) (.fn rfl) ?_
    refine SafeOps.quiet0 E_good rfl rfl rfl (v := V.int .i64 0) (.fn rfl) ?_
    refine SafeOps.quiet0 E_good rfl rfl rfl (v := V.int .i64 1) (.fn rfl) ?_
    refine SafeOps.quiet0 E_good rfl rfl rfl (v := V.nilp) (.fn rfl) ?_
    refine SafeOps.quiet0 E_good rfl rfl rfl (v := V.int .i64 0) (.fn rfl) ?_
    refine SafeOps.quiet0 E_good rfl rfl rfl (v := V.int .i64 1) (.fn rfl) ?_
    refine SafeOps.nil ?_
    repeat (first | refine Safe.seq ?_ | refine Safe.skip ?_ | with_reducible refine thenQ.n ?_ | with_reducible refine blockQ.n ?_)
    refine Safe.region ?_
    refine SafeOps.quiet0 E_good rfl rfl rfl (v := V.int .i64 0) (.fn rfl) ?_
    refine SafeOps.quiet0 E_good rfl rfl rfl (v := V.int .i64 1) (.fn rfl) ?_
    refine SafeOps.quiet0 E_good rfl rfl rfl (v := V.int .i64 0) (.fn rfl) ?_
    refine SafeOps.quiet0 E_good rfl rfl rfl (v := V.int .i64 1) (.fn rfl) ?_
    refine SafeOps.nil ?_
    repeat (first | refine Safe.seq ?_ | refine Safe.skip ?_ | with_reducible refine thenQ.n ?_ | with_reducible refine blockQ.n ?_)
    refine Safe.ret ?_
    repeat (first | with_reducible refine thenQ.r ?_ | with_reducible refine blockQ.r ?_)
    obtain rfl := Option.some.inj h
    exact retQ.gen (vs := [V.int .i64 0, V.int .i64 1]) rfl (.tmp (v := V.int .i64 0) rfl (.tmp (v := V.int .i64 1) rfl .nil)) (.free rfl) (by simp) (.inr rfl)
  · skip
    refine Safe.condN rfl hc4142 ?_
    repeat (first | refine Safe.seq ?_ | refine Safe.skip ?_ | with_reducible refine thenQ.n ?_ | with_reducible refine blockQ.n ?_)
    refine Safe.region ?_
    refine SafeOps.quiet0 E_good rfl rfl rfl (v := V.sl 1 (rws (fun l => [V.sl 3 (rws api_Instr.cells l)]) a0_4)) (.fn rfl) ?_
    refine SafeOps.quiet1 E_good rfl rfl rfl .mkMap rfl ?_
    refine SafeOps.quiet0 E_good rfl rfl rfl (v := V.agg [V.sl 1 (rws (fun l => [V.sl 3 (rws api_Instr.cells l)]) a0_4), V.mapr [12, 18], V.nils]) (.fn rfl) ?_
    refine SafeOps.quiet1 E_good rfl rfl rfl (.box rfl rfl) rfl ?_
    refine SafeOps.quiet1 E_good rfl rfl rfl (.alloc rfl rfl) rfl ?_
    refine SafeOps.store (z := Obj.box [V.ptr [12, 20] 0 0]) E_good rfl rfl rfl rfl rfl rfl rfl (.boxM (c := 1) rfl rfl (Nat.le_of_ble_eq_true rfl) rfl) ?_
    refine SafeOps.nil ?_
    repeat (first | refine Safe.seq ?_ | refine Safe.skip ?_ | with_reducible refine thenQ.n ?_ | with_reducible refine blockQ.n ?_)
    refine Safe.toPm [12, 18] rfl ?_
    refine Safe.gets (τ := ⟨Tryd.f25.ntmps, [(1, V.sl 3 (rws api_Event.cells a1_5)), (7, V.ptr [12, 7] 0 0)], ([12, 7], Obj.box [V.ptr [12, 20] 0 0]) :: ([12, 20], Obj.box [V.sl 1 (rws (fun l => [V.sl 3 (rws api_Instr.cells l)]) a0_4), V.mapr [12, 18], V.nils]) :: (pmo [12, 18] (fun n : Int => V.int .i64 n) trace_seen.cells none []), [(Tryd.f11.ntmps, [])], [12]⟩) (.cov ⟨rfl, rfl, (upT_cons (.refl _) (upT_cons (.refl _) upT_nil)), (upOb_cons rfl (.refl _) (upOb_cons rfl (.refl _) (upOb_cons rfl (.refl _) upOb_nil))), (upOut_cons rfl upT_nil upOut_nil), (cl3 rfl (wi_cons rfl (wi_cons rfl (wi_tl rfl (by repeat first | exact Tn.here | refine Tn.cons rfl ?_) (fun _ => rfl) nob))) rfl)⟩) ?_
    repeat (first | refine Safe.seq ?_ | refine Safe.skip ?_ | with_reducible refine thenQ.n ?_ | with_reducible refine blockQ.n ?_)
    refine Safe.region ?_
    refine SafeOps.quiet0 E_good rfl rfl rfl (v := V.sl 3 (rws api_Event.cells a1_5)) (.fn rfl) ?_
    refine SafeOps.quiet0 E_good rfl rfl rfl (v := V.fn 33 [V.ptr [12, 7] 0 0]) (.fn rfl) ?_
    refine SafeOps.joinT 1 (fun ((v23_5107, v12_202_5108, vm_5109) : Int × (List Int) × (List (Int × trace_seen))) => go_trace_Check_j41 a1_5 v23_5107 v12_202_5108 vm_5109 = some r) (fun ((v23_5107, v12_202_5108, vm_5109) : Int × (List Int) × (List (Int × trace_seen))) => ⟨Tryd.f25.ntmps, [(1, V.sl 3 (rws api_Event.cells a1_5)), (7, V.ptr [12, 7] 0 0), (23, V.int .i64 v23_5107)], ([12, 7], Obj.box [V.ptr [12, 20] 0 0]) :: ([12, 20], Obj.box [V.sl 1 (rws (fun l => [V.sl 3 (rws api_Instr.cells l)]) a0_4), V.mapr [12, 18], V.ref [7000, 114, 12, 20, 2] 0 (rws (fun n => [V.int .i64 n]) v12_202_5108).length]) :: ([7000, 114, 12, 20, 2], Obj.rows 1 (rws (fun n => [V.int .i64 n]) v12_202_5108) false) :: (pmo [12, 18] (fun n : Int => V.int .i64 n) trace_seen.cells none vm_5109), [(Tryd.f11.ntmps, [])], [12]⟩) ?_ (fun HJ5110 => ?_)
    · rintro ⟨v23_5107, v12_202_5108, vm_5109⟩ h
      replace h : go_trace_Check_j41 a1_5 v23_5107 v12_202_5108 vm_5109 = some r := h
      rw [go_trace_Check_j41] at h
      refine SafeOps.quiet0 E_good rfl rfl rfl (v := V.int .i64 v23_5107) (.fn rfl) ?_
      refine SafeOps.nil ?_
      repeat (first | refine Safe.seq ?_ | refine Safe.skip ?_ | with_reducible refine thenQ.n ?_ | with_reducible refine blockQ.n ?_)
      refine Safe.region ?_
      refine SafeOps.quiet0 E_good rfl rfl rfl (v := V.int .i64 v23_5107) (.fn rfl) ?_
      refine SafeOps.quiet0 E_good rfl rfl rfl (v := V.bool (decide (v23_5107 < 0))) (.fn rfl) ?_
      refine SafeOps.nil ?_
      repeat (first | refine Safe.seq ?_ | refine Safe.skip ?_ | with_reducible refine thenQ.n ?_ | with_reducible refine blockQ.n ?_)
      refine Safe.joinT (fun ((v8_5111, vm_5112) : Int × (List (Int × trace_seen))) => go_trace_Check_j42 v8_5111 vm_5112 = some r) (fun ((v8_5111, vm_5112) : Int × (List (Int × trace_seen))) => ⟨Tryd.f25.ntmps, [(7, V.ptr [12, 7] 0 0), (8, V.int .i64 v8_5111)], ([12, 7], Obj.box [V.ptr [12, 20] 0 0]) :: ([12, 20], Obj.box [V.sl 1 (rws (fun l => [V.sl 3 (rws api_Instr.cells l)]) a0_4), V.mapr [12, 18], V.ref [7000, 114, 12, 20, 2] 0 (rws (fun n => [V.int .i64 n]) v12_202_5108).length]) :: ([7000, 114, 12, 20, 2], Obj.rows 1 (rws (fun n => [V.int .i64 n]) v12_202_5108) false) :: (pmo [12, 18] (fun n : Int => V.int .i64 n) trace_seen.cells none vm_5112), [(Tryd.f11.ntmps, [])], [12]⟩) ?_ (fun HJ5113 => ?_)
      · rintro ⟨v8_5111, vm_5112⟩ h
        replace h : go_trace_Check_j42 v8_5111 vm_5112 = some r := h
        rw [go_trace_Check_j42] at h
        repeat (first | refine Safe.seq ?_ | refine Safe.skip ?_ | with_reducible refine thenQ.n ?_ | with_reducible refine blockQ.n ?_)
        refine Safe.region ?_
        refine SafeOps.quiet0 E_good rfl rfl rfl (v := V.ptr [12, 20] 0 0) (.load rfl rfl (.box rfl rfl) rfl) ?_
        refine SafeOps.quiet0 E_good rfl rfl rfl (v := V.int .i64 v8_5111) (.fn rfl) ?_
        refine SafeOps.quiet0 E_good rfl rfl rfl (v := V.ptr [12, 20] 0 0) (.fn rfl) ?_
        refine SafeOps.quiet0 E_good rfl rfl rfl (v := V.int .i64 v8_5111) (.fn rfl) ?_
        refine SafeOps.quiet0 E_good rfl rfl rfl (v := V.int .i64 0) (.fn rfl) ?_
        refine SafeOps.nil ?_
        repeat (first | refine Safe.seq ?_ | refine Safe.skip ?_ | with_reducible refine thenQ.n ?_ | with_reducible refine blockQ.n ?_)
        refine Safe.ret ?_
        repeat (first | with_reducible refine thenQ.r ?_ | with_reducible refine blockQ.r ?_)
        refine inQ.gen (vs := [V.ptr [12, 20] 0 0, V.int .i64 v8_5111, V.int .i64 0]) (v := V.tup [V.ptr [12, 20] 0 0, V.int .i64 v8_5111, V.int .i64 0]) (.inr rfl) rfl (.tmp (v := V.ptr [12, 20] 0 0) rfl (.tmp (v := V.int .i64 v8_5111) rfl (.tmp (v := V.int .i64 0) rfl .nil))) rfl ?_
        refine SafeOps.quiet0 E_good rfl rfl rfl (v := V.tup [V.ptr [12, 20] 0 0, V.int .i64 v8_5111, V.int .i64 0]) (.fn rfl) ?_
        refine SafeOps.quiet0 E_good rfl rfl rfl (v := V.ptr [12, 20] 0 0) (.fn rfl) ?_
        refine SafeOps.quiet0 E_good rfl rfl rfl (v := V.int .i64 v8_5111) (.fn rfl) ?_
        refine SafeOps.quiet0 E_good rfl rfl rfl (v := V.int .i64 0) (.fn rfl) ?_
        refine SafeOps.quiet0 E_good rfl rfl rfl (v := V.ptr [12, 20] 0 0) (.fn rfl) ?_
        refine SafeOps.quiet0 E_good rfl rfl rfl (v := V.int .i64 v8_5111) (.fn rfl) ?_
        refine SafeOps.quiet0 E_good rfl rfl rfl (v := V.int .i64 0) (.fn rfl) ?_
        refine SafeOps.nil ?_
        repeat (first | refine Safe.seq ?_ | refine Safe.skip ?_ | with_reducible refine thenQ.n ?_ | with_reducible refine blockQ.n ?_)
        refine Safe.region ?_
        refine SafeOps.quiet0 E_good rfl rfl rfl (v := V.int .i64 v8_5111) (.fn rfl) ?_
        refine SafeOps.quiet0 E_good rfl rfl rfl (v := V.int .i64 0) (.fn rfl) ?_
        refine SafeOps.quiet0 E_good rfl rfl rfl (v := V.int .i64 v8_5111) (.fn rfl) ?_
        refine SafeOps.quiet0 E_good rfl rfl rfl (v := V.int .i64 0) (.fn rfl) ?_
        refine SafeOps.nil ?_
        repeat (first | refine Safe.seq ?_ | refine Safe.skip ?_ | with_reducible refine thenQ.n ?_ | with_reducible refine blockQ.n ?_)
        refine Safe.ret ?_
        repeat (first | with_reducible refine thenQ.r ?_ | with_reducible refine blockQ.r ?_)
        obtain rfl := Option.some.inj h
        exact retQ.gen (vs := [V.int .i64 v8_5111, V.int .i64 0]) rfl (.tmp (v := V.int .i64 v8_5111) rfl (.tmp (v := V.int .i64 0) rfl .nil)) (.free rfl) (by simp) (.inr rfl)
      · skip
        refine ifG h (fun hc5114 h => ?_) (fun hc5114 h => ?_)
        · skip
          refine Safe.condK rfl hc5114 ?_
          repeat (first | refine Safe.seq ?_ | refine Safe.skip ?_ | with_reducible refine thenQ.n ?_ | with_reducible refine blockQ.n ?_)
          refine Safe.region ?_
          refine SafeOps.quiet0 E_good rfl rfl rfl (v := V.sl 3 (rws api_Event.cells a1_5)) (.fn rfl) ?_
          refine SafeOps.quiet0 E_good rfl rfl rfl (v := V.int .i64 (a1_5.length : Int)) (.fnE rfl lenE) ?_
          refine SafeOps.quiet0 E_good rfl rfl rfl (v := V.int .i64 (a1_5.length : Int)) (.fn rfl) ?_
          refine SafeOps.nil ?_
          repeat (first | refine Safe.skip ?_ | with_reducible refine thenQ.n ?_ | with_reducible refine blockQ.n ?_)
          exact Safe.got (HJ5113 ((a1_5.length : Int), vm_5109) h) (.cov ⟨rfl, rfl, (upT_cons (.refl _) (upT_cons (.refl _) upT_nil)), (upOb_cons rfl (.refl _) (upOb_cons rfl (.refl _) (upOb_cons rfl (.refl _) (upOb_tl rfl (by repeat first | exact Tn.here | refine Tn.cons rfl ?_) rfl)))), (upOut_cons rfl upT_nil upOut_nil), (cl3 rfl (wi_cons rfl (wi_cons rfl (wi_cons rfl (wi_tl rfl (by repeat first | exact Tn.here | refine Tn.cons rfl ?_) (fun _ => rfl) nob)))) rfl)⟩)
        · skip
          refine Safe.condN rfl hc5114 ?_
          repeat (first | refine Safe.skip ?_ | with_reducible refine thenQ.n ?_ | with_reducible refine blockQ.n ?_)
          exact Safe.got (HJ5113 (v23_5107, vm_5109) h) (.cov ⟨rfl, rfl, (upT_cons (.refl _) (upT_cons (.refl _) upT_nil)), (upOb_cons rfl (.refl _) (upOb_cons rfl (.refl _) (upOb_cons rfl (.refl _) (upOb_tl rfl (by repeat first | exact Tn.here | refine Tn.cons rfl ?_) rfl)))), (upOut_cons rfl upT_nil upOut_nil), (cl3 rfl (wi_cons rfl (wi_cons rfl (wi_cons rfl (wi_tl rfl (by repeat first | exact Tn.here | refine Tn.cons rfl ?_) (fun _ => rfl) nob)))) rfl)⟩)
    · skip
      refine SafeOps.inline E_good rfl rfl rfl rfl rfl Tryd.func32 rfl (fun _ _ => Tryd.call32 _ _) rfl ?_
      repeat (first | refine Safe.seq ?_ | refine Safe.skip ?_ | with_reducible refine thenQ.n ?_ | with_reducible refine blockQ.n ?_)
      refine Safe.region ?_
      refine SafeOps.quiet0 E_good rfl rfl rfl (v := V.int .i64 0) (.fn rfl) ?_
      refine SafeOps.nil ?_
      repeat (first | refine Safe.seq ?_ | refine Safe.skip ?_ | with_reducible refine thenQ.n ?_ | with_reducible refine blockQ.n ?_)
      refine Safe.region ?_
      refine SafeOps.quiet0 E_good rfl rfl rfl (v := V.sl 3 (rws api_Event.cells a1_5)) (.fn rfl) ?_
      refine SafeOps.quiet0 E_good rfl rfl rfl (v := V.int .i64 (a1_5.length : Int)) (.fnE rfl lenE) ?_
      refine SafeOps.quiet0 E_good rfl rfl rfl (v := V.int .i64 0) (.fn rfl) ?_
      refine SafeOps.nil ?_
      repeat (first | refine Safe.seq ?_ | refine Safe.skip ?_ | with_reducible refine thenQ.n ?_ | with_reducible refine blockQ.n ?_)
      refine Safe.block ?_
      repeat (first | refine Safe.seq ?_ | refine Safe.skip ?_ | with_reducible refine thenQ.n ?_ | with_reducible refine blockQ.n ?_)
      refine Safe.loopW (fun ((v8_5730, v12_202_5731, vm_5732) : Int × (List Int) × (List (Int × trace_seen))) => ⟨Tryd.f32.ntmps, [(0, V.sl 3 (rws api_Event.cells a1_5)), (1, V.fn 33 [V.ptr [12, 7] 0 0]), (7, V.int .i64 (a1_5.length : Int)), (8, V.int .i64 v8_5730)], ([12, 7], Obj.box [V.ptr [12, 20] 0 0]) :: ([12, 20], Obj.box [V.sl 1 (rws (fun l => [V.sl 3 (rws api_Instr.cells l)]) a0_4), V.mapr [12, 18], V.ref [7000, 114, 12, 20, 2] 0 (rws (fun n => [V.int .i64 n]) v12_202_5731).length]) :: ([7000, 114, 12, 20, 2], Obj.rows 1 (rws (fun n => [V.int .i64 n]) v12_202_5731) false) :: (pmo [12, 18] (fun n : Int => V.int .i64 n) trace_seen.cells none vm_5732), [(Tryd.f25.ntmps, [(1, V.sl 3 (rws api_Event.cells a1_5)), (7, V.ptr [12, 7] 0 0)]), (Tryd.f11.ntmps, [])], [12, 23]⟩) h (.empty [7000, 114, 12, 20, 2] 1 (fr_tl (M := [12, 18]) (fk := (fun n : Int => V.int .i64 n)) (f := trace_seen.cells) (h := none) (m := []) rfl rfl (by repeat first | exact Tf.here | refine Tf.cons rfl ?_)) (.cov ⟨rfl, rfl, (upT_cons (.refl _) (upT_cons (.refl _) (upT_cons (.refl _) (upT_cons (.refl _) upT_nil)))), (upOb_cons rfl (.refl _) (upOb_cons rfl (.box (.cons (.refl _) (.cons (.refl _) (.cons (.nilref _) .nil)))) (upOb_cons rfl (.refl _) (upOb_tl rfl (by repeat first | exact Tn.here | refine Tn.cons rfl ?_) rfl)))), (upOut_cons rfl (upT_cons (.refl _) (upT_cons (.refl _) upT_nil)) (upOut_cons rfl upT_nil upOut_nil)), (cl3 rfl (wi_cons rfl (wi_cons rfl (wi_cons rfl (wi_tl rfl (by repeat first | exact Tn.here | refine Tn.cons rfl ?_) (fun _ => rfl) nob)))) rfl)⟩)) ?_
      rintro ⟨v8_5730, v12_202_5731, vm_5732⟩ ohr5733 h hr5733
      replace h : go_trace_Check_s57 a0_4 a1_5 (v8_5730, v12_202_5731, vm_5732) = some ohr5733 := h
      rw [go_trace_Check_s57] at h
      repeat (first | refine Safe.seq ?_ | refine Safe.skip ?_ | with_reducible refine thenQ.n ?_ | with_reducible refine blockQ.n ?_)
      refine Safe.region ?_
      refine SafeOps.quiet0 E_good rfl rfl rfl (v := V.bool (decide (v8_5730 < (a1_5.length : Int)))) (.fn rfl) ?_
      refine SafeOps.nil ?_
      repeat (first | refine Safe.seq ?_ | refine Safe.skip ?_ | with_reducible refine thenQ.n ?_ | with_reducible refine blockQ.n ?_)
      refine ifG h (fun hc5734 h => ?_) (fun hc5734 h => ?_)
      · skip
        refine Safe.condK rfl hc5734 ?_
        repeat (first | refine Safe.seq ?_ | refine Safe.skip ?_ | with_reducible refine thenQ.n ?_ | with_reducible refine blockQ.n ?_)
        refine Safe.block ?_
        repeat (first | refine Safe.seq ?_ | refine Safe.skip ?_ | with_reducible refine thenQ.n ?_ | with_reducible refine blockQ.n ?_)
        refine Safe.region ?_
        refine SafeOps.quiet0 E_good rfl rfl rfl (v := V.int .i64 v8_5730) (.fn rfl) ?_
        refine SafeOps.quiet0 E_good rfl rfl rfl (v := V.int .i64 v8_5730) (.fn rfl) ?_
        refine SafeOps.nil ?_
        repeat (first | refine Safe.seq ?_ | refine Safe.skip ?_ | with_reducible refine thenQ.n ?_ | with_reducible refine blockQ.n ?_)
        refine Safe.region ?_
        refine SafeOps.quiet0 E_good rfl rfl rfl (v := V.fn 33 [V.ptr [12, 7] 0 0]) (.fn rfl) ?_
        refine SafeOps.quiet0 E_good rfl rfl rfl (v := V.sl 3 (rws api_Event.cells a1_5)) (.fn rfl) ?_
        refine SafeOps.quiet0 E_good rfl rfl rfl (v := V.int .i64 v8_5730) (.fn rfl) ?_
        refine okG h (fun hb5735 h => ?_)
        refine SafeOps.quiet0 E_good rfl rfl rfl (v := V.spt 3 (rws api_Event.cells a1_5) (Int.toNat v8_5730) 0) (.idxSlM (f := api_Event.cells) rfl rfl rfl rfl rfl hb5735) ?_
        refine SafeOps.quiet0 E_good rfl rfl rfl (v := V.agg [V.int .i64 ((gt a1_5 v8_5730).Kind), V.int .i64 ((gt a1_5 v8_5730).Id), V.int .i64 ((gt a1_5 v8_5730).A)]) (.load rfl rfl (.sptM (f := api_Event.cells) hb5735 rfl) rfl) ?_
        refine SafeOps.inline E_good rfl rfl rfl rfl rfl Tryd.func33 rfl (fun _ _ => Tryd.call33 _ _) rfl ?_
        repeat (first | refine Safe.seq ?_ | refine Safe.skip ?_ | with_reducible refine thenQ.n ?_ | with_reducible refine blockQ.n ?_)
        refine Safe.region ?_
        refine SafeOps.quiet1 E_good rfl rfl rfl (.box rfl rfl) (by repeat first | exact rfl | refine fresh_cons (fr_tl (M := [12, 18]) (fk := (fun n : Int => V.int .i64 n)) (f := trace_seen.cells) (h := none) (m := vm_5732) rfl rfl (by repeat first | exact Tf.here | refine Tf.cons rfl ?_)) ?_) ?_
        refine SafeOps.quiet0 E_good rfl rfl rfl (v := V.bool false) (.fn rfl) ?_
        refine SafeOps.nil ?_
        repeat (first | refine Safe.seq ?_ | refine Safe.skip ?_ | with_reducible refine thenQ.n ?_ | with_reducible refine blockQ.n ?_)
        refine Safe.region ?_
        refine SafeOps.quiet0 E_good rfl rfl rfl (v := V.ptr [12, 20] 0 0) (.load rfl rfl (.box rfl rfl) rfl) ?_
        refine SafeOps.quiet0 E_good rfl rfl rfl (v := V.agg [V.int .i64 ((gt a1_5 v8_5730).Kind), V.int .i64 ((gt a1_5 v8_5730).Id), V.int .i64 ((gt a1_5 v8_5730).A)]) (.load rfl rfl (.box rfl rfl) rfl) ?_
        refine SafeOps.joinT 1 (fun ((v6_6074, v12_202_6075, vm_6076) : Bool × (List Int) × (List (Int × trace_seen))) => go_trace_Check_j61 a1_5 v8_5730 v6_6074 v12_202_6075 vm_6076 = some ohr5733) (fun ((v6_6074, v12_202_6075, vm_6076) : Bool × (List Int) × (List (Int × trace_seen))) => ⟨Tryd.f33.ntmps, [(6, V.bool v6_6074)], ([12, 7], Obj.box [V.ptr [12, 20] 0 0]) :: ([12, 20], Obj.box [V.sl 1 (rws (fun l => [V.sl 3 (rws api_Instr.cells l)]) a0_4), V.mapr [12, 18], V.ref [7000, 114, 12, 20, 2] 0 (rws (fun n => [V.int .i64 n]) v12_202_6075).length]) :: ([7000, 114, 12, 20, 2], Obj.rows 1 (rws (fun n => [V.int .i64 n]) v12_202_6075) false) :: (pmo [12, 18] (fun n : Int => V.int .i64 n) trace_seen.cells none vm_6076), [(Tryd.f32.ntmps, [(0, V.sl 3 (rws api_Event.cells a1_5)), (1, V.fn 33 [V.ptr [12, 7] 0 0]), (5, V.int .i64 v8_5730), (7, V.int .i64 (a1_5.length : Int)), (8, V.int .i64 v8_5730)]), (Tryd.f25.ntmps, [(1, V.sl 3 (rws api_Event.cells a1_5)), (7, V.ptr [12, 7] 0 0)]), (Tryd.f11.ntmps, [])], [12, 23, 16]⟩) ?_ (fun HJ6077 => ?_)
        · rintro ⟨v6_6074, v12_202_6075, vm_6076⟩ h
          replace h : go_trace_Check_j61 a1_5 v8_5730 v6_6074 v12_202_6075 vm_6076 = some ohr5733 := h
          rw [go_trace_Check_j61] at h
          refine SafeOps.quiet0 E_good rfl rfl rfl (v := V.bool (!v6_6074)) (.fn rfl) ?_
          refine SafeOps.quiet0 E_good rfl rfl rfl (v := V.bool (!v6_6074)) (.fn rfl) ?_
          refine SafeOps.nil ?_
          repeat (first | refine Safe.seq ?_ | refine Safe.skip ?_ | with_reducible refine thenQ.n ?_ | with_reducible refine blockQ.n ?_)
          refine Safe.ret ?_
          repeat (first | with_reducible refine thenQ.r ?_ | with_reducible refine blockQ.r ?_)
          refine inQ.gen (vs := [V.bool (!v6_6074)]) (v := V.bool (!v6_6074)) (.inr rfl) rfl (.tmp (v := V.bool (!v6_6074)) rfl .nil) rfl ?_
          refine SafeOps.nil ?_
          repeat (first | refine Safe.seq ?_ | refine Safe.skip ?_ | with_reducible refine thenQ.n ?_ | with_reducible refine blockQ.n ?_)
          refine ifG h (fun hc6078 h => ?_) (fun hc6078 h => ?_)
          · skip
            refine Safe.condK rfl hc6078 ?_
            repeat (first | refine Safe.seq ?_ | refine Safe.skip ?_ | with_reducible refine thenQ.n ?_ | with_reducible refine blockQ.n ?_)
            refine Safe.region ?_
            refine SafeOps.quiet0 E_good rfl rfl rfl (v := V.int .i64 v8_5730) (.fn rfl) ?_
            refine SafeOps.quiet0 E_good rfl rfl rfl (v := V.int .i64 v8_5730) (.fn rfl) ?_
            refine SafeOps.nil ?_
            repeat (first | refine Safe.seq ?_ | refine Safe.skip ?_ | with_reducible refine thenQ.n ?_ | with_reducible refine blockQ.n ?_)
            refine Safe.ret ?_
            repeat (first | with_reducible refine thenQ.r ?_ | with_reducible refine blockQ.r ?_)
            refine inQ.gen (vs := [V.int .i64 v8_5730]) (v := V.int .i64 v8_5730) (.inr rfl) rfl (.tmp (v := V.int .i64 v8_5730) rfl .nil) rfl ?_
            replace h := inr_out h hr5733
            exact SafeOps.got (HJ5110 (v8_5730, v12_202_6075, vm_6076) h) (.cov ⟨rfl, rfl, (upT_cons (.refl _) (upT_cons (.refl _) (upT_cons (.refl _) upT_nil))), (upOb_cons rfl (.refl _) (upOb_cons rfl (.refl _) (upOb_cons rfl (.refl _) (upOb_tl rfl (by repeat first | exact Tn.here | refine Tn.cons rfl ?_) rfl)))), (upOut_cons rfl upT_nil upOut_nil), (cl3 rfl (wi_cons rfl (wi_cons rfl (wi_cons rfl (wi_tl rfl (by repeat first | exact Tn.here | refine Tn.cons rfl ?_) (fun _ => rfl) nob)))) rfl)⟩)
          · skip
            refine Safe.condN rfl hc6078 ?_
            repeat (first | refine Safe.seq ?_ | refine Safe.skip ?_ | with_reducible refine thenQ.n ?_ | with_reducible refine blockQ.n ?_)
            refine Safe.region ?_
            refine SafeOps.quiet0 E_good rfl rfl rfl (v := V.int .i64 (IntKind.i64.wrap (v8_5730 + 1))) (.fn rfl) ?_
            refine SafeOps.quiet0 E_good rfl rfl rfl (v := V.int .i64 (IntKind.i64.wrap (v8_5730 + 1))) (.fn rfl) ?_
            refine SafeOps.nil ?_
            repeat (first | refine Safe.seq ?_ | refine Safe.skip ?_ | with_reducible refine thenQ.n ?_ | with_reducible refine blockQ.n ?_)
            exact ⟨_, next_out h, (.cov ⟨rfl, rfl, (upT_cons (.refl _) (upT_cons (.refl _) (upT_cons (.refl _) (upT_cons (.refl _) upT_nil)))), (upOb_cons rfl (.refl _) (upOb_cons rfl (.refl _) (upOb_cons rfl (.refl _) (upOb_tl rfl (by repeat first | exact Tn.here | refine Tn.cons rfl ?_) rfl)))), (upOut_cons rfl (upT_cons (.refl _) (upT_cons (.refl _) upT_nil)) (upOut_cons rfl upT_nil upOut_nil)), (cl3 rfl (wi_cons rfl (wi_cons rfl (wi_cons rfl (wi_tl rfl (by repeat first | exact Tn.here | refine Tn.cons rfl ?_) (fun _ => rfl) nob)))) rfl)⟩)⟩
        · skip
          refine SafeOps.inline E_good rfl rfl rfl rfl rfl Tryd.func34 rfl (fun _ _ => Tryd.call34 _ _) rfl ?_
          repeat (first | refine Safe.seq ?_ | refine Safe.skip ?_ | with_reducible refine thenQ.n ?_ | with_reducible refine blockQ.n ?_)
          refine Safe.region ?_
          refine SafeOps.quiet1 E_good rfl rfl rfl (.box rfl rfl) (by repeat first | exact rfl | refine fresh_cons (fr_tl (M := [12, 18]) (fk := (fun n : Int => V.int .i64 n)) (f := trace_seen.cells) (h := none) (m := vm_5732) rfl rfl (by repeat first | exact Tf.here | refine Tf.cons rfl ?_)) ?_) ?_
          refine SafeOps.quiet0 E_good rfl rfl rfl (v := V.bool false) (.fn rfl) ?_
          refine SafeOps.nil ?_
          repeat (first | refine Safe.seq ?_ | refine Safe.skip ?_ | with_reducible refine thenQ.n ?_ | with_reducible refine blockQ.n ?_)
          refine Safe.regionD (n := 12) [] [6] E_good mixed rfl ?_
          refine DAny.take (i := 0) rfl (by kernel_rfl) [] (by kernel_rfl) (by kernel_rfl) (by kernel_rfl) rfl rfl rfl (v := V.ptr [12, 20] 0 0) (fun _ hz => (.fn rfl)) ?_
          refine DAny.take (i := 1) rfl (by kernel_rfl) [] (by kernel_rfl) (by kernel_rfl) (by kernel_rfl) rfl rfl rfl (v := V.ptr [12, 20] 0 0) (fun _ hz => (.fn rfl)) ?_
          refine DAny.take (i := 2) rfl (by kernel_rfl) [] (by kernel_rfl) (by kernel_rfl) (by kernel_rfl) rfl rfl rfl (v := V.ptr [12, 20] 0 1) (fun _ hz => (.fn rfl)) ?_
          refine DAny.take (i := 3) rfl (by kernel_rfl) [] (by kernel_rfl) (by kernel_rfl) (by kernel_rfl) rfl rfl rfl (v := V.mapr [12, 18]) (fun _ hz => (.load rfl rfl (.box (hz _ _ rfl rfl) rfl) rfl)) ?_
          refine DAny.take (i := 4) rfl (by kernel_rfl) [] (by kernel_rfl) (by kernel_rfl) (by kernel_rfl) rfl rfl rfl (v := V.ptr [12, 23, 16, 6, 3] 0 1) (fun _ hz => (.fn rfl)) ?_
          refine DAny.take (i := 5) rfl (by kernel_rfl) [] (by kernel_rfl) (by kernel_rfl) (by kernel_rfl) rfl rfl rfl (v := V.int .i64 ((gt a1_5 v8_5730).Id)) (fun _ hz => (.load rfl rfl (.box (hz _ _ rfl rfl) rfl) rfl)) ?_
          refine DAny.onlyS (i := 6) rfl (by kernel_rfl) rfl ?_
          refine mcaseG h (fun hm6079 h => ?_) (fun e_6080 hm6079 h => ?_)
          · skip
            refine SafeOps.lookP0 (M := [12, 18]) (fun n : Int => V.int .i64 n) vm_5732 ((gt a1_5 v8_5730).Id) E_good (keyI .i64) hm6079 rfl rfl rfl rfl rfl rfl rfl rfl rfl rfl rfl rfl rfl ?_
            refine SafeOps.nil ⟨rfl, ?_⟩
            refine DAny.take (i := 7) rfl (by kernel_rfl) [] (by kernel_rfl) (by kernel_rfl) (by kernel_rfl) rfl rfl rfl (v := V.tup [V.nilp, V.bool false]) (fun _ hz => (.fn rfl)) ?_
            refine DAny.take (i := 8) rfl (by kernel_rfl) [] (by kernel_rfl) (by kernel_rfl) (by kernel_rfl) rfl rfl rfl (v := V.nilp) (fun _ hz => (.fn rfl)) ?_
            refine DAny.take (i := 9) rfl (by kernel_rfl) [] (by kernel_rfl) (by kernel_rfl) (by kernel_rfl) rfl rfl rfl (v := V.bool false) (fun _ hz => (.fn rfl)) ?_
            refine DAny.take (i := 10) rfl (by kernel_rfl) [] (by kernel_rfl) (by kernel_rfl) (by kernel_rfl) rfl rfl rfl (v := V.nilp) (fun _ hz => (.fn rfl)) ?_
            refine DAny.take (i := 11) rfl (by kernel_rfl) [] (by kernel_rfl) (by kernel_rfl) (by kernel_rfl) rfl rfl rfl (v := V.bool false) (fun _ hz => (.fn rfl)) ?_
            refine DAny.nil (by kernel_rfl) ?_
            repeat (first | refine Safe.seq ?_ | refine Safe.skip ?_ | with_reducible refine thenQ.n ?_ | with_reducible refine blockQ.n ?_)
            refine Safe.region ?_
            refine SafeOps.quiet0 E_good rfl rfl rfl (v := V.bool false) (.fn rfl) ?_
            refine SafeOps.quiet0 E_good rfl rfl rfl (v := V.bool true) (.fn rfl) ?_
            refine SafeOps.nil ?_
            repeat (first | refine Safe.seq ?_ | refine Safe.skip ?_ | with_reducible refine thenQ.n ?_ | with_reducible refine blockQ.n ?_)
            refine Safe.condK rfl rfl ?_
            repeat (first | refine Safe.seq ?_ | refine Safe.skip ?_ | with_reducible refine thenQ.n ?_ | with_reducible refine blockQ.n ?_)
            refine Safe.region ?_
            refine SafeOps.quiet0 E_good rfl rfl rfl (v := V.ptr [12, 20] 0 0) (.fn rfl) ?_
            refine SafeOps.quiet0 E_good rfl rfl rfl (v := V.agg [V.int .i64 ((gt a1_5 v8_5730).Kind), V.int .i64 ((gt a1_5 v8_5730).Id), V.int .i64 ((gt a1_5 v8_5730).A)]) (.load rfl rfl (.box rfl rfl) rfl) ?_
            refine SafeOps.joinT 1 (fun ((v24_6088, v12_202_6089, vm_6090) : Bool × (List Int) × (List (Int × trace_seen))) => go_trace_Check_j62 a1_5 v8_5730 v24_6088 v12_202_6089 vm_6090 = some ohr5733) (fun ((v24_6088, v12_202_6089, vm_6090) : Bool × (List Int) × (List (Int × trace_seen))) => ⟨Tryd.f34.ntmps, [(24, V.bool v24_6088)], ([12, 7], Obj.box [V.ptr [12, 20] 0 0]) :: ([12, 20], Obj.box [V.sl 1 (rws (fun l => [V.sl 3 (rws api_Instr.cells l)]) a0_4), V.mapr [12, 18], V.ref [7000, 114, 12, 20, 2] 0 (rws (fun n => [V.int .i64 n]) v12_202_6089).length]) :: ([7000, 114, 12, 20, 2], Obj.rows 1 (rws (fun n => [V.int .i64 n]) v12_202_6089) false) :: (pmo [12, 18] (fun n : Int => V.int .i64 n) trace_seen.cells none vm_6090), [(Tryd.f33.ntmps, []), (Tryd.f32.ntmps, [(0, V.sl 3 (rws api_Event.cells a1_5)), (1, V.fn 33 [V.ptr [12, 7] 0 0]), (5, V.int .i64 v8_5730), (7, V.int .i64 (a1_5.length : Int)), (8, V.int .i64 v8_5730)]), (Tryd.f25.ntmps, [(1, V.sl 3 (rws api_Event.cells a1_5)), (7, V.ptr [12, 7] 0 0)]), (Tryd.f11.ntmps, [])], [12, 23, 16, 6]⟩) ?_ (fun HJ6091 => ?_)
            · rintro ⟨v24_6088, v12_202_6089, vm_6090⟩ h
              replace h : go_trace_Check_j62 a1_5 v8_5730 v24_6088 v12_202_6089 vm_6090 = some ohr5733 := h
              rw [go_trace_Check_j62] at h
              refine SafeOps.quiet0 E_good rfl rfl rfl (v := V.bool v24_6088) (.fn rfl) ?_
              refine SafeOps.nil ?_
              repeat (first | refine Safe.seq ?_ | refine Safe.skip ?_ | with_reducible refine thenQ.n ?_ | with_reducible refine blockQ.n ?_)
              refine Safe.ret ?_
              repeat (first | with_reducible refine thenQ.r ?_ | with_reducible refine blockQ.r ?_)
              refine inQ.gen (vs := [V.bool v24_6088]) (v := V.bool v24_6088) (.inr rfl) rfl (.tmp (v := V.bool v24_6088) rfl .nil) rfl ?_
              exact SafeOps.got (HJ6077 (v24_6088, v12_202_6089, vm_6090) h) (.cov ⟨rfl, rfl, (upT_cons (.refl _) upT_nil), (upOb_cons rfl (.refl _) (upOb_cons rfl (.refl _) (upOb_cons rfl (.refl _) (upOb_tl rfl (by repeat first | exact Tn.here | refine Tn.cons rfl ?_) rfl)))), (upOut_cons rfl (upT_cons (.refl _) (upT_cons (.refl _) (upT_cons (.refl _) (upT_cons (.refl _) (upT_cons (.refl _) upT_nil))))) (upOut_cons rfl (upT_cons (.refl _) (upT_cons (.refl _) upT_nil)) (upOut_cons rfl upT_nil upOut_nil))), (cl3 rfl (wi_cons rfl (wi_cons rfl (wi_cons rfl (wi_tl rfl (by repeat first | exact Tn.here | refine Tn.cons rfl ?_) (fun _ => rfl) nob)))) rfl)⟩)
            · skip
              refine SafeOps.inline E_good rfl rfl rfl rfl rfl Tryd.func43 rfl (fun _ _ => Tryd.call43 _ _) rfl ?_
              repeat (first | refine Safe.seq ?_ | refine Safe.skip ?_ | with_reducible refine thenQ.n ?_ | with_reducible refine blockQ.n ?_)
              refine Safe.region ?_
              refine SafeOps.quiet1 E_good rfl rfl rfl (.box rfl rfl) (by repeat first | exact rfl | refine fresh_cons (fr_tl (M := [12, 18]) (fk := (fun n : Int => V.int .i64 n)) (f := trace_seen.cells) (h := none) (m := vm_5732) rfl rfl (by repeat first | exact Tf.here | refine Tf.cons rfl ?_)) ?_) ?_
              refine SafeOps.quiet0 E_good rfl rfl rfl (v := V.bool false) (.fn rfl) ?_
              refine SafeOps.nil ?_
              repeat (first | refine Safe.seq ?_ | refine Safe.skip ?_ | with_reducible refine thenQ.n ?_ | with_reducible refine blockQ.n ?_)
              refine Safe.region ?_
              refine SafeOps.quiet0 E_good rfl rfl rfl (v := V.ptr [12, 23, 16, 6, 24, 3] 0 1) (.fn rfl) ?_
              refine SafeOps.quiet0 E_good rfl rfl rfl (v := V.int .i64 ((gt a1_5 v8_5730).Id)) (.load rfl rfl (.box rfl rfl) rfl) ?_
              refine SafeOps.quiet0 E_good rfl rfl rfl (v := V.ptr [12, 23, 16, 6, 24, 3] 0 2) (.fn rfl) ?_
              refine SafeOps.quiet0 E_good rfl rfl rfl (v := V.int .i64 ((gt a1_5 v8_5730).A)) (.load rfl rfl (.box rfl rfl) rfl) ?_
              refine bindG h ?_
              rintro ⟨x_6092, x_6093⟩ he6094 h
              refine SafeOps.quiet0 E_good rfl rfl rfl (v := V.tup [V.agg [V.int .i64 x_6092.Id, V.int .i64 x_6092.Tenant, V.int .i64 x_6092.Prog, V.int .i64 x_6092.Pc, V.int .i64 x_6092.Unit, V.int .i64 x_6092.Keeps.a0, V.int .i64 x_6092.Keeps.a1, V.int .i64 x_6092.Keeps.a2, V.int .i64 x_6092.Keeps.a3, V.int .i64 x_6092.State, V.int .i64 x_6092.Ran], V.int .i64 x_6093]) (.callP rfl rfl (go_life_New_sc ((gt a1_5 v8_5730).Id) 0 ((gt a1_5 v8_5730).A) _ he6094) rfl) ?_
              refine SafeOps.quiet0 E_good rfl rfl rfl (v := V.tup [V.agg [V.int .i64 x_6092.Id, V.int .i64 x_6092.Tenant, V.int .i64 x_6092.Prog, V.int .i64 x_6092.Pc, V.int .i64 x_6092.Unit, V.int .i64 x_6092.Keeps.a0, V.int .i64 x_6092.Keeps.a1, V.int .i64 x_6092.Keeps.a2, V.int .i64 x_6092.Keeps.a3, V.int .i64 x_6092.State, V.int .i64 x_6092.Ran], V.int .i64 x_6093]) (.fn rfl) ?_
              refine SafeOps.quiet0 E_good rfl rfl rfl (v := V.agg [V.int .i64 x_6092.Id, V.int .i64 x_6092.Tenant, V.int .i64 x_6092.Prog, V.int .i64 x_6092.Pc, V.int .i64 x_6092.Unit, V.int .i64 x_6092.Keeps.a0, V.int .i64 x_6092.Keeps.a1, V.int .i64 x_6092.Keeps.a2, V.int .i64 x_6092.Keeps.a3, V.int .i64 x_6092.State, V.int .i64 x_6092.Ran]) (.fn rfl) ?_
              refine SafeOps.quiet0 E_good rfl rfl rfl (v := V.int .i64 x_6093) (.fn rfl) ?_
              refine SafeOps.quiet1 E_good rfl rfl rfl (.alloc rfl rfl) (by repeat first | exact rfl | refine fresh_cons (fr_tl (M := [12, 18]) (fk := (fun n : Int => V.int .i64 n)) (f := trace_seen.cells) (h := none) (m := vm_5732) rfl rfl (by repeat first | exact Tf.here | refine Tf.cons rfl ?_)) ?_) ?_
              refine SafeOps.store (z := Obj.box [V.int .i64 x_6092.Id, V.int .i64 x_6092.Tenant, V.int .i64 x_6092.Prog, V.int .i64 x_6092.Pc, V.int .i64 x_6092.Unit, V.int .i64 x_6092.Keeps.a0, V.int .i64 x_6092.Keeps.a1, V.int .i64 x_6092.Keeps.a2, V.int .i64 x_6092.Keeps.a3, V.int .i64 x_6092.State, V.int .i64 x_6092.Ran]) E_good rfl rfl rfl rfl rfl rfl rfl (.boxM (c := 11) rfl rfl (Nat.le_of_ble_eq_true rfl) rfl) ?_
              refine SafeOps.quiet0 E_good rfl rfl rfl (v := V.int .i64 x_6093) (.fn rfl) ?_
              refine SafeOps.nil ?_
              repeat (first | refine Safe.seq ?_ | refine Safe.skip ?_ | with_reducible refine thenQ.n ?_ | with_reducible refine blockQ.n ?_)
              refine Safe.regionD (n := 17) [] [] E_good mixed rfl ?_
              refine DAny.take (i := 0) rfl (by kernel_rfl) [] (by kernel_rfl) (by kernel_rfl) (by kernel_rfl) rfl rfl rfl (v := V.int .i64 x_6093) (fun _ hz => (.fn rfl)) ?_
              refine DAny.take (i := 1) rfl (by kernel_rfl) [] (by kernel_rfl) (by kernel_rfl) (by kernel_rfl) rfl rfl rfl (v := V.bool (x_6093 != 0)) (fun _ hz => (.fn rfl)) ?_
              refine DAny.take (i := 2) rfl (by kernel_rfl) [] (by kernel_rfl) (by kernel_rfl) (by kernel_rfl) rfl rfl rfl (v := V.bool (x_6093 != 0)) (fun _ hz => (.fn rfl)) ?_
              refine ifG h (fun hc6095 h => ?_) (fun hc6095 h => ?_)
              · skip
                refine DAny.takeSkip (i := 3) rfl (by kernel_rfl) [] (by kernel_rfl) (by kernel_rfl) (by kernel_rfl) (congrArg (fun b => some (!b)) hc6095) rfl rfl ?_
                refine DAny.takeSkip (i := 4) rfl (by kernel_rfl) [] (by kernel_rfl) (by kernel_rfl) (by kernel_rfl) (congrArg (fun b => some (!b)) hc6095) rfl rfl ?_
                refine DAny.takeSkip (i := 5) rfl (by kernel_rfl) [] (by kernel_rfl) (by kernel_rfl) (by kernel_rfl) (congrArg (fun b => some (!b)) hc6095) rfl rfl ?_
                refine DAny.take (i := 6) rfl (by kernel_rfl) [] (by kernel_rfl) (by kernel_rfl) (by kernel_rfl) rfl rfl rfl (v := V.bool true) (fun _ hz => (.pickK rfl hc6095 rfl)) ?_
                refine DAny.take (i := 7) rfl (by kernel_rfl) [] (by kernel_rfl) (by kernel_rfl) (by kernel_rfl) rfl rfl rfl (v := V.bool true) (fun _ hz => (.fn rfl)) ?_
                refine DAny.takeSkip (i := 8) rfl (by kernel_rfl) [] (by kernel_rfl) (by kernel_rfl) (by kernel_rfl) rfl rfl rfl ?_
                refine DAny.takeSkip (i := 9) rfl (by kernel_rfl) [] (by kernel_rfl) (by kernel_rfl) (by kernel_rfl) rfl rfl rfl ?_
                refine DAny.takeSkip (i := 10) rfl (by kernel_rfl) [] (by kernel_rfl) (by kernel_rfl) (by kernel_rfl) rfl rfl rfl ?_
                refine DAny.takeSkip (i := 11) rfl (by kernel_rfl) [] (by kernel_rfl) (by kernel_rfl) (by kernel_rfl) rfl rfl rfl ?_
                refine DAny.takeSkip (i := 12) rfl (by kernel_rfl) [] (by kernel_rfl) (by kernel_rfl) (by kernel_rfl) rfl rfl rfl ?_
                refine DAny.takeSkip (i := 13) rfl (by kernel_rfl) [] (by kernel_rfl) (by kernel_rfl) (by kernel_rfl) rfl rfl rfl ?_
                refine DAny.takeSkip (i := 14) rfl (by kernel_rfl) [] (by kernel_rfl) (by kernel_rfl) (by kernel_rfl) rfl rfl rfl ?_
                refine DAny.takeSkip (i := 15) rfl (by kernel_rfl) [] (by kernel_rfl) (by kernel_rfl) (by kernel_rfl) rfl rfl rfl ?_
                refine DAny.take (i := 16) rfl (by kernel_rfl) [] (by kernel_rfl) (by kernel_rfl) (by kernel_rfl) rfl rfl rfl (v := V.bool true) (fun _ hz => (.pickK rfl rfl rfl)) ?_
                refine DAny.nil (by kernel_rfl) ?_
                repeat (first | refine Safe.seq ?_ | refine Safe.skip ?_ | with_reducible refine thenQ.n ?_ | with_reducible refine blockQ.n ?_)
                refine Safe.condK rfl rfl ?_
                repeat (first | refine Safe.seq ?_ | refine Safe.skip ?_ | with_reducible refine thenQ.n ?_ | with_reducible refine blockQ.n ?_)
                refine Safe.region ?_
                refine SafeOps.quiet0 E_good rfl rfl rfl (v := V.bool false) (.fn rfl) ?_
                refine SafeOps.nil ?_
                repeat (first | refine Safe.seq ?_ | refine Safe.skip ?_ | with_reducible refine thenQ.n ?_ | with_reducible refine blockQ.n ?_)
                refine Safe.ret ?_
                repeat (first | with_reducible refine thenQ.r ?_ | with_reducible refine blockQ.r ?_)
                refine inQ.gen (vs := [V.bool false]) (v := V.bool false) (.inr rfl) rfl (.tmp (v := V.bool false) rfl .nil) rfl ?_
                exact SafeOps.got (HJ6091 (false, v12_202_5731, vm_5732) h) (.cov ⟨rfl, rfl, (upT_cons (.refl _) upT_nil), (upOb_cons rfl (.refl _) (upOb_cons rfl (.refl _) (upOb_cons rfl (.refl _) (upOb_tl rfl (by repeat first | exact Tn.here | refine Tn.cons rfl ?_) rfl)))), (upOut_cons rfl upT_nil (upOut_cons rfl (upT_cons (.refl _) (upT_cons (.refl _) (upT_cons (.refl _) (upT_cons (.refl _) (upT_cons (.refl _) upT_nil))))) (upOut_cons rfl (upT_cons (.refl _) (upT_cons (.refl _) upT_nil)) (upOut_cons rfl upT_nil upOut_nil)))), (cl3 rfl (wi_cons rfl (wi_cons rfl (wi_cons rfl (wi_tl rfl (by repeat first | exact Tn.here | refine Tn.cons rfl ?_) (fun _ => rfl) nob)))) rfl)⟩)
              · skip
                refine DAny.take (i := 3) rfl (by kernel_rfl) [] (by kernel_rfl) (by kernel_rfl) (by kernel_rfl) (congrArg (fun b => some (!b)) hc6095) rfl rfl (v := V.ptr [12, 23, 16, 6, 24, 3] 0 0) (fun _ hz => (.fn rfl)) ?_
                refine DAny.take (i := 4) rfl (by kernel_rfl) [] (by kernel_rfl) (by kernel_rfl) (by kernel_rfl) (congrArg (fun b => some (!b)) hc6095) rfl rfl (v := V.int .i64 ((gt a1_5 v8_5730).Kind)) (fun _ hz => (.load rfl rfl (.box (hz _ _ rfl rfl) rfl) rfl)) ?_
                refine DAny.take (i := 5) rfl (by kernel_rfl) [] (by kernel_rfl) (by kernel_rfl) (by kernel_rfl) (congrArg (fun b => some (!b)) hc6095) rfl rfl (v := V.bool (((gt a1_5 v8_5730).Kind) != 1)) (fun _ hz => (.fn rfl)) ?_
                refine DAny.take (i := 6) rfl (by kernel_rfl) [] (by kernel_rfl) (by kernel_rfl) (by kernel_rfl) rfl rfl rfl (v := V.bool (((gt a1_5 v8_5730).Kind) != 1)) (fun _ hz => (.pickK rfl hc6095 rfl)) ?_
                refine DAny.take (i := 7) rfl (by kernel_rfl) [] (by kernel_rfl) (by kernel_rfl) (by kernel_rfl) rfl rfl rfl (v := V.bool (((gt a1_5 v8_5730).Kind) != 1)) (fun _ hz => (.fn rfl)) ?_
                refine ifG h (fun hc6096 h => ?_) (fun hc6096 h => ?_)
                · skip
                  refine DAny.takeSkip (i := 8) rfl (by kernel_rfl) [] (by kernel_rfl) (by kernel_rfl) (by kernel_rfl) (congrArg (fun b => some (!b)) hc6096) rfl rfl ?_
                  refine DAny.takeSkip (i := 9) rfl (by kernel_rfl) [] (by kernel_rfl) (by kernel_rfl) (by kernel_rfl) (congrArg (fun b => some (!b)) hc6096) rfl rfl ?_
                  refine DAny.takeSkip (i := 10) rfl (by kernel_rfl) [] (by kernel_rfl) (by kernel_rfl) (by kernel_rfl) (congrArg (fun b => some (!b)) hc6096) rfl rfl ?_
                  refine DAny.takeSkip (i := 11) rfl (by kernel_rfl) [] (by kernel_rfl) (by kernel_rfl) (by kernel_rfl) (congrArg (fun b => some (!b)) hc6096) rfl rfl ?_
                  refine DAny.takeSkip (i := 12) rfl (by kernel_rfl) [] (by kernel_rfl) (by kernel_rfl) (by kernel_rfl) (congrArg (fun b => some (!b)) hc6096) rfl rfl ?_
                  refine DAny.takeSkip (i := 13) rfl (by kernel_rfl) [] (by kernel_rfl) (by kernel_rfl) (by kernel_rfl) (congrArg (fun b => some (!b)) hc6096) rfl rfl ?_
                  refine DAny.takeSkip (i := 14) rfl (by kernel_rfl) [] (by kernel_rfl) (by kernel_rfl) (by kernel_rfl) (congrArg (fun b => some (!b)) hc6096) rfl rfl ?_
                  refine DAny.takeSkip (i := 15) rfl (by kernel_rfl) [] (by kernel_rfl) (by kernel_rfl) (by kernel_rfl) (congrArg (fun b => some (!b)) hc6096) rfl rfl ?_
                  refine DAny.take (i := 16) rfl (by kernel_rfl) [] (by kernel_rfl) (by kernel_rfl) (by kernel_rfl) rfl rfl rfl (v := V.bool true) (fun _ hz => (.pickK rfl hc6096 rfl)) ?_
                  refine DAny.nil (by kernel_rfl) ?_
                  repeat (first | refine Safe.seq ?_ | refine Safe.skip ?_ | with_reducible refine thenQ.n ?_ | with_reducible refine blockQ.n ?_)
                  refine Safe.condK rfl rfl ?_
                  repeat (first | refine Safe.seq ?_ | refine Safe.skip ?_ | with_reducible refine thenQ.n ?_ | with_reducible refine blockQ.n ?_)
                  refine Safe.region ?_
                  refine SafeOps.quiet0 E_good rfl rfl rfl (v := V.bool false) (.fn rfl) ?_
                  refine SafeOps.nil ?_
                  repeat (first | refine Safe.seq ?_ | refine Safe.skip ?_ | with_reducible refine thenQ.n ?_ | with_reducible refine blockQ.n ?_)
                  refine Safe.ret ?_
                  repeat (first | with_reducible refine thenQ.r ?_ | with_reducible refine blockQ.r ?_)
                  refine inQ.gen (vs := [V.bool false]) (v := V.bool false) (.inr rfl) rfl (.tmp (v := V.bool false) rfl .nil) rfl ?_
                  exact SafeOps.got (HJ6091 (false, v12_202_5731, vm_5732) h) (.cov ⟨rfl, rfl, (upT_cons (.refl _) upT_nil), (upOb_cons rfl (.refl _) (upOb_cons rfl (.refl _) (upOb_cons rfl (.refl _) (upOb_tl rfl (by repeat first | exact Tn.here | refine Tn.cons rfl ?_) rfl)))), (upOut_cons rfl upT_nil (upOut_cons rfl (upT_cons (.refl _) (upT_cons (.refl _) (upT_cons (.refl _) (upT_cons (.refl _) (upT_cons (.refl _) upT_nil))))) (upOut_cons rfl (upT_cons (.refl _) (upT_cons (.refl _) upT_nil)) (upOut_cons rfl upT_nil upOut_nil)))), (cl3 rfl (wi_cons rfl (wi_cons rfl (wi_cons rfl (wi_tl rfl (by repeat first | exact Tn.here | refine Tn.cons rfl ?_) (fun _ => rfl) nob)))) rfl)⟩)
                · skip
                  refine DAny.take (i := 8) rfl (by kernel_rfl) [] (by kernel_rfl) (by kernel_rfl) (by kernel_rfl) (congrArg (fun b => some (!b)) hc6096) rfl rfl (v := V.ptr [12, 23, 16, 6, 24, 3] 0 2) (fun _ hz => (.fn rfl)) ?_
                  refine DAny.take (i := 9) rfl (by kernel_rfl) [] (by kernel_rfl) (by kernel_rfl) (by kernel_rfl) (congrArg (fun b => some (!b)) hc6096) rfl rfl (v := V.int .i64 ((gt a1_5 v8_5730).A)) (fun _ hz => (.load rfl rfl (.box (hz _ _ rfl rfl) rfl) rfl)) ?_
                  refine DAny.take (i := 10) rfl (by kernel_rfl) [] (by kernel_rfl) (by kernel_rfl) (by kernel_rfl) (congrArg (fun b => some (!b)) hc6096) rfl rfl (v := V.ptr [12, 20] 0 0) (fun _ hz => (.fn rfl)) ?_
                  refine DAny.take (i := 11) rfl (by kernel_rfl) [] (by kernel_rfl) (by kernel_rfl) (by kernel_rfl) (congrArg (fun b => some (!b)) hc6096) rfl rfl (v := V.ptr [12, 20] 0 0) (fun _ hz => (.fn rfl)) ?_
                  refine DAny.take (i := 12) rfl (by kernel_rfl) [] (by kernel_rfl) (by kernel_rfl) (by kernel_rfl) (congrArg (fun b => some (!b)) hc6096) rfl rfl (v := V.ptr [12, 20] 0 0) (fun _ hz => (.fn rfl)) ?_
                  refine DAny.take (i := 13) rfl (by kernel_rfl) [] (by kernel_rfl) (by kernel_rfl) (by kernel_rfl) (congrArg (fun b => some (!b)) hc6096) rfl rfl (v := V.sl 1 (rws (fun l => [V.sl 3 (rws api_Instr.cells l)]) a0_4)) (fun _ hz => (.load rfl rfl (.box (hz _ _ rfl rfl) rfl) rfl)) ?_
                  refine DAny.take (i := 14) rfl (by kernel_rfl) [] (by kernel_rfl) (by kernel_rfl) (by kernel_rfl) (congrArg (fun b => some (!b)) hc6096) rfl rfl (v := V.int .i64 (a0_4.length : Int)) (fun _ hz => (.fnE rfl lenE)) ?_
                  refine DAny.take (i := 15) rfl (by kernel_rfl) [] (by kernel_rfl) (by kernel_rfl) (by kernel_rfl) (congrArg (fun b => some (!b)) hc6096) rfl rfl (v := V.bool (decide (((gt a1_5 v8_5730).A) ≥ (a0_4.length : Int)))) (fun _ hz => (.fn rfl)) ?_
                  refine DAny.take (i := 16) rfl (by kernel_rfl) [] (by kernel_rfl) (by kernel_rfl) (by kernel_rfl) rfl rfl rfl (v := V.bool (decide (((gt a1_5 v8_5730).A) ≥ (a0_4.length : Int)))) (fun _ hz => (.pickK rfl hc6096 rfl)) ?_
                  refine DAny.nil (by kernel_rfl) ?_
                  repeat (first | refine Safe.seq ?_ | refine Safe.skip ?_ | with_reducible refine thenQ.n ?_ | with_reducible refine blockQ.n ?_)
                  refine ifG h (fun hc6097 h => ?_) (fun hc6097 h => ?_)
                  · skip
                    refine Safe.condK rfl hc6097 ?_
                    repeat (first | refine Safe.seq ?_ | refine Safe.skip ?_ | with_reducible refine thenQ.n ?_ | with_reducible refine blockQ.n ?_)
                    refine Safe.region ?_
                    refine SafeOps.quiet0 E_good rfl rfl rfl (v := V.bool false) (.fn rfl) ?_
                    refine SafeOps.nil ?_
                    repeat (first | refine Safe.seq ?_ | refine Safe.skip ?_ | with_reducible refine thenQ.n ?_ | with_reducible refine blockQ.n ?_)
                    refine Safe.ret ?_
                    repeat (first | with_reducible refine thenQ.r ?_ | with_reducible refine blockQ.r ?_)
                    refine inQ.gen (vs := [V.bool false]) (v := V.bool false) (.inr rfl) rfl (.tmp (v := V.bool false) rfl .nil) rfl ?_
                    exact SafeOps.got (HJ6091 (false, v12_202_5731, vm_5732) h) (.cov ⟨rfl, rfl, (upT_cons (.refl _) upT_nil), (upOb_cons rfl (.refl _) (upOb_cons rfl (.refl _) (upOb_cons rfl (.refl _) (upOb_tl rfl (by repeat first | exact Tn.here | refine Tn.cons rfl ?_) rfl)))), (upOut_cons rfl upT_nil (upOut_cons rfl (upT_cons (.refl _) (upT_cons (.refl _) (upT_cons (.refl _) (upT_cons (.refl _) (upT_cons (.refl _) upT_nil))))) (upOut_cons rfl (upT_cons (.refl _) (upT_cons (.refl _) upT_nil)) (upOut_cons rfl upT_nil upOut_nil)))), (cl3 rfl (wi_cons rfl (wi_cons rfl (wi_cons rfl (wi_tl rfl (by repeat first | exact Tn.here | refine Tn.cons rfl ?_) (fun _ => rfl) nob)))) rfl)⟩)
                  · skip
                    refine Safe.condN rfl hc6097 ?_
                    repeat (first | refine Safe.seq ?_ | refine Safe.skip ?_ | with_reducible refine thenQ.n ?_ | with_reducible refine blockQ.n ?_)
                    refine Safe.regionD (n := 11) [] [10] E_good mixed rfl ?_
                    refine DAny.take (i := 0) rfl (by kernel_rfl) [] (by kernel_rfl) (by kernel_rfl) (by kernel_rfl) rfl rfl rfl (v := V.ptr [12, 20] 0 0) (fun _ hz => (.fn rfl)) ?_
                    refine DAny.take (i := 1) rfl (by kernel_rfl) [] (by kernel_rfl) (by kernel_rfl) (by kernel_rfl) rfl rfl rfl (v := V.ptr [12, 20] 0 0) (fun _ hz => (.fn rfl)) ?_
                    refine DAny.take (i := 2) rfl (by kernel_rfl) [] (by kernel_rfl) (by kernel_rfl) (by kernel_rfl) rfl rfl rfl (v := V.ptr [12, 20] 0 1) (fun _ hz => (.fn rfl)) ?_
                    refine DAny.take (i := 3) rfl (by kernel_rfl) [] (by kernel_rfl) (by kernel_rfl) (by kernel_rfl) rfl rfl rfl (v := V.mapr [12, 18]) (fun _ hz => (.load rfl rfl (.box (hz _ _ rfl rfl) rfl) rfl)) ?_
                    refine DAny.take (i := 4) rfl (by kernel_rfl) [] (by kernel_rfl) (by kernel_rfl) (by kernel_rfl) rfl rfl rfl (v := V.ptr [12, 23, 16, 6, 24, 3] 0 1) (fun _ hz => (.fn rfl)) ?_
                    refine DAny.take (i := 5) rfl (by kernel_rfl) [] (by kernel_rfl) (by kernel_rfl) (by kernel_rfl) rfl rfl rfl (v := V.int .i64 ((gt a1_5 v8_5730).Id)) (fun _ hz => (.load rfl rfl (.box (hz _ _ rfl rfl) rfl) rfl)) ?_
                    refine DAny.take (i := 6) rfl (by kernel_rfl) [] (by kernel_rfl) (by kernel_rfl) (by kernel_rfl) rfl rfl rfl (v := V.agg [V.int .i64 x_6092.Id, V.int .i64 x_6092.Tenant, V.int .i64 x_6092.Prog, V.int .i64 x_6092.Pc, V.int .i64 x_6092.Unit, V.int .i64 x_6092.Keeps.a0, V.int .i64 x_6092.Keeps.a1, V.int .i64 x_6092.Keeps.a2, V.int .i64 x_6092.Keeps.a3, V.int .i64 x_6092.State, V.int .i64 x_6092.Ran]) (fun _ hz => (.load rfl rfl (.box (hz _ _ rfl rfl) rfl) rfl)) ?_
                    refine DAny.take (i := 7) rfl (by kernel_rfl) [] (by kernel_rfl) (by kernel_rfl) (by kernel_rfl) rfl rfl rfl (v := V.agg [V.int .i64 ((gt a1_5 v8_5730).Kind), V.int .i64 ((gt a1_5 v8_5730).Id), V.int .i64 ((gt a1_5 v8_5730).A)]) (fun _ hz => (.load rfl rfl (.box (hz _ _ rfl rfl) rfl) rfl)) ?_
                    refine DAny.take (i := 8) rfl (by kernel_rfl) [] (by kernel_rfl) (by kernel_rfl) (by kernel_rfl) rfl rfl rfl (v := V.agg [V.int .i64 x_6092.Id, V.int .i64 x_6092.Tenant, V.int .i64 x_6092.Prog, V.int .i64 x_6092.Pc, V.int .i64 x_6092.Unit, V.int .i64 x_6092.Keeps.a0, V.int .i64 x_6092.Keeps.a1, V.int .i64 x_6092.Keeps.a2, V.int .i64 x_6092.Keeps.a3, V.int .i64 x_6092.State, V.int .i64 x_6092.Ran, V.int .i64 ((gt a1_5 v8_5730).Kind), V.int .i64 ((gt a1_5 v8_5730).Id), V.int .i64 ((gt a1_5 v8_5730).A)]) (fun _ hz => (.fn rfl)) ?_
                    refine DAny.only (i := 9) rfl (by kernel_rfl) (.quiet rfl rfl rfl (.box rfl rfl) (by repeat first | exact rfl | refine fresh_cons (fr_tl (M := [12, 18]) (fk := (fun n : Int => V.int .i64 n)) (f := trace_seen.cells) (h := none) (m := vm_5732) rfl rfl (by repeat first | exact Tf.here | refine Tf.cons rfl ?_)) ?_) ?_)
                    refine DAny.onlyS (i := 10) rfl (by kernel_rfl) rfl ?_
                    refine SafeOps.putP (M := [12, 18]) (fun n : Int => V.int .i64 n) trace_seen.cells vm_5732 ((gt a1_5 v8_5730).Id) (trace_seen.mk x_6092 (gt a1_5 v8_5730)) [12, 23, 16, 6, 24, 41] E_good (keyI .i64) hm6079 rfl (.inl rfl) rfl rfl rfl rfl rfl rfl rfl rfl rfl (by repeat first | exact Tt.here | apply Tt.cons) rfl ?_
                    refine SafeOps.nil ⟨rfl, ?_⟩
                    refine DAny.nil (by kernel_rfl) ?_
                    repeat (first | refine Safe.seq ?_ | refine Safe.skip ?_ | with_reducible refine thenQ.n ?_ | with_reducible refine blockQ.n ?_)
                    refine Safe.gets (τ := ⟨Tryd.f43.ntmps, [(0, V.ptr [12, 20] 0 0), (3, V.ptr [12, 23, 16, 6, 24, 3] 0 0)], ([12, 7], Obj.box [V.ptr [12, 20] 0 0]) :: ([12, 20], Obj.box [V.sl 1 (rws (fun l => [V.sl 3 (rws api_Instr.cells l)]) a0_4), V.mapr [12, 18], V.ref [7000, 114, 12, 20, 2] 0 (rws (fun n => [V.int .i64 n]) v12_202_5731).length]) :: ([12, 23, 16, 2], Obj.box [V.int .i64 ((gt a1_5 v8_5730).Kind), V.int .i64 ((gt a1_5 v8_5730).Id), V.int .i64 ((gt a1_5 v8_5730).A)]) :: ([12, 23, 16, 6, 3], Obj.box [V.int .i64 ((gt a1_5 v8_5730).Kind), V.int .i64 ((gt a1_5 v8_5730).Id), V.int .i64 ((gt a1_5 v8_5730).A)]) :: ([12, 23, 16, 6, 24, 3], Obj.box [V.int .i64 ((gt a1_5 v8_5730).Kind), V.int .i64 ((gt a1_5 v8_5730).Id), V.int .i64 ((gt a1_5 v8_5730).A)]) :: ([12, 23, 16, 6, 24, 5], Obj.box [V.int .i64 x_6092.Id, V.int .i64 x_6092.Tenant, V.int .i64 x_6092.Prog, V.int .i64 x_6092.Pc, V.int .i64 x_6092.Unit, V.int .i64 x_6092.Keeps.a0, V.int .i64 x_6092.Keeps.a1, V.int .i64 x_6092.Keeps.a2, V.int .i64 x_6092.Keeps.a3, V.int .i64 x_6092.State, V.int .i64 x_6092.Ran]) :: ([12, 23, 16, 6, 24, 41], Obj.box [V.int .i64 x_6092.Id, V.int .i64 x_6092.Tenant, V.int .i64 x_6092.Prog, V.int .i64 x_6092.Pc, V.int .i64 x_6092.Unit, V.int .i64 x_6092.Keeps.a0, V.int .i64 x_6092.Keeps.a1, V.int .i64 x_6092.Keeps.a2, V.int .i64 x_6092.Keeps.a3, V.int .i64 x_6092.State, V.int .i64 x_6092.Ran, V.int .i64 ((gt a1_5 v8_5730).Kind), V.int .i64 ((gt a1_5 v8_5730).Id), V.int .i64 ((gt a1_5 v8_5730).A)]) :: ([7000, 114, 12, 20, 2], Obj.rows 1 (rws (fun n => [V.int .i64 n]) v12_202_5731) false) :: (pmo [12, 18] (fun n : Int => V.int .i64 n) trace_seen.cells (some (mix ((gt a1_5 v8_5730).Id) vm_5732, [12, 23, 16, 6, 24, 41])) (mput vm_5732 ((gt a1_5 v8_5730).Id) (trace_seen.mk x_6092 (gt a1_5 v8_5730)))), [(Tryd.f34.ntmps, []), (Tryd.f33.ntmps, []), (Tryd.f32.ntmps, [(0, V.sl 3 (rws api_Event.cells a1_5)), (1, V.fn 33 [V.ptr [12, 7] 0 0]), (5, V.int .i64 v8_5730), (7, V.int .i64 (a1_5.length : Int)), (8, V.int .i64 v8_5730)]), (Tryd.f25.ntmps, [(1, V.sl 3 (rws api_Event.cells a1_5)), (7, V.ptr [12, 7] 0 0)]), (Tryd.f11.ntmps, [])], [12, 23, 16, 6, 24]⟩) (.cov ⟨rfl, rfl, (upT_cons (.refl _) (upT_cons (.refl _) upT_nil)), (upOb_cons rfl (.refl _) (upOb_cons rfl (.refl _) (upOb_cons rfl (.refl _) (upOb_cons rfl (.refl _) (upOb_cons rfl (.refl _) (upOb_cons rfl (.refl _) (upOb_cons rfl (.refl _) (upOb_cons rfl (.refl _) (upOb_tl rfl (by repeat first | exact Tn.here | refine Tn.cons rfl ?_) rfl))))))))), (upOut_cons rfl upT_nil (upOut_cons rfl upT_nil (upOut_cons rfl (upT_cons (.refl _) (upT_cons (.refl _) (upT_cons (.refl _) (upT_cons (.refl _) (upT_cons (.refl _) upT_nil))))) (upOut_cons rfl (upT_cons (.refl _) (upT_cons (.refl _) upT_nil)) (upOut_cons rfl upT_nil upOut_nil))))), (cl3 rfl (wi_cons rfl (wi_cons rfl (wi_cons rfl (wi_cons rfl (wi_cons rfl (wi_cons rfl (wi_cons rfl (wi_cons rfl (wi_tl rfl (by repeat first | exact Tn.here | refine Tn.cons rfl ?_) (fun _ => rfl) (sob rfl)))))))))) rfl)⟩) ?_
                    refine Safe.giveP (M := [12, 18]) (fun n : Int => V.int .i64 n) trace_seen.cells vm_5732 ((gt a1_5 v8_5730).Id) (trace_seen.mk x_6092 (gt a1_5 v8_5730)) (trace_seen.mk x_6092 (gt a1_5 v8_5730)) [12, 23, 16, 6, 24, 41] rfl rfl rfl rfl rfl (fun _ _ _ => rfl) (by repeat first | exact Tg.here | apply Tg.drop rfl rfl | apply Tg.cons rfl rfl) rfl rfl ?_
                    repeat (first | refine Safe.seq ?_ | refine Safe.skip ?_ | with_reducible refine thenQ.n ?_ | with_reducible refine blockQ.n ?_)
                    refine Safe.regionD (n := 12) [(8, [7000, 114, 12, 20, 2]), (11, [12, 20])] [] E_good mixed rfl ?_
                    refine DAny.take (i := 0) rfl (by kernel_rfl) [[12, 20], [7000, 114, 12, 20, 2]] (by kernel_rfl) (by kernel_rfl) (by kernel_rfl) rfl rfl rfl (v := V.ptr [12, 20] 0 0) (fun _ hz => (.fn rfl)) ?_
                    refine DAny.take (i := 1) rfl (by kernel_rfl) [[12, 20], [7000, 114, 12, 20, 2]] (by kernel_rfl) (by kernel_rfl) (by kernel_rfl) rfl rfl rfl (v := V.ptr [12, 20] 0 0) (fun _ hz => (.fn rfl)) ?_
                    refine DAny.take (i := 2) rfl (by kernel_rfl) [[12, 20], [7000, 114, 12, 20, 2]] (by kernel_rfl) (by kernel_rfl) (by kernel_rfl) rfl rfl rfl (v := V.ptr [12, 20] 0 0) (fun _ hz => (.fn rfl)) ?_
                    refine DAny.take (i := 3) rfl (by kernel_rfl) [[12, 20], [7000, 114, 12, 20, 2]] (by kernel_rfl) (by kernel_rfl) (by kernel_rfl) rfl rfl rfl (v := V.ptr [12, 20] 0 2) (fun _ hz => (.fn rfl)) ?_
                    refine DAny.take (i := 4) rfl (by kernel_rfl) [[7000, 114, 12, 20, 2]] (by kernel_rfl) (by kernel_rfl) (by kernel_rfl) rfl rfl rfl (v := V.ref [7000, 114, 12, 20, 2] 0 (rws (fun n => [V.int .i64 n]) v12_202_5731).length) (fun _ hz => (.load rfl rfl (.box (hz _ _ rfl rfl) rfl) rfl)) ?_
                    refine DAny.take (i := 5) rfl (by kernel_rfl) [[12, 20], [7000, 114, 12, 20, 2]] (by kernel_rfl) (by kernel_rfl) (by kernel_rfl) rfl rfl rfl (v := V.ptr [12, 23, 16, 6, 24, 3] 0 1) (fun _ hz => (.fn rfl)) ?_
                    refine DAny.take (i := 6) rfl (by kernel_rfl) [[12, 20], [7000, 114, 12, 20, 2]] (by kernel_rfl) (by kernel_rfl) (by kernel_rfl) rfl rfl rfl (v := V.int .i64 ((gt a1_5 v8_5730).Id)) (fun _ hz => (.load rfl rfl (.box (hz _ _ rfl rfl) rfl) rfl)) ?_
                    refine DAny.only (i := 7) rfl (by kernel_rfl) (.quiet rfl rfl rfl (.litM (f := (fun n => [V.int .i64 n])) (xs := [(gt a1_5 v8_5730).Id]) rfl rfl (by decide) rfl rfl rfl rfl rfl) (by repeat first | exact rfl | refine fresh_cons (fr_tl (M := [12, 18]) (fk := (fun n : Int => V.int .i64 n)) (f := trace_seen.cells) (h := none) (m := (mput vm_5732 ((gt a1_5 v8_5730).Id) (trace_seen.mk x_6092 (gt a1_5 v8_5730)))) rfl rfl (by repeat first | exact Tf.here | refine Tf.cons rfl ?_)) ?_) ?_)
                    refine okG h (fun hb6098 h => ?_)
                    refine DAny.only (i := 8) rfl (by kernel_rfl) (.appendM (fun n => [V.int .i64 n]) (xs := v12_202_5731) (ys := [(gt a1_5 v8_5730).Id]) rfl rfl rfl rfl rfl rfl rfl rfl (fr_tl (M := [12, 18]) (fk := (fun n : Int => V.int .i64 n)) (f := trace_seen.cells) (h := none) (m := (mput vm_5732 ((gt a1_5 v8_5730).Id) (trace_seen.mk x_6092 (gt a1_5 v8_5730)))) rfl rfl (by repeat first | exact Tf.here | refine Tf.cons rfl ?_)) (.own rfl) (.own rfl) (fun _ => rfl) hb6098 rfl ?_)
                    refine DAny.take (i := 9) rfl (by kernel_rfl) [[12, 20], [7000, 114, 12, 20, 2]] (by kernel_rfl) (by kernel_rfl) (by kernel_rfl) rfl rfl rfl (v := V.ptr [12, 20] 0 0) (fun _ hz => (.fn rfl)) ?_
                    refine DAny.take (i := 10) rfl (by kernel_rfl) [[12, 20], [7000, 114, 12, 20, 2]] (by kernel_rfl) (by kernel_rfl) (by kernel_rfl) rfl rfl rfl (v := V.ptr [12, 20] 0 2) (fun _ hz => (.fn rfl)) ?_
                    refine DAny.only (i := 11) rfl (by kernel_rfl) (.store (z := Obj.box [V.sl 1 (rws (fun l => [V.sl 3 (rws api_Instr.cells l)]) a0_4), V.mapr [12, 18], V.ref [12, 23, 16, 6, 24, 50] 0 (rws (fun n => [V.int .i64 n]) (v12_202_5731 ++ [(gt a1_5 v8_5730).Id])).length]) rfl rfl rfl rfl rfl rfl rfl (.boxM (c := 3) rfl rfl (Nat.le_of_ble_eq_true rfl) rfl) rfl ?_)
                    refine DAny.nil (by kernel_rfl) ?_
                    repeat (first | refine Safe.seq ?_ | refine Safe.skip ?_ | with_reducible refine thenQ.n ?_ | with_reducible refine blockQ.n ?_)
                    refine Safe.region ?_
                    refine SafeOps.quiet0 E_good rfl rfl rfl (v := V.bool true) (.fn rfl) ?_
                    refine SafeOps.nil ?_
                    repeat (first | refine Safe.seq ?_ | refine Safe.skip ?_ | with_reducible refine thenQ.n ?_ | with_reducible refine blockQ.n ?_)
                    refine Safe.ret ?_
                    repeat (first | with_reducible refine thenQ.r ?_ | with_reducible refine blockQ.r ?_)
                    refine inQ.gen (vs := [V.bool true]) (v := V.bool true) (.inr rfl) rfl (.tmp (v := V.bool true) rfl .nil) rfl ?_
                    exact SafeOps.got (HJ6091 (true, v12_202_5731 ++ [(gt a1_5 v8_5730).Id], mput vm_5732 ((gt a1_5 v8_5730).Id) (trace_seen.mk x_6092 (gt a1_5 v8_5730))) h) (.renp (M := [12, 18]) (fun n : Int => V.int .i64 n) trace_seen.cells none (mput vm_5732 ((gt a1_5 v8_5730).Id) (trace_seen.mk x_6092 (gt a1_5 v8_5730))) [12, 23, 16, 6, 24, 50] [7000, 114, 12, 20, 2] rfl rfl rfl rfl rfl (fun _ _ _ => rfl) (fun _ _ e => by cases e) (by repeat first | exact Tp.here | refine Tp.cons rfl ?_) (.cov ⟨rfl, rfl, (upT_cons (.refl _) upT_nil), (upOb_cons rfl (.refl _) (upOb_cons rfl (.refl _) (upOb_cons rfl (.refl _) (upOb_tl rfl (by repeat first | exact Tn.here | refine Tn.cons rfl ?_) rfl)))), (upOut_cons rfl upT_nil (upOut_cons rfl (upT_cons (.refl _) (upT_cons (.refl _) (upT_cons (.refl _) (upT_cons (.refl _) (upT_cons (.refl _) upT_nil))))) (upOut_cons rfl (upT_cons (.refl _) (upT_cons (.refl _) upT_nil)) (upOut_cons rfl upT_nil upOut_nil)))), (cl3 rfl (wi_cons rfl (wi_cons rfl (wi_cons rfl (wi_tl rfl (by repeat first | exact Tn.here | refine Tn.cons rfl ?_) (fun _ => rfl) nob)))) rfl)⟩))
          · skip
            refine SafeOps.lookP1 (M := [12, 18]) (fun n : Int => V.int .i64 n) trace_seen.cells vm_5732 ((gt a1_5 v8_5730).Id) e_6080 [12, 23, 16, 6, 17, 1] E_good (keyI .i64) hm6079 rfl rfl rfl rfl rfl rfl rfl rfl rfl rfl rfl rfl rfl rfl rfl rfl (by decide) (fun _ _ _ => rfl) (by repeat first | exact Tg.here | apply Tg.cons rfl rfl) rfl rfl ?_
            refine SafeOps.nil ⟨rfl, ?_⟩
            refine DAny.take (i := 7) rfl (by kernel_rfl) [] (by kernel_rfl) (by kernel_rfl) (by kernel_rfl) rfl rfl rfl (v := V.tup [V.ptr [12, 23, 16, 6, 17, 1] 0 0, V.bool true]) (fun _ hz => (.fn rfl)) ?_
            refine DAny.take (i := 8) rfl (by kernel_rfl) [] (by kernel_rfl) (by kernel_rfl) (by kernel_rfl) rfl rfl rfl (v := V.ptr [12, 23, 16, 6, 17, 1] 0 0) (fun _ hz => (.fn rfl)) ?_
            refine DAny.take (i := 9) rfl (by kernel_rfl) [] (by kernel_rfl) (by kernel_rfl) (by kernel_rfl) rfl rfl rfl (v := V.bool true) (fun _ hz => (.fn rfl)) ?_
            refine DAny.take (i := 10) rfl (by kernel_rfl) [] (by kernel_rfl) (by kernel_rfl) (by kernel_rfl) rfl rfl rfl (v := V.ptr [12, 23, 16, 6, 17, 1] 0 0) (fun _ hz => (.fn rfl)) ?_
            refine DAny.take (i := 11) rfl (by kernel_rfl) [] (by kernel_rfl) (by kernel_rfl) (by kernel_rfl) rfl rfl rfl (v := V.bool true) (fun _ hz => (.fn rfl)) ?_
            refine DAny.nil (by kernel_rfl) ?_
            repeat (first | refine Safe.seq ?_ | refine Safe.skip ?_ | with_reducible refine thenQ.n ?_ | with_reducible refine blockQ.n ?_)
            refine Safe.region ?_
            refine SafeOps.quiet0 E_good rfl rfl rfl (v := V.bool true) (.fn rfl) ?_
            refine SafeOps.quiet0 E_good rfl rfl rfl (v := V.bool false) (.fn rfl) ?_
            refine SafeOps.nil ?_
            repeat (first | refine Safe.seq ?_ | refine Safe.skip ?_ | with_reducible refine thenQ.n ?_ | with_reducible refine blockQ.n ?_)
            refine Safe.condN rfl rfl ?_
            repeat (first | refine Safe.seq ?_ | refine Safe.skip ?_ | with_reducible refine thenQ.n ?_ | with_reducible refine blockQ.n ?_)
            refine Safe.regionD (n := 14) [] [] E_good mixed rfl ?_
            refine DAny.take (i := 0) rfl (by kernel_rfl) [] (by kernel_rfl) (by kernel_rfl) (by kernel_rfl) rfl rfl rfl (v := V.ptr [12, 23, 16, 6, 17, 1] 0 0) (fun _ hz => (.fn rfl)) ?_
            refine DAny.take (i := 1) rfl (by kernel_rfl) [] (by kernel_rfl) (by kernel_rfl) (by kernel_rfl) rfl rfl rfl (v := V.ptr [12, 23, 16, 6, 17, 1] 0 0) (fun _ hz => (.fn rfl)) ?_
            refine DAny.take (i := 2) rfl (by kernel_rfl) [] (by kernel_rfl) (by kernel_rfl) (by kernel_rfl) rfl rfl rfl (v := V.ptr [12, 23, 16, 6, 17, 1] 0 0) (fun _ hz => (.fn rfl)) ?_
            refine DAny.take (i := 3) rfl (by kernel_rfl) [] (by kernel_rfl) (by kernel_rfl) (by kernel_rfl) rfl rfl rfl (v := V.ptr [12, 23, 16, 6, 17, 1] 0 9) (fun _ hz => (.fn rfl)) ?_
            refine DAny.take (i := 4) rfl (by kernel_rfl) [] (by kernel_rfl) (by kernel_rfl) (by kernel_rfl) rfl rfl rfl (v := V.int .i64 e_6080.Task.State) (fun _ hz => (.load rfl rfl (.box (hz _ _ rfl rfl) rfl) rfl)) ?_
            refine DAny.take (i := 5) rfl (by kernel_rfl) [] (by kernel_rfl) (by kernel_rfl) (by kernel_rfl) rfl rfl rfl (v := V.bool (e_6080.Task.State == 1)) (fun _ hz => (.fn rfl)) ?_
            refine DAny.take (i := 6) rfl (by kernel_rfl) [] (by kernel_rfl) (by kernel_rfl) (by kernel_rfl) rfl rfl rfl (v := V.ptr [12, 23, 16, 6, 17, 1] 0 0) (fun _ hz => (.fn rfl)) ?_
            refine DAny.take (i := 7) rfl (by kernel_rfl) [] (by kernel_rfl) (by kernel_rfl) (by kernel_rfl) rfl rfl rfl (v := V.ptr [12, 23, 16, 6, 17, 1] 0 0) (fun _ hz => (.fn rfl)) ?_
            refine DAny.take (i := 8) rfl (by kernel_rfl) [] (by kernel_rfl) (by kernel_rfl) (by kernel_rfl) rfl rfl rfl (v := V.ptr [12, 23, 16, 6, 17, 1] 0 11) (fun _ hz => (.fn rfl)) ?_
            refine DAny.take (i := 9) rfl (by kernel_rfl) [] (by kernel_rfl) (by kernel_rfl) (by kernel_rfl) rfl rfl rfl (v := V.ptr [12, 23, 16, 6, 17, 1] 0 11) (fun _ hz => (.fn rfl)) ?_
            refine DAny.take (i := 10) rfl (by kernel_rfl) [] (by kernel_rfl) (by kernel_rfl) (by kernel_rfl) rfl rfl rfl (v := V.int .i64 e_6080.last.Kind) (fun _ hz => (.load rfl rfl (.box (hz _ _ rfl rfl) rfl) rfl)) ?_
            refine DAny.take (i := 11) rfl (by kernel_rfl) [] (by kernel_rfl) (by kernel_rfl) (by kernel_rfl) rfl rfl rfl (v := V.bool (e_6080.last.Kind == 2)) (fun _ hz => (.fn rfl)) ?_
            refine DAny.take (i := 12) rfl (by kernel_rfl) [] (by kernel_rfl) (by kernel_rfl) (by kernel_rfl) rfl rfl rfl (v := V.bool (e_6080.Task.State == 1)) (fun _ hz => (.fn rfl)) ?_
            refine DAny.take (i := 13) rfl (by kernel_rfl) [] (by kernel_rfl) (by kernel_rfl) (by kernel_rfl) rfl rfl rfl (v := V.bool (e_6080.last.Kind == 2)) (fun _ hz => (.fn rfl)) ?_
            refine DAny.nil (by kernel_rfl) ?_
            repeat (first | refine Safe.seq ?_ | refine Safe.skip ?_ | with_reducible refine thenQ.n ?_ | with_reducible refine blockQ.n ?_)
            refine Safe.region ?_
            refine SafeOps.quiet0 E_good rfl rfl rfl (v := V.bool false) (.fn rfl) ?_
            refine SafeOps.nil ?_
            repeat (first | refine Safe.seq ?_ | refine Safe.skip ?_ | with_reducible refine thenQ.n ?_ | with_reducible refine blockQ.n ?_)
            refine Safe.region ?_
            refine SafeOps.quiet0 E_good rfl rfl rfl (v := V.ptr [12, 23, 16, 6, 3] 0 0) (.fn rfl) ?_
            refine SafeOps.quiet0 E_good rfl rfl rfl (v := V.int .i64 ((gt a1_5 v8_5730).Kind)) (.load rfl rfl (.box rfl rfl) rfl) ?_
            refine SafeOps.nil ?_
            repeat (first | refine Safe.seq ?_ | refine Safe.skip ?_ | with_reducible refine thenQ.n ?_ | with_reducible refine blockQ.n ?_)
            refine Safe.block ?_
            repeat (first | refine Safe.seq ?_ | refine Safe.skip ?_ | with_reducible refine thenQ.n ?_ | with_reducible refine blockQ.n ?_)
            refine Safe.region ?_
            refine SafeOps.quiet0 E_good rfl rfl rfl (v := V.bool (((gt a1_5 v8_5730).Kind) == 2)) (.fn rfl) ?_
            refine SafeOps.quiet0 E_good rfl rfl rfl (v := V.bool (((gt a1_5 v8_5730).Kind) == 2)) (.fn rfl) ?_
            refine SafeOps.nil ?_
            repeat (first | refine Safe.seq ?_ | refine Safe.skip ?_ | with_reducible refine thenQ.n ?_ | with_reducible refine blockQ.n ?_)
            refine ifG h (fun hc6182 h => ?_) (fun hc6182 h => ?_)
            · skip
              refine Safe.condK rfl hc6182 ?_
              repeat (first | refine Safe.seq ?_ | refine Safe.skip ?_ | with_reducible refine thenQ.n ?_ | with_reducible refine blockQ.n ?_)
              refine Safe.region ?_
              refine SafeOps.quiet0 E_good rfl rfl rfl (v := V.ptr [12, 20] 0 0) (.fn rfl) ?_
              refine SafeOps.quiet0 E_good rfl rfl rfl (v := V.ptr [12, 23, 16, 6, 17, 1] 0 0) (.fn rfl) ?_
              refine SafeOps.quiet0 E_good rfl rfl rfl (v := V.ptr [12, 23, 16, 6, 3] 0 2) (.fn rfl) ?_
              refine SafeOps.quiet0 E_good rfl rfl rfl (v := V.int .i64 ((gt a1_5 v8_5730).A)) (.load rfl rfl (.box rfl rfl) rfl) ?_
              refine SafeOps.inline E_good rfl rfl rfl rfl rfl Tryd.func44 rfl (fun _ _ => Tryd.call44 _ _) rfl ?_
              repeat (first | refine Safe.seq ?_ | refine Safe.skip ?_ | with_reducible refine thenQ.n ?_ | with_reducible refine blockQ.n ?_)
              refine Safe.region ?_
              refine SafeOps.quiet0 E_good rfl rfl rfl (v := V.bool false) (.fn rfl) ?_
              refine SafeOps.nil ?_
              repeat (first | refine Safe.seq ?_ | refine Safe.skip ?_ | with_reducible refine thenQ.n ?_ | with_reducible refine blockQ.n ?_)
              refine Safe.regionD (n := 12) [] [] E_good mixed rfl ?_
              refine DAny.take (i := 0) rfl (by kernel_rfl) [] (by kernel_rfl) (by kernel_rfl) (by kernel_rfl) rfl rfl rfl (v := V.ptr [12, 20] 0 0) (fun _ hz => (.fn rfl)) ?_
              refine DAny.take (i := 1) rfl (by kernel_rfl) [] (by kernel_rfl) (by kernel_rfl) (by kernel_rfl) rfl rfl rfl (v := V.ptr [12, 20] 0 0) (fun _ hz => (.fn rfl)) ?_
              refine DAny.take (i := 2) rfl (by kernel_rfl) [] (by kernel_rfl) (by kernel_rfl) (by kernel_rfl) rfl rfl rfl (v := V.ptr [12, 20] 0 0) (fun _ hz => (.fn rfl)) ?_
              refine DAny.take (i := 3) rfl (by kernel_rfl) [] (by kernel_rfl) (by kernel_rfl) (by kernel_rfl) rfl rfl rfl (v := V.sl 1 (rws (fun l => [V.sl 3 (rws api_Instr.cells l)]) a0_4)) (fun _ hz => (.load rfl rfl (.box (hz _ _ rfl rfl) rfl) rfl)) ?_
              refine DAny.take (i := 4) rfl (by kernel_rfl) [] (by kernel_rfl) (by kernel_rfl) (by kernel_rfl) rfl rfl rfl (v := V.ptr [12, 23, 16, 6, 17, 1] 0 0) (fun _ hz => (.fn rfl)) ?_
              refine DAny.take (i := 5) rfl (by kernel_rfl) [] (by kernel_rfl) (by kernel_rfl) (by kernel_rfl) rfl rfl rfl (v := V.ptr [12, 23, 16, 6, 17, 1] 0 0) (fun _ hz => (.fn rfl)) ?_
              refine DAny.take (i := 6) rfl (by kernel_rfl) [] (by kernel_rfl) (by kernel_rfl) (by kernel_rfl) rfl rfl rfl (v := V.ptr [12, 23, 16, 6, 17, 1] 0 0) (fun _ hz => (.fn rfl)) ?_
              refine DAny.take (i := 7) rfl (by kernel_rfl) [] (by kernel_rfl) (by kernel_rfl) (by kernel_rfl) rfl rfl rfl (v := V.ptr [12, 23, 16, 6, 17, 1] 0 2) (fun _ hz => (.fn rfl)) ?_
              refine DAny.take (i := 8) rfl (by kernel_rfl) [] (by kernel_rfl) (by kernel_rfl) (by kernel_rfl) rfl rfl rfl (v := V.int .i64 e_6080.Task.Prog) (fun _ hz => (.load rfl rfl (.box (hz _ _ rfl rfl) rfl) rfl)) ?_
              refine okG h (fun hb6216 h => ?_)
              refine DAny.take (i := 9) rfl (by kernel_rfl) [] (by kernel_rfl) (by kernel_rfl) (by kernel_rfl) rfl rfl rfl (v := V.spt 1 (rws (fun l => [V.sl 3 (rws api_Instr.cells l)]) a0_4) (Int.toNat e_6080.Task.Prog) 0) (fun _ hz => (.idxSlM (f := (fun l => [V.sl 3 (rws api_Instr.cells l)])) rfl rfl rfl rfl rfl hb6216)) ?_
              refine DAny.take (i := 10) rfl (by kernel_rfl) [] (by kernel_rfl) (by kernel_rfl) (by kernel_rfl) rfl rfl rfl (v := V.sl 3 (rws api_Instr.cells (gt a0_4 e_6080.Task.Prog))) (fun _ hz => (.load rfl rfl (.sptM (f := (fun l => [V.sl 3 (rws api_Instr.cells l)])) hb6216 rfl) rfl)) ?_
              refine DAny.take (i := 11) rfl (by kernel_rfl) [] (by kernel_rfl) (by kernel_rfl) (by kernel_rfl) rfl rfl rfl (v := V.sl 3 (rws api_Instr.cells (gt a0_4 e_6080.Task.Prog))) (fun _ hz => (.fn rfl)) ?_
              refine DAny.nil (by kernel_rfl) ?_
              repeat (first | refine Safe.seq ?_ | refine Safe.skip ?_ | with_reducible refine thenQ.n ?_ | with_reducible refine blockQ.n ?_)
              refine Safe.region ?_
              refine SafeOps.quiet0 E_good rfl rfl rfl (v := V.ptr [12, 23, 16, 6, 17, 1] 0 0) (.fn rfl) ?_
              refine SafeOps.quiet0 E_good rfl rfl rfl (v := V.ptr [12, 23, 16, 6, 17, 1] 0 0) (.fn rfl) ?_
              refine SafeOps.quiet0 E_good rfl rfl rfl (v := V.ptr [12, 23, 16, 6, 17, 1] 0 0) (.fn rfl) ?_
              refine SafeOps.quiet0 E_good rfl rfl rfl (v := V.agg [V.int .i64 e_6080.Task.Id, V.int .i64 e_6080.Task.Tenant, V.int .i64 e_6080.Task.Prog, V.int .i64 e_6080.Task.Pc, V.int .i64 e_6080.Task.Unit, V.int .i64 e_6080.Task.Keeps.a0, V.int .i64 e_6080.Task.Keeps.a1, V.int .i64 e_6080.Task.Keeps.a2, V.int .i64 e_6080.Task.Keeps.a3, V.int .i64 e_6080.Task.State, V.int .i64 e_6080.Task.Ran]) (.load rfl rfl (.box rfl rfl) rfl) ?_
              refine SafeOps.quiet0 E_good rfl rfl rfl (v := V.sl 3 (rws api_Instr.cells (gt a0_4 e_6080.Task.Prog))) (.fn rfl) ?_
              refine bindG h ?_
              rintro ⟨x_6217, x_6218⟩ he6219 h
              refine SafeOps.quiet0 E_good rfl rfl rfl (v := V.tup [V.agg [V.int .i64 x_6217.Op, V.int .i64 x_6217.A, V.int .i64 x_6217.B], V.int .i64 x_6218]) (.callP rfl rfl (go_step_Next_sc e_6080.Task (gt a0_4 e_6080.Task.Prog) _ he6219) rfl) ?_
              refine SafeOps.quiet0 E_good rfl rfl rfl (v := V.tup [V.agg [V.int .i64 x_6217.Op, V.int .i64 x_6217.A, V.int .i64 x_6217.B], V.int .i64 x_6218]) (.fn rfl) ?_
              refine SafeOps.quiet0 E_good rfl rfl rfl (v := V.agg [V.int .i64 x_6217.Op, V.int .i64 x_6217.A, V.int .i64 x_6217.B]) (.fn rfl) ?_
              refine SafeOps.quiet0 E_good rfl rfl rfl (v := V.int .i64 x_6218) (.fn rfl) ?_
              refine SafeOps.quiet1 E_good rfl rfl rfl (.alloc rfl rfl) (by repeat first | exact rfl | refine fresh_cons (fr_tl (M := [12, 18]) (fk := (fun n : Int => V.int .i64 n)) (f := trace_seen.cells) (h := (some (mix ((gt a1_5 v8_5730).Id) vm_5732, [12, 23, 16, 6, 17, 1]))) (m := (mput vm_5732 ((gt a1_5 v8_5730).Id) e_6080)) rfl rfl (by repeat first | exact Tf.here | refine Tf.cons rfl ?_)) ?_) ?_
              refine SafeOps.store (z := Obj.box [V.int .i64 x_6217.Op, V.int .i64 x_6217.A, V.int .i64 x_6217.B]) E_good rfl rfl rfl rfl rfl rfl rfl (.boxM (c := 3) rfl rfl (Nat.le_of_ble_eq_true rfl) rfl) ?_
              refine SafeOps.quiet0 E_good rfl rfl rfl (v := V.int .i64 x_6218) (.fn rfl) ?_
              refine SafeOps.nil ?_
              repeat (first | refine Safe.seq ?_ | refine Safe.skip ?_ | with_reducible refine thenQ.n ?_ | with_reducible refine blockQ.n ?_)
              refine Safe.region ?_
              refine SafeOps.quiet0 E_good rfl rfl rfl (v := V.int .i64 x_6218) (.fn rfl) ?_
              refine SafeOps.quiet0 E_good rfl rfl rfl (v := V.bool (x_6218 != 0)) (.fn rfl) ?_
              refine SafeOps.quiet0 E_good rfl rfl rfl (v := V.bool (x_6218 != 0)) (.fn rfl) ?_
              refine SafeOps.bjoin 7 40 (b := ((x_6218 != 0) || (e_6080.Task.State != 1))) (b1 := true) (b0 := (e_6080.Task.State != 1)) (fun hc6220 K => ?_) (fun hc6220 K => ?_) bj_or ?_
              · skip
                refine SafeOps.skip (congrArg (fun b => some (!b)) hc6220) rfl rfl ?_
                refine SafeOps.skip (congrArg (fun b => some (!b)) hc6220) rfl rfl ?_
                refine SafeOps.skip (congrArg (fun b => some (!b)) hc6220) rfl rfl ?_
                refine SafeOps.skip (congrArg (fun b => some (!b)) hc6220) rfl rfl ?_
                refine SafeOps.skip (congrArg (fun b => some (!b)) hc6220) rfl rfl ?_
                refine SafeOps.skip (congrArg (fun b => some (!b)) hc6220) rfl rfl ?_
                refine SafeOps.quiet0 E_good rfl rfl rfl (v := V.bool true) (.pickK rfl hc6220 rfl) ?_
                exact SafeOps.drop' 7 rfl rfl rfl K
              · skip
                refine SafeOps.quiet0 E_good (congrArg (fun b => some (!b)) hc6220) rfl rfl (v := V.ptr [12, 23, 16, 6, 17, 1] 0 0) (.fn rfl) ?_
                refine SafeOps.quiet0 E_good (congrArg (fun b => some (!b)) hc6220) rfl rfl (v := V.ptr [12, 23, 16, 6, 17, 1] 0 0) (.fn rfl) ?_
                refine SafeOps.quiet0 E_good (congrArg (fun b => some (!b)) hc6220) rfl rfl (v := V.ptr [12, 23, 16, 6, 17, 1] 0 0) (.fn rfl) ?_
                refine SafeOps.quiet0 E_good (congrArg (fun b => some (!b)) hc6220) rfl rfl (v := V.ptr [12, 23, 16, 6, 17, 1] 0 9) (.fn rfl) ?_
                refine SafeOps.quiet0 E_good (congrArg (fun b => some (!b)) hc6220) rfl rfl (v := V.int .i64 e_6080.Task.State) (.load rfl rfl (.box rfl rfl) rfl) ?_
                refine SafeOps.quiet0 E_good (congrArg (fun b => some (!b)) hc6220) rfl rfl (v := V.bool (e_6080.Task.State != 1)) (.fn rfl) ?_
                refine SafeOps.quiet0 E_good rfl rfl rfl (v := V.bool (e_6080.Task.State != 1)) (.pickK rfl hc6220 rfl) ?_
                exact SafeOps.drop' 7 rfl rfl rfl K
              refine SafeOps.quiet0 E_good rfl rfl rfl (v := V.bool ((x_6218 != 0) || (e_6080.Task.State != 1))) (.fn rfl) ?_
              refine SafeOps.bjoin 5 46 (b := (((x_6218 != 0) || (e_6080.Task.State != 1)) || (x_6217.Op != ((gt a1_5 v8_5730).A)))) (b1 := true) (b0 := (x_6217.Op != ((gt a1_5 v8_5730).A))) (fun hc6221 K => ?_) (fun hc6221 K => ?_) bj_or ?_
              · skip
                refine SafeOps.skip (congrArg (fun b => some (!b)) hc6221) rfl rfl ?_
                refine SafeOps.skip (congrArg (fun b => some (!b)) hc6221) rfl rfl ?_
                refine SafeOps.skip (congrArg (fun b => some (!b)) hc6221) rfl rfl ?_
                refine SafeOps.skip (congrArg (fun b => some (!b)) hc6221) rfl rfl ?_
                refine SafeOps.quiet0 E_good rfl rfl rfl (v := V.bool true) (.pickK rfl hc6221 rfl) ?_
                exact SafeOps.drop' 5 rfl rfl rfl K
              · skip
                refine SafeOps.quiet0 E_good (congrArg (fun b => some (!b)) hc6221) rfl rfl (v := V.ptr [12, 23, 16, 6, 45, 8] 0 0) (.fn rfl) ?_
                refine SafeOps.quiet0 E_good (congrArg (fun b => some (!b)) hc6221) rfl rfl (v := V.int .i64 x_6217.Op) (.load rfl rfl (.box rfl rfl) rfl) ?_
                refine SafeOps.quiet0 E_good (congrArg (fun b => some (!b)) hc6221) rfl rfl (v := V.int .i64 ((gt a1_5 v8_5730).A)) (.fn rfl) ?_
                refine SafeOps.quiet0 E_good (congrArg (fun b => some (!b)) hc6221) rfl rfl (v := V.bool (x_6217.Op != ((gt a1_5 v8_5730).A))) (.fn rfl) ?_
                refine SafeOps.quiet0 E_good rfl rfl rfl (v := V.bool (x_6217.Op != ((gt a1_5 v8_5730).A))) (.pickK rfl hc6221 rfl) ?_
                exact SafeOps.drop' 5 rfl rfl rfl K
              refine SafeOps.quiet0 E_good rfl rfl rfl (v := V.bool (((x_6218 != 0) || (e_6080.Task.State != 1)) || (x_6217.Op != ((gt a1_5 v8_5730).A)))) (.fn rfl) ?_
              refine SafeOps.bjoin 15 62 (b := ((((x_6218 != 0) || (e_6080.Task.State != 1)) || (x_6217.Op != ((gt a1_5 v8_5730).A))) || ((e_6080.last.Kind == 2) && (e_6080.last.A == 9)))) (b1 := true) (b0 := ((e_6080.last.Kind == 2) && (e_6080.last.A == 9))) (fun hc6222 K => ?_) (fun hc6222 K => ?_) bj_or ?_
              · skip
                refine SafeOps.skip (congrArg (fun b => some (!b)) hc6222) rfl rfl ?_
                refine SafeOps.skip (congrArg (fun b => some (!b)) hc6222) rfl rfl ?_
                refine SafeOps.skip (congrArg (fun b => some (!b)) hc6222) rfl rfl ?_
                refine SafeOps.skip (congrArg (fun b => some (!b)) hc6222) rfl rfl ?_
                refine SafeOps.skip (congrArg (fun b => some (!b)) hc6222) rfl rfl ?_
                refine SafeOps.skip (congrArg (fun b => some (!b)) hc6222) rfl rfl ?_
                refine SafeOps.skip (congrArg (fun b => some (!b)) hc6222) rfl rfl ?_
                refine SafeOps.skip rfl rfl rfl ?_
                refine SafeOps.skip rfl rfl rfl ?_
                refine SafeOps.skip rfl rfl rfl ?_
                refine SafeOps.skip rfl rfl rfl ?_
                refine SafeOps.skip rfl rfl rfl ?_
                refine SafeOps.skip rfl rfl rfl ?_
                refine SafeOps.skip (congrArg (fun b => some (!b)) hc6222) rfl rfl ?_
                refine SafeOps.quiet0 E_good rfl rfl rfl (v := V.bool true) (.pickK rfl hc6222 rfl) ?_
                exact SafeOps.drop' 15 rfl rfl rfl K
              · skip
                refine SafeOps.quiet0 E_good (congrArg (fun b => some (!b)) hc6222) rfl rfl (v := V.ptr [12, 23, 16, 6, 17, 1] 0 0) (.fn rfl) ?_
                refine SafeOps.quiet0 E_good (congrArg (fun b => some (!b)) hc6222) rfl rfl (v := V.ptr [12, 23, 16, 6, 17, 1] 0 0) (.fn rfl) ?_
                refine SafeOps.quiet0 E_good (congrArg (fun b => some (!b)) hc6222) rfl rfl (v := V.ptr [12, 23, 16, 6, 17, 1] 0 11) (.fn rfl) ?_
                refine SafeOps.quiet0 E_good (congrArg (fun b => some (!b)) hc6222) rfl rfl (v := V.ptr [12, 23, 16, 6, 17, 1] 0 11) (.fn rfl) ?_
                refine SafeOps.quiet0 E_good (congrArg (fun b => some (!b)) hc6222) rfl rfl (v := V.int .i64 e_6080.last.Kind) (.load rfl rfl (.box rfl rfl) rfl) ?_
                refine SafeOps.quiet0 E_good (congrArg (fun b => some (!b)) hc6222) rfl rfl (v := V.bool (e_6080.last.Kind == 2)) (.fn rfl) ?_
                refine SafeOps.quiet0 E_good (congrArg (fun b => some (!b)) hc6222) rfl rfl (v := V.bool (e_6080.last.Kind == 2)) (.fn rfl) ?_
                refine SafeOps.bjoin 7 61 (b := ((e_6080.last.Kind == 2) && (e_6080.last.A == 9))) (b1 := (e_6080.last.A == 9)) (b0 := false) (fun hc6223 K => ?_) (fun hc6223 K => ?_) bj_and ?_
                · skip
                  refine SafeOps.quiet0 E_good (congrArg some hc6223) rfl rfl (v := V.ptr [12, 23, 16, 6, 17, 1] 0 0) (.fn rfl) ?_
                  refine SafeOps.quiet0 E_good (congrArg some hc6223) rfl rfl (v := V.ptr [12, 23, 16, 6, 17, 1] 0 0) (.fn rfl) ?_
                  refine SafeOps.quiet0 E_good (congrArg some hc6223) rfl rfl (v := V.ptr [12, 23, 16, 6, 17, 1] 0 11) (.fn rfl) ?_
                  refine SafeOps.quiet0 E_good (congrArg some hc6223) rfl rfl (v := V.ptr [12, 23, 16, 6, 17, 1] 0 13) (.fn rfl) ?_
                  refine SafeOps.quiet0 E_good (congrArg some hc6223) rfl rfl (v := V.int .i64 e_6080.last.A) (.load rfl rfl (.box rfl rfl) rfl) ?_
                  refine SafeOps.quiet0 E_good (congrArg some hc6223) rfl rfl (v := V.bool (e_6080.last.A == 9)) (.fn rfl) ?_
                  refine SafeOps.quiet0 E_good (congrArg (fun b => some (!b)) hc6222) rfl rfl (v := V.bool (e_6080.last.A == 9)) (.pickK rfl hc6223 rfl) ?_
                  exact SafeOps.drop' 7 rfl rfl rfl K
                · skip
                  refine SafeOps.skip (congrArg some hc6223) rfl rfl ?_
                  refine SafeOps.skip (congrArg some hc6223) rfl rfl ?_
                  refine SafeOps.skip (congrArg some hc6223) rfl rfl ?_
                  refine SafeOps.skip (congrArg some hc6223) rfl rfl ?_
                  refine SafeOps.skip (congrArg some hc6223) rfl rfl ?_
                  refine SafeOps.skip (congrArg some hc6223) rfl rfl ?_
                  refine SafeOps.quiet0 E_good (congrArg (fun b => some (!b)) hc6222) rfl rfl (v := V.bool false) (.pickK rfl hc6223 rfl) ?_
                  exact SafeOps.drop' 7 rfl rfl rfl K
                refine SafeOps.quiet0 E_good rfl rfl rfl (v := V.bool ((e_6080.last.Kind == 2) && (e_6080.last.A == 9))) (.pickK rfl hc6222 rfl) ?_
                exact SafeOps.drop' 9 rfl rfl rfl K
              refine SafeOps.nil ?_
              repeat (first | refine Safe.seq ?_ | refine Safe.skip ?_ | with_reducible refine thenQ.n ?_ | with_reducible refine blockQ.n ?_)
              refine ifG h (fun hc6224 h => ?_) (fun hc6224 h => ?_)
              · skip
                refine Safe.condK rfl hc6224 ?_
                repeat (first | refine Safe.seq ?_ | refine Safe.skip ?_ | with_reducible refine thenQ.n ?_ | with_reducible refine blockQ.n ?_)
                refine Safe.region ?_
                refine SafeOps.quiet0 E_good rfl rfl rfl (v := V.bool false) (.fn rfl) ?_
                refine SafeOps.nil ?_
                repeat (first | refine Safe.seq ?_ | refine Safe.skip ?_ | with_reducible refine thenQ.n ?_ | with_reducible refine blockQ.n ?_)
                refine Safe.ret ?_
                repeat (first | with_reducible refine thenQ.r ?_ | with_reducible refine blockQ.r ?_)
                refine inQ.gen (vs := [V.bool false]) (v := V.bool false) (.inr rfl) rfl (.tmp (v := V.bool false) rfl .nil) rfl ?_
                refine SafeOps.quiet0 E_good rfl rfl rfl (v := V.bool false) (.fn rfl) ?_
                refine SafeOps.nil ?_
                repeat (first | refine Safe.seq ?_ | refine Safe.skip ?_ | with_reducible refine thenQ.n ?_ | with_reducible refine blockQ.n ?_)
                refine Safe.region ?_
                refine SafeOps.quiet0 E_good rfl rfl rfl (v := V.ptr [12, 23, 16, 6, 17, 1] 0 0) (.fn rfl) ?_
                refine SafeOps.quiet0 E_good rfl rfl rfl (v := V.agg [V.int .i64 ((gt a1_5 v8_5730).Kind), V.int .i64 ((gt a1_5 v8_5730).Id), V.int .i64 ((gt a1_5 v8_5730).A)]) (.load rfl rfl (.box rfl rfl) rfl) ?_
                refine SafeOps.quiet0 E_good rfl rfl rfl (v := V.ptr [12, 23, 16, 6, 17, 1] 0 0) (.fn rfl) ?_
                refine SafeOps.quiet0 E_good rfl rfl rfl (v := V.ptr [12, 23, 16, 6, 17, 1] 0 11) (.fn rfl) ?_
                refine SafeOps.store (z := Obj.box [V.int .i64 e_6080.Task.Id, V.int .i64 e_6080.Task.Tenant, V.int .i64 e_6080.Task.Prog, V.int .i64 e_6080.Task.Pc, V.int .i64 e_6080.Task.Unit, V.int .i64 e_6080.Task.Keeps.a0, V.int .i64 e_6080.Task.Keeps.a1, V.int .i64 e_6080.Task.Keeps.a2, V.int .i64 e_6080.Task.Keeps.a3, V.int .i64 e_6080.Task.State, V.int .i64 e_6080.Task.Ran, V.int .i64 ((gt a1_5 v8_5730).Kind), V.int .i64 ((gt a1_5 v8_5730).Id), V.int .i64 ((gt a1_5 v8_5730).A)]) E_good rfl rfl rfl rfl rfl rfl rfl (.boxM (c := 14) rfl rfl (Nat.le_of_ble_eq_true rfl) rfl) ?_
                refine SafeOps.gets (τ := ⟨Tryd.f34.ntmps, [(9, V.bool false)], ([12, 7], Obj.box [V.ptr [12, 20] 0 0]) :: ([12, 20], Obj.box [V.sl 1 (rws (fun l => [V.sl 3 (rws api_Instr.cells l)]) a0_4), V.mapr [12, 18], V.ref [7000, 114, 12, 20, 2] 0 (rws (fun n => [V.int .i64 n]) v12_202_5731).length]) :: ([12, 23, 16, 2], Obj.box [V.int .i64 ((gt a1_5 v8_5730).Kind), V.int .i64 ((gt a1_5 v8_5730).Id), V.int .i64 ((gt a1_5 v8_5730).A)]) :: ([12, 23, 16, 6, 3], Obj.box [V.int .i64 ((gt a1_5 v8_5730).Kind), V.int .i64 ((gt a1_5 v8_5730).Id), V.int .i64 ((gt a1_5 v8_5730).A)]) :: ([12, 23, 16, 6, 17, 1], Obj.box [V.int .i64 e_6080.Task.Id, V.int .i64 e_6080.Task.Tenant, V.int .i64 e_6080.Task.Prog, V.int .i64 e_6080.Task.Pc, V.int .i64 e_6080.Task.Unit, V.int .i64 e_6080.Task.Keeps.a0, V.int .i64 e_6080.Task.Keeps.a1, V.int .i64 e_6080.Task.Keeps.a2, V.int .i64 e_6080.Task.Keeps.a3, V.int .i64 e_6080.Task.State, V.int .i64 e_6080.Task.Ran, V.int .i64 ((gt a1_5 v8_5730).Kind), V.int .i64 ((gt a1_5 v8_5730).Id), V.int .i64 ((gt a1_5 v8_5730).A)]) :: ([12, 23, 16, 6, 45, 8], Obj.box [V.int .i64 x_6217.Op, V.int .i64 x_6217.A, V.int .i64 x_6217.B]) :: ([7000, 114, 12, 20, 2], Obj.rows 1 (rws (fun n => [V.int .i64 n]) v12_202_5731) false) :: (pmo [12, 18] (fun n : Int => V.int .i64 n) trace_seen.cells (some (mix ((gt a1_5 v8_5730).Id) vm_5732, [12, 23, 16, 6, 17, 1])) (mput vm_5732 ((gt a1_5 v8_5730).Id) e_6080)), [(Tryd.f33.ntmps, []), (Tryd.f32.ntmps, [(0, V.sl 3 (rws api_Event.cells a1_5)), (1, V.fn 33 [V.ptr [12, 7] 0 0]), (5, V.int .i64 v8_5730), (7, V.int .i64 (a1_5.length : Int)), (8, V.int .i64 v8_5730)]), (Tryd.f25.ntmps, [(1, V.sl 3 (rws api_Event.cells a1_5)), (7, V.ptr [12, 7] 0 0)]), (Tryd.f11.ntmps, [])], [12, 23, 16, 6]⟩) (.cov ⟨rfl, rfl, (upT_cons (.refl _) upT_nil), (upOb_cons rfl (.refl _) (upOb_cons rfl (.refl _) (upOb_cons rfl (.refl _) (upOb_cons rfl (.refl _) (upOb_cons rfl (.refl _) (upOb_cons rfl (.refl _) (upOb_cons rfl (.refl _) (upOb_tl rfl (by repeat first | exact Tn.here | refine Tn.cons rfl ?_) rfl)))))))), (upOut_cons rfl upT_nil (upOut_cons rfl (upT_cons (.refl _) (upT_cons (.refl _) (upT_cons (.refl _) (upT_cons (.refl _) (upT_cons (.refl _) upT_nil))))) (upOut_cons rfl (upT_cons (.refl _) (upT_cons (.refl _) upT_nil)) (upOut_cons rfl upT_nil upOut_nil)))), (cl3 rfl (wi_cons rfl (wi_cons rfl (wi_cons rfl (wi_cons rfl (wi_cons rfl (wi_cons rfl (wi_cons rfl (wi_tl rfl (by repeat first | exact Tn.here | refine Tn.cons rfl ?_) (fun _ => rfl) (sob rfl))))))))) rfl)⟩) ?_
                refine SafeOps.giveP (M := [12, 18]) (fun n : Int => V.int .i64 n) trace_seen.cells vm_5732 ((gt a1_5 v8_5730).Id) e_6080 (trace_seen.mk e_6080.Task (gt a1_5 v8_5730)) [12, 23, 16, 6, 17, 1] rfl rfl rfl rfl rfl (fun _ _ _ => rfl) (by repeat first | exact Tg.here | apply Tg.drop rfl rfl | apply Tg.cons rfl rfl) rfl rfl ?_
                refine SafeOps.nil ?_
                repeat (first | refine Safe.seq ?_ | refine Safe.skip ?_ | with_reducible refine thenQ.n ?_ | with_reducible refine blockQ.n ?_)
                refine Safe.region ?_
                refine SafeOps.quiet0 E_good rfl rfl rfl (v := V.bool false) (.fn rfl) ?_
                refine SafeOps.quiet0 E_good rfl rfl rfl (v := V.bool false) (.fn rfl) ?_
                refine SafeOps.nil ?_
                repeat (first | refine Safe.seq ?_ | refine Safe.skip ?_ | with_reducible refine thenQ.n ?_ | with_reducible refine blockQ.n ?_)
                refine Safe.ret ?_
                repeat (first | with_reducible refine thenQ.r ?_ | with_reducible refine blockQ.r ?_)
                refine inQ.gen (vs := [V.bool false]) (v := V.bool false) (.inr rfl) rfl (.tmp (v := V.bool false) rfl .nil) rfl ?_
                exact SafeOps.got (HJ6077 (false, v12_202_5731, mput vm_5732 ((gt a1_5 v8_5730).Id) (trace_seen.mk e_6080.Task (gt a1_5 v8_5730))) h) (.cov ⟨rfl, rfl, (upT_cons (.refl _) upT_nil), (upOb_cons rfl (.refl _) (upOb_cons rfl (.refl _) (upOb_cons rfl (.refl _) (upOb_tl rfl (by repeat first | exact Tn.here | refine Tn.cons rfl ?_) rfl)))), (upOut_cons rfl (upT_cons (.refl _) (upT_cons (.refl _) (upT_cons (.refl _) (upT_cons (.refl _) (upT_cons (.refl _) upT_nil))))) (upOut_cons rfl (upT_cons (.refl _) (upT_cons (.refl _) upT_nil)) (upOut_cons rfl upT_nil upOut_nil))), (cl3 rfl (wi_cons rfl (wi_cons rfl (wi_cons rfl (wi_tl rfl (by repeat first | exact Tn.here | refine Tn.cons rfl ?_) (fun _ => rfl) nob)))) rfl)⟩)
              · skip
                refine Safe.condN rfl hc6224 ?_
                repeat (first | refine Safe.seq ?_ | refine Safe.skip ?_ | with_reducible refine thenQ.n ?_ | with_reducible refine blockQ.n ?_)
                refine Safe.region ?_
                refine SafeOps.quiet0 E_good rfl rfl rfl (v := V.ptr [12, 23, 16, 6, 17, 1] 0 0) (.fn rfl) ?_
                refine SafeOps.quiet0 E_good rfl rfl rfl (v := V.ptr [12, 23, 16, 6, 17, 1] 0 0) (.fn rfl) ?_
                refine SafeOps.quiet0 E_good rfl rfl rfl (v := V.ptr [12, 23, 16, 6, 17, 1] 0 0) (.fn rfl) ?_
                refine SafeOps.quiet0 E_good rfl rfl rfl (v := V.agg [V.int .i64 e_6080.Task.Id, V.int .i64 e_6080.Task.Tenant, V.int .i64 e_6080.Task.Prog, V.int .i64 e_6080.Task.Pc, V.int .i64 e_6080.Task.Unit, V.int .i64 e_6080.Task.Keeps.a0, V.int .i64 e_6080.Task.Keeps.a1, V.int .i64 e_6080.Task.Keeps.a2, V.int .i64 e_6080.Task.Keeps.a3, V.int .i64 e_6080.Task.State, V.int .i64 e_6080.Task.Ran]) (.load rfl rfl (.box rfl rfl) rfl) ?_
                refine bindG h ?_
                rintro ⟨x_6225, x_6226⟩ he6227 h
                refine SafeOps.quiet0 E_good rfl rfl rfl (v := V.tup [V.agg [V.int .i64 x_6225.Id, V.int .i64 x_6225.Tenant, V.int .i64 x_6225.Prog, V.int .i64 x_6225.Pc, V.int .i64 x_6225.Unit, V.int .i64 x_6225.Keeps.a0, V.int .i64 x_6225.Keeps.a1, V.int .i64 x_6225.Keeps.a2, V.int .i64 x_6225.Keeps.a3, V.int .i64 x_6225.State, V.int .i64 x_6225.Ran], V.int .i64 x_6226]) (.callP rfl rfl (go_life_Move_sc e_6080.Task 2 _ he6227) rfl) ?_
                refine SafeOps.quiet0 E_good rfl rfl rfl (v := V.tup [V.agg [V.int .i64 x_6225.Id, V.int .i64 x_6225.Tenant, V.int .i64 x_6225.Prog, V.int .i64 x_6225.Pc, V.int .i64 x_6225.Unit, V.int .i64 x_6225.Keeps.a0, V.int .i64 x_6225.Keeps.a1, V.int .i64 x_6225.Keeps.a2, V.int .i64 x_6225.Keeps.a3, V.int .i64 x_6225.State, V.int .i64 x_6225.Ran], V.int .i64 x_6226]) (.fn rfl) ?_
                refine SafeOps.quiet0 E_good rfl rfl rfl (v := V.agg [V.int .i64 x_6225.Id, V.int .i64 x_6225.Tenant, V.int .i64 x_6225.Prog, V.int .i64 x_6225.Pc, V.int .i64 x_6225.Unit, V.int .i64 x_6225.Keeps.a0, V.int .i64 x_6225.Keeps.a1, V.int .i64 x_6225.Keeps.a2, V.int .i64 x_6225.Keeps.a3, V.int .i64 x_6225.State, V.int .i64 x_6225.Ran]) (.fn rfl) ?_
                refine SafeOps.quiet0 E_good rfl rfl rfl (v := V.int .i64 x_6226) (.fn rfl) ?_
                refine SafeOps.quiet1 E_good rfl rfl rfl (.alloc rfl rfl) (by repeat first | exact rfl | refine fresh_cons (fr_tl (M := [12, 18]) (fk := (fun n : Int => V.int .i64 n)) (f := trace_seen.cells) (h := (some (mix ((gt a1_5 v8_5730).Id) vm_5732, [12, 23, 16, 6, 17, 1]))) (m := (mput vm_5732 ((gt a1_5 v8_5730).Id) e_6080)) rfl rfl (by repeat first | exact Tf.here | refine Tf.cons rfl ?_)) ?_) ?_
                refine SafeOps.store (z := Obj.box [V.int .i64 x_6225.Id, V.int .i64 x_6225.Tenant, V.int .i64 x_6225.Prog, V.int .i64 x_6225.Pc, V.int .i64 x_6225.Unit, V.int .i64 x_6225.Keeps.a0, V.int .i64 x_6225.Keeps.a1, V.int .i64 x_6225.Keeps.a2, V.int .i64 x_6225.Keeps.a3, V.int .i64 x_6225.State, V.int .i64 x_6225.Ran]) E_good rfl rfl rfl rfl rfl rfl rfl (.boxM (c := 11) rfl rfl (Nat.le_of_ble_eq_true rfl) rfl) ?_
                refine SafeOps.quiet0 E_good rfl rfl rfl (v := V.int .i64 x_6226) (.fn rfl) ?_
                refine SafeOps.nil ?_
                repeat (first | refine Safe.seq ?_ | refine Safe.skip ?_ | with_reducible refine thenQ.n ?_ | with_reducible refine blockQ.n ?_)
                refine Safe.region ?_
                refine SafeOps.quiet0 E_good rfl rfl rfl (v := V.int .i64 x_6226) (.fn rfl) ?_
                refine SafeOps.quiet0 E_good rfl rfl rfl (v := V.bool (x_6226 != 0)) (.fn rfl) ?_
                refine SafeOps.nil ?_
                repeat (first | refine Safe.seq ?_ | refine Safe.skip ?_ | with_reducible refine thenQ.n ?_ | with_reducible refine blockQ.n ?_)
                refine ifG h (fun hc6228 h => ?_) (fun hc6228 h => ?_)
                · skip
                  refine Safe.condK rfl hc6228 ?_
                  repeat (first | refine Safe.seq ?_ | refine Safe.skip ?_ | with_reducible refine thenQ.n ?_ | with_reducible refine blockQ.n ?_)
                  refine Safe.region ?_
                  refine SafeOps.quiet0 E_good rfl rfl rfl (v := V.bool false) (.fn rfl) ?_
                  refine SafeOps.nil ?_
                  repeat (first | refine Safe.seq ?_ | refine Safe.skip ?_ | with_reducible refine thenQ.n ?_ | with_reducible refine blockQ.n ?_)
                  refine Safe.ret ?_
                  repeat (first | with_reducible refine thenQ.r ?_ | with_reducible refine blockQ.r ?_)
                  refine inQ.gen (vs := [V.bool false]) (v := V.bool false) (.inr rfl) rfl (.tmp (v := V.bool false) rfl .nil) rfl ?_
                  refine SafeOps.quiet0 E_good rfl rfl rfl (v := V.bool false) (.fn rfl) ?_
                  refine SafeOps.nil ?_
                  repeat (first | refine Safe.seq ?_ | refine Safe.skip ?_ | with_reducible refine thenQ.n ?_ | with_reducible refine blockQ.n ?_)
                  refine Safe.region ?_
                  refine SafeOps.quiet0 E_good rfl rfl rfl (v := V.ptr [12, 23, 16, 6, 17, 1] 0 0) (.fn rfl) ?_
                  refine SafeOps.quiet0 E_good rfl rfl rfl (v := V.agg [V.int .i64 ((gt a1_5 v8_5730).Kind), V.int .i64 ((gt a1_5 v8_5730).Id), V.int .i64 ((gt a1_5 v8_5730).A)]) (.load rfl rfl (.box rfl rfl) rfl) ?_
                  refine SafeOps.quiet0 E_good rfl rfl rfl (v := V.ptr [12, 23, 16, 6, 17, 1] 0 0) (.fn rfl) ?_
                  refine SafeOps.quiet0 E_good rfl rfl rfl (v := V.ptr [12, 23, 16, 6, 17, 1] 0 11) (.fn rfl) ?_
                  refine SafeOps.store (z := Obj.box [V.int .i64 e_6080.Task.Id, V.int .i64 e_6080.Task.Tenant, V.int .i64 e_6080.Task.Prog, V.int .i64 e_6080.Task.Pc, V.int .i64 e_6080.Task.Unit, V.int .i64 e_6080.Task.Keeps.a0, V.int .i64 e_6080.Task.Keeps.a1, V.int .i64 e_6080.Task.Keeps.a2, V.int .i64 e_6080.Task.Keeps.a3, V.int .i64 e_6080.Task.State, V.int .i64 e_6080.Task.Ran, V.int .i64 ((gt a1_5 v8_5730).Kind), V.int .i64 ((gt a1_5 v8_5730).Id), V.int .i64 ((gt a1_5 v8_5730).A)]) E_good rfl rfl rfl rfl rfl rfl rfl (.boxM (c := 14) rfl rfl (Nat.le_of_ble_eq_true rfl) rfl) ?_
                  refine SafeOps.gets (τ := ⟨Tryd.f34.ntmps, [(9, V.bool false)], ([12, 7], Obj.box [V.ptr [12, 20] 0 0]) :: ([12, 20], Obj.box [V.sl 1 (rws (fun l => [V.sl 3 (rws api_Instr.cells l)]) a0_4), V.mapr [12, 18], V.ref [7000, 114, 12, 20, 2] 0 (rws (fun n => [V.int .i64 n]) v12_202_5731).length]) :: ([12, 23, 16, 2], Obj.box [V.int .i64 ((gt a1_5 v8_5730).Kind), V.int .i64 ((gt a1_5 v8_5730).Id), V.int .i64 ((gt a1_5 v8_5730).A)]) :: ([12, 23, 16, 6, 3], Obj.box [V.int .i64 ((gt a1_5 v8_5730).Kind), V.int .i64 ((gt a1_5 v8_5730).Id), V.int .i64 ((gt a1_5 v8_5730).A)]) :: ([12, 23, 16, 6, 17, 1], Obj.box [V.int .i64 e_6080.Task.Id, V.int .i64 e_6080.Task.Tenant, V.int .i64 e_6080.Task.Prog, V.int .i64 e_6080.Task.Pc, V.int .i64 e_6080.Task.Unit, V.int .i64 e_6080.Task.Keeps.a0, V.int .i64 e_6080.Task.Keeps.a1, V.int .i64 e_6080.Task.Keeps.a2, V.int .i64 e_6080.Task.Keeps.a3, V.int .i64 e_6080.Task.State, V.int .i64 e_6080.Task.Ran, V.int .i64 ((gt a1_5 v8_5730).Kind), V.int .i64 ((gt a1_5 v8_5730).Id), V.int .i64 ((gt a1_5 v8_5730).A)]) :: ([12, 23, 16, 6, 45, 8], Obj.box [V.int .i64 x_6217.Op, V.int .i64 x_6217.A, V.int .i64 x_6217.B]) :: ([12, 23, 16, 6, 45, 10], Obj.box [V.int .i64 x_6225.Id, V.int .i64 x_6225.Tenant, V.int .i64 x_6225.Prog, V.int .i64 x_6225.Pc, V.int .i64 x_6225.Unit, V.int .i64 x_6225.Keeps.a0, V.int .i64 x_6225.Keeps.a1, V.int .i64 x_6225.Keeps.a2, V.int .i64 x_6225.Keeps.a3, V.int .i64 x_6225.State, V.int .i64 x_6225.Ran]) :: ([7000, 114, 12, 20, 2], Obj.rows 1 (rws (fun n => [V.int .i64 n]) v12_202_5731) false) :: (pmo [12, 18] (fun n : Int => V.int .i64 n) trace_seen.cells (some (mix ((gt a1_5 v8_5730).Id) vm_5732, [12, 23, 16, 6, 17, 1])) (mput vm_5732 ((gt a1_5 v8_5730).Id) e_6080)), [(Tryd.f33.ntmps, []), (Tryd.f32.ntmps, [(0, V.sl 3 (rws api_Event.cells a1_5)), (1, V.fn 33 [V.ptr [12, 7] 0 0]), (5, V.int .i64 v8_5730), (7, V.int .i64 (a1_5.length : Int)), (8, V.int .i64 v8_5730)]), (Tryd.f25.ntmps, [(1, V.sl 3 (rws api_Event.cells a1_5)), (7, V.ptr [12, 7] 0 0)]), (Tryd.f11.ntmps, [])], [12, 23, 16, 6]⟩) (.cov ⟨rfl, rfl, (upT_cons (.refl _) upT_nil), (upOb_cons rfl (.refl _) (upOb_cons rfl (.refl _) (upOb_cons rfl (.refl _) (upOb_cons rfl (.refl _) (upOb_cons rfl (.refl _) (upOb_cons rfl (.refl _) (upOb_cons rfl (.refl _) (upOb_cons rfl (.refl _) (upOb_tl rfl (by repeat first | exact Tn.here | refine Tn.cons rfl ?_) rfl))))))))), (upOut_cons rfl upT_nil (upOut_cons rfl (upT_cons (.refl _) (upT_cons (.refl _) (upT_cons (.refl _) (upT_cons (.refl _) (upT_cons (.refl _) upT_nil))))) (upOut_cons rfl (upT_cons (.refl _) (upT_cons (.refl _) upT_nil)) (upOut_cons rfl upT_nil upOut_nil)))), (cl3 rfl (wi_cons rfl (wi_cons rfl (wi_cons rfl (wi_cons rfl (wi_cons rfl (wi_cons rfl (wi_cons rfl (wi_cons rfl (wi_tl rfl (by repeat first | exact Tn.here | refine Tn.cons rfl ?_) (fun _ => rfl) (sob rfl)))))))))) rfl)⟩) ?_
                  refine SafeOps.giveP (M := [12, 18]) (fun n : Int => V.int .i64 n) trace_seen.cells vm_5732 ((gt a1_5 v8_5730).Id) e_6080 (trace_seen.mk e_6080.Task (gt a1_5 v8_5730)) [12, 23, 16, 6, 17, 1] rfl rfl rfl rfl rfl (fun _ _ _ => rfl) (by repeat first | exact Tg.here | apply Tg.drop rfl rfl | apply Tg.cons rfl rfl) rfl rfl ?_
                  refine SafeOps.nil ?_
                  repeat (first | refine Safe.seq ?_ | refine Safe.skip ?_ | with_reducible refine thenQ.n ?_ | with_reducible refine blockQ.n ?_)
                  refine Safe.region ?_
                  refine SafeOps.quiet0 E_good rfl rfl rfl (v := V.bool false) (.fn rfl) ?_
                  refine SafeOps.quiet0 E_good rfl rfl rfl (v := V.bool false) (.fn rfl) ?_
                  refine SafeOps.nil ?_
                  repeat (first | refine Safe.seq ?_ | refine Safe.skip ?_ | with_reducible refine thenQ.n ?_ | with_reducible refine blockQ.n ?_)
                  refine Safe.ret ?_
                  repeat (first | with_reducible refine thenQ.r ?_ | with_reducible refine blockQ.r ?_)
                  refine inQ.gen (vs := [V.bool false]) (v := V.bool false) (.inr rfl) rfl (.tmp (v := V.bool false) rfl .nil) rfl ?_
                  exact SafeOps.got (HJ6077 (false, v12_202_5731, mput vm_5732 ((gt a1_5 v8_5730).Id) (trace_seen.mk e_6080.Task (gt a1_5 v8_5730))) h) (.cov ⟨rfl, rfl, (upT_cons (.refl _) upT_nil), (upOb_cons rfl (.refl _) (upOb_cons rfl (.refl _) (upOb_cons rfl (.refl _) (upOb_tl rfl (by repeat first | exact Tn.here | refine Tn.cons rfl ?_) rfl)))), (upOut_cons rfl (upT_cons (.refl _) (upT_cons (.refl _) (upT_cons (.refl _) (upT_cons (.refl _) (upT_cons (.refl _) upT_nil))))) (upOut_cons rfl (upT_cons (.refl _) (upT_cons (.refl _) upT_nil)) (upOut_cons rfl upT_nil upOut_nil))), (cl3 rfl (wi_cons rfl (wi_cons rfl (wi_cons rfl (wi_tl rfl (by repeat first | exact Tn.here | refine Tn.cons rfl ?_) (fun _ => rfl) nob)))) rfl)⟩)
                · skip
                  refine Safe.condN rfl hc6228 ?_
                  repeat (first | refine Safe.seq ?_ | refine Safe.skip ?_ | with_reducible refine thenQ.n ?_ | with_reducible refine blockQ.n ?_)
                  refine Safe.region ?_
                  refine SafeOps.quiet0 E_good rfl rfl rfl (v := V.agg [V.int .i64 x_6225.Id, V.int .i64 x_6225.Tenant, V.int .i64 x_6225.Prog, V.int .i64 x_6225.Pc, V.int .i64 x_6225.Unit, V.int .i64 x_6225.Keeps.a0, V.int .i64 x_6225.Keeps.a1, V.int .i64 x_6225.Keeps.a2, V.int .i64 x_6225.Keeps.a3, V.int .i64 x_6225.State, V.int .i64 x_6225.Ran]) (.load rfl rfl (.box rfl rfl) rfl) ?_
                  refine SafeOps.quiet0 E_good rfl rfl rfl (v := V.sl 3 (rws api_Instr.cells (gt a0_4 e_6080.Task.Prog))) (.fn rfl) ?_
                  refine bindG h ?_
                  rintro ⟨x_6229, x_6230, x_6231⟩ he6232 h
                  refine SafeOps.quiet0 E_good rfl rfl rfl (v := V.tup [V.agg [V.int .i64 x_6229.Id, V.int .i64 x_6229.Tenant, V.int .i64 x_6229.Prog, V.int .i64 x_6229.Pc, V.int .i64 x_6229.Unit, V.int .i64 x_6229.Keeps.a0, V.int .i64 x_6229.Keeps.a1, V.int .i64 x_6229.Keeps.a2, V.int .i64 x_6229.Keeps.a3, V.int .i64 x_6229.State, V.int .i64 x_6229.Ran], V.agg [V.int .i64 x_6230.Kind, V.int .i64 x_6230.A, V.int .i64 x_6230.B], V.int .i64 x_6231]) (.callP rfl rfl (go_step_Do_sc x_6225 (gt a0_4 e_6080.Task.Prog) _ he6232) rfl) ?_
                  refine SafeOps.quiet0 E_good rfl rfl rfl (v := V.tup [V.agg [V.int .i64 x_6229.Id, V.int .i64 x_6229.Tenant, V.int .i64 x_6229.Prog, V.int .i64 x_6229.Pc, V.int .i64 x_6229.Unit, V.int .i64 x_6229.Keeps.a0, V.int .i64 x_6229.Keeps.a1, V.int .i64 x_6229.Keeps.a2, V.int .i64 x_6229.Keeps.a3, V.int .i64 x_6229.State, V.int .i64 x_6229.Ran], V.agg [V.int .i64 x_6230.Kind, V.int .i64 x_6230.A, V.int .i64 x_6230.B], V.int .i64 x_6231]) (.fn rfl) ?_
                  refine SafeOps.quiet0 E_good rfl rfl rfl (v := V.agg [V.int .i64 x_6229.Id, V.int .i64 x_6229.Tenant, V.int .i64 x_6229.Prog, V.int .i64 x_6229.Pc, V.int .i64 x_6229.Unit, V.int .i64 x_6229.Keeps.a0, V.int .i64 x_6229.Keeps.a1, V.int .i64 x_6229.Keeps.a2, V.int .i64 x_6229.Keeps.a3, V.int .i64 x_6229.State, V.int .i64 x_6229.Ran]) (.fn rfl) ?_
                  refine SafeOps.quiet0 E_good rfl rfl rfl (v := V.agg [V.int .i64 x_6230.Kind, V.int .i64 x_6230.A, V.int .i64 x_6230.B]) (.fn rfl) ?_
                  refine SafeOps.quiet0 E_good rfl rfl rfl (v := V.int .i64 x_6231) (.fn rfl) ?_
                  refine SafeOps.store (z := Obj.box [V.int .i64 x_6229.Id, V.int .i64 x_6229.Tenant, V.int .i64 x_6229.Prog, V.int .i64 x_6229.Pc, V.int .i64 x_6229.Unit, V.int .i64 x_6229.Keeps.a0, V.int .i64 x_6229.Keeps.a1, V.int .i64 x_6229.Keeps.a2, V.int .i64 x_6229.Keeps.a3, V.int .i64 x_6229.State, V.int .i64 x_6229.Ran]) E_good rfl rfl rfl rfl rfl rfl rfl (.boxM (c := 11) rfl rfl (Nat.le_of_ble_eq_true rfl) rfl) ?_
                  refine SafeOps.quiet0 E_good rfl rfl rfl (v := V.int .i64 x_6231) (.fn rfl) ?_
                  refine SafeOps.nil ?_
                  repeat (first | refine Safe.seq ?_ | refine Safe.skip ?_ | with_reducible refine thenQ.n ?_ | with_reducible refine blockQ.n ?_)
                  refine Safe.region ?_
                  refine SafeOps.quiet0 E_good rfl rfl rfl (v := V.int .i64 x_6231) (.fn rfl) ?_
                  refine SafeOps.quiet0 E_good rfl rfl rfl (v := V.bool (x_6231 != 0)) (.fn rfl) ?_
                  refine SafeOps.nil ?_
                  repeat (first | refine Safe.seq ?_ | refine Safe.skip ?_ | with_reducible refine thenQ.n ?_ | with_reducible refine blockQ.n ?_)
                  refine ifG h (fun hc6233 h => ?_) (fun hc6233 h => ?_)
                  · skip
                    refine Safe.condK rfl hc6233 ?_
                    repeat (first | refine Safe.seq ?_ | refine Safe.skip ?_ | with_reducible refine thenQ.n ?_ | with_reducible refine blockQ.n ?_)
                    refine Safe.region ?_
                    refine SafeOps.quiet0 E_good rfl rfl rfl (v := V.bool false) (.fn rfl) ?_
                    refine SafeOps.nil ?_
                    repeat (first | refine Safe.seq ?_ | refine Safe.skip ?_ | with_reducible refine thenQ.n ?_ | with_reducible refine blockQ.n ?_)
                    refine Safe.ret ?_
                    repeat (first | with_reducible refine thenQ.r ?_ | with_reducible refine blockQ.r ?_)
                    refine inQ.gen (vs := [V.bool false]) (v := V.bool false) (.inr rfl) rfl (.tmp (v := V.bool false) rfl .nil) rfl ?_
                    refine SafeOps.quiet0 E_good rfl rfl rfl (v := V.bool false) (.fn rfl) ?_
                    refine SafeOps.nil ?_
                    repeat (first | refine Safe.seq ?_ | refine Safe.skip ?_ | with_reducible refine thenQ.n ?_ | with_reducible refine blockQ.n ?_)
                    refine Safe.region ?_
                    refine SafeOps.quiet0 E_good rfl rfl rfl (v := V.ptr [12, 23, 16, 6, 17, 1] 0 0) (.fn rfl) ?_
                    refine SafeOps.quiet0 E_good rfl rfl rfl (v := V.agg [V.int .i64 ((gt a1_5 v8_5730).Kind), V.int .i64 ((gt a1_5 v8_5730).Id), V.int .i64 ((gt a1_5 v8_5730).A)]) (.load rfl rfl (.box rfl rfl) rfl) ?_
                    refine SafeOps.quiet0 E_good rfl rfl rfl (v := V.ptr [12, 23, 16, 6, 17, 1] 0 0) (.fn rfl) ?_
                    refine SafeOps.quiet0 E_good rfl rfl rfl (v := V.ptr [12, 23, 16, 6, 17, 1] 0 11) (.fn rfl) ?_
                    refine SafeOps.store (z := Obj.box [V.int .i64 e_6080.Task.Id, V.int .i64 e_6080.Task.Tenant, V.int .i64 e_6080.Task.Prog, V.int .i64 e_6080.Task.Pc, V.int .i64 e_6080.Task.Unit, V.int .i64 e_6080.Task.Keeps.a0, V.int .i64 e_6080.Task.Keeps.a1, V.int .i64 e_6080.Task.Keeps.a2, V.int .i64 e_6080.Task.Keeps.a3, V.int .i64 e_6080.Task.State, V.int .i64 e_6080.Task.Ran, V.int .i64 ((gt a1_5 v8_5730).Kind), V.int .i64 ((gt a1_5 v8_5730).Id), V.int .i64 ((gt a1_5 v8_5730).A)]) E_good rfl rfl rfl rfl rfl rfl rfl (.boxM (c := 14) rfl rfl (Nat.le_of_ble_eq_true rfl) rfl) ?_
                    refine SafeOps.gets (τ := ⟨Tryd.f34.ntmps, [(9, V.bool false)], ([12, 7], Obj.box [V.ptr [12, 20] 0 0]) :: ([12, 20], Obj.box [V.sl 1 (rws (fun l => [V.sl 3 (rws api_Instr.cells l)]) a0_4), V.mapr [12, 18], V.ref [7000, 114, 12, 20, 2] 0 (rws (fun n => [V.int .i64 n]) v12_202_5731).length]) :: ([12, 23, 16, 2], Obj.box [V.int .i64 ((gt a1_5 v8_5730).Kind), V.int .i64 ((gt a1_5 v8_5730).Id), V.int .i64 ((gt a1_5 v8_5730).A)]) :: ([12, 23, 16, 6, 3], Obj.box [V.int .i64 ((gt a1_5 v8_5730).Kind), V.int .i64 ((gt a1_5 v8_5730).Id), V.int .i64 ((gt a1_5 v8_5730).A)]) :: ([12, 23, 16, 6, 17, 1], Obj.box [V.int .i64 e_6080.Task.Id, V.int .i64 e_6080.Task.Tenant, V.int .i64 e_6080.Task.Prog, V.int .i64 e_6080.Task.Pc, V.int .i64 e_6080.Task.Unit, V.int .i64 e_6080.Task.Keeps.a0, V.int .i64 e_6080.Task.Keeps.a1, V.int .i64 e_6080.Task.Keeps.a2, V.int .i64 e_6080.Task.Keeps.a3, V.int .i64 e_6080.Task.State, V.int .i64 e_6080.Task.Ran, V.int .i64 ((gt a1_5 v8_5730).Kind), V.int .i64 ((gt a1_5 v8_5730).Id), V.int .i64 ((gt a1_5 v8_5730).A)]) :: ([12, 23, 16, 6, 45, 8], Obj.box [V.int .i64 x_6217.Op, V.int .i64 x_6217.A, V.int .i64 x_6217.B]) :: ([12, 23, 16, 6, 45, 10], Obj.box [V.int .i64 x_6229.Id, V.int .i64 x_6229.Tenant, V.int .i64 x_6229.Prog, V.int .i64 x_6229.Pc, V.int .i64 x_6229.Unit, V.int .i64 x_6229.Keeps.a0, V.int .i64 x_6229.Keeps.a1, V.int .i64 x_6229.Keeps.a2, V.int .i64 x_6229.Keeps.a3, V.int .i64 x_6229.State, V.int .i64 x_6229.Ran]) :: ([7000, 114, 12, 20, 2], Obj.rows 1 (rws (fun n => [V.int .i64 n]) v12_202_5731) false) :: (pmo [12, 18] (fun n : Int => V.int .i64 n) trace_seen.cells (some (mix ((gt a1_5 v8_5730).Id) vm_5732, [12, 23, 16, 6, 17, 1])) (mput vm_5732 ((gt a1_5 v8_5730).Id) e_6080)), [(Tryd.f33.ntmps, []), (Tryd.f32.ntmps, [(0, V.sl 3 (rws api_Event.cells a1_5)), (1, V.fn 33 [V.ptr [12, 7] 0 0]), (5, V.int .i64 v8_5730), (7, V.int .i64 (a1_5.length : Int)), (8, V.int .i64 v8_5730)]), (Tryd.f25.ntmps, [(1, V.sl 3 (rws api_Event.cells a1_5)), (7, V.ptr [12, 7] 0 0)]), (Tryd.f11.ntmps, [])], [12, 23, 16, 6]⟩) (.cov ⟨rfl, rfl, (upT_cons (.refl _) upT_nil), (upOb_cons rfl (.refl _) (upOb_cons rfl (.refl _) (upOb_cons rfl (.refl _) (upOb_cons rfl (.refl _) (upOb_cons rfl (.refl _) (upOb_cons rfl (.refl _) (upOb_cons rfl (.refl _) (upOb_cons rfl (.refl _) (upOb_tl rfl (by repeat first | exact Tn.here | refine Tn.cons rfl ?_) rfl))))))))), (upOut_cons rfl upT_nil (upOut_cons rfl (upT_cons (.refl _) (upT_cons (.refl _) (upT_cons (.refl _) (upT_cons (.refl _) (upT_cons (.refl _) upT_nil))))) (upOut_cons rfl (upT_cons (.refl _) (upT_cons (.refl _) upT_nil)) (upOut_cons rfl upT_nil upOut_nil)))), (cl3 rfl (wi_cons rfl (wi_cons rfl (wi_cons rfl (wi_cons rfl (wi_cons rfl (wi_cons rfl (wi_cons rfl (wi_cons rfl (wi_tl rfl (by repeat first | exact Tn.here | refine Tn.cons rfl ?_) (fun _ => rfl) (sob rfl)))))))))) rfl)⟩) ?_
                    refine SafeOps.giveP (M := [12, 18]) (fun n : Int => V.int .i64 n) trace_seen.cells vm_5732 ((gt a1_5 v8_5730).Id) e_6080 (trace_seen.mk e_6080.Task (gt a1_5 v8_5730)) [12, 23, 16, 6, 17, 1] rfl rfl rfl rfl rfl (fun _ _ _ => rfl) (by repeat first | exact Tg.here | apply Tg.drop rfl rfl | apply Tg.cons rfl rfl) rfl rfl ?_
                    refine SafeOps.nil ?_
                    repeat (first | refine Safe.seq ?_ | refine Safe.skip ?_ | with_reducible refine thenQ.n ?_ | with_reducible refine blockQ.n ?_)
                    refine Safe.region ?_
                    refine SafeOps.quiet0 E_good rfl rfl rfl (v := V.bool false) (.fn rfl) ?_
                    refine SafeOps.quiet0 E_good rfl rfl rfl (v := V.bool false) (.fn rfl) ?_
                    refine SafeOps.nil ?_
                    repeat (first | refine Safe.seq ?_ | refine Safe.skip ?_ | with_reducible refine thenQ.n ?_ | with_reducible refine blockQ.n ?_)
                    refine Safe.ret ?_
                    repeat (first | with_reducible refine thenQ.r ?_ | with_reducible refine blockQ.r ?_)
                    refine inQ.gen (vs := [V.bool false]) (v := V.bool false) (.inr rfl) rfl (.tmp (v := V.bool false) rfl .nil) rfl ?_
                    exact SafeOps.got (HJ6077 (false, v12_202_5731, mput vm_5732 ((gt a1_5 v8_5730).Id) (trace_seen.mk e_6080.Task (gt a1_5 v8_5730))) h) (.cov ⟨rfl, rfl, (upT_cons (.refl _) upT_nil), (upOb_cons rfl (.refl _) (upOb_cons rfl (.refl _) (upOb_cons rfl (.refl _) (upOb_tl rfl (by repeat first | exact Tn.here | refine Tn.cons rfl ?_) rfl)))), (upOut_cons rfl (upT_cons (.refl _) (upT_cons (.refl _) (upT_cons (.refl _) (upT_cons (.refl _) (upT_cons (.refl _) upT_nil))))) (upOut_cons rfl (upT_cons (.refl _) (upT_cons (.refl _) upT_nil)) (upOut_cons rfl upT_nil upOut_nil))), (cl3 rfl (wi_cons rfl (wi_cons rfl (wi_cons rfl (wi_tl rfl (by repeat first | exact Tn.here | refine Tn.cons rfl ?_) (fun _ => rfl) nob)))) rfl)⟩)
                  · skip
                    refine Safe.condN rfl hc6233 ?_
                    repeat (first | refine Safe.seq ?_ | refine Safe.skip ?_ | with_reducible refine thenQ.n ?_ | with_reducible refine blockQ.n ?_)
                    refine Safe.region ?_
                    refine SafeOps.quiet0 E_good rfl rfl rfl (v := V.ptr [12, 23, 16, 6, 17, 1] 0 0) (.fn rfl) ?_
                    refine SafeOps.quiet0 E_good rfl rfl rfl (v := V.agg [V.int .i64 x_6229.Id, V.int .i64 x_6229.Tenant, V.int .i64 x_6229.Prog, V.int .i64 x_6229.Pc, V.int .i64 x_6229.Unit, V.int .i64 x_6229.Keeps.a0, V.int .i64 x_6229.Keeps.a1, V.int .i64 x_6229.Keeps.a2, V.int .i64 x_6229.Keeps.a3, V.int .i64 x_6229.State, V.int .i64 x_6229.Ran]) (.load rfl rfl (.box rfl rfl) rfl) ?_
                    refine bindG h ?_
                    rintro ⟨x_6234, x_6235⟩ he6236 h
                    refine SafeOps.quiet0 E_good rfl rfl rfl (v := V.tup [V.agg [V.int .i64 x_6234.Id, V.int .i64 x_6234.Tenant, V.int .i64 x_6234.Prog, V.int .i64 x_6234.Pc, V.int .i64 x_6234.Unit, V.int .i64 x_6234.Keeps.a0, V.int .i64 x_6234.Keeps.a1, V.int .i64 x_6234.Keeps.a2, V.int .i64 x_6234.Keeps.a3, V.int .i64 x_6234.State, V.int .i64 x_6234.Ran], V.int .i64 x_6235]) (.callP rfl rfl (go_life_Move_sc x_6229 1 _ he6236) rfl) ?_
                    refine SafeOps.quiet0 E_good rfl rfl rfl (v := V.tup [V.agg [V.int .i64 x_6234.Id, V.int .i64 x_6234.Tenant, V.int .i64 x_6234.Prog, V.int .i64 x_6234.Pc, V.int .i64 x_6234.Unit, V.int .i64 x_6234.Keeps.a0, V.int .i64 x_6234.Keeps.a1, V.int .i64 x_6234.Keeps.a2, V.int .i64 x_6234.Keeps.a3, V.int .i64 x_6234.State, V.int .i64 x_6234.Ran], V.int .i64 x_6235]) (.fn rfl) ?_
                    refine SafeOps.quiet0 E_good rfl rfl rfl (v := V.agg [V.int .i64 x_6234.Id, V.int .i64 x_6234.Tenant, V.int .i64 x_6234.Prog, V.int .i64 x_6234.Pc, V.int .i64 x_6234.Unit, V.int .i64 x_6234.Keeps.a0, V.int .i64 x_6234.Keeps.a1, V.int .i64 x_6234.Keeps.a2, V.int .i64 x_6234.Keeps.a3, V.int .i64 x_6234.State, V.int .i64 x_6234.Ran]) (.fn rfl) ?_
                    refine SafeOps.quiet0 E_good rfl rfl rfl (v := V.int .i64 x_6235) (.fn rfl) ?_
                    refine SafeOps.quiet0 E_good rfl rfl rfl (v := V.ptr [12, 23, 16, 6, 17, 1] 0 0) (.fn rfl) ?_
                    refine SafeOps.quiet0 E_good rfl rfl rfl (v := V.ptr [12, 23, 16, 6, 17, 1] 0 0) (.fn rfl) ?_
                    refine SafeOps.store (z := Obj.box [V.int .i64 x_6234.Id, V.int .i64 x_6234.Tenant, V.int .i64 x_6234.Prog, V.int .i64 x_6234.Pc, V.int .i64 x_6234.Unit, V.int .i64 x_6234.Keeps.a0, V.int .i64 x_6234.Keeps.a1, V.int .i64 x_6234.Keeps.a2, V.int .i64 x_6234.Keeps.a3, V.int .i64 x_6234.State, V.int .i64 x_6234.Ran, V.int .i64 e_6080.last.Kind, V.int .i64 e_6080.last.Id, V.int .i64 e_6080.last.A]) E_good rfl rfl rfl rfl rfl rfl rfl (.boxM (c := 14) rfl rfl (Nat.le_of_ble_eq_true rfl) rfl) ?_
                    refine SafeOps.quiet0 E_good rfl rfl rfl (v := V.int .i64 x_6235) (.fn rfl) ?_
                    refine SafeOps.nil ?_
                    repeat (first | refine Safe.seq ?_ | refine Safe.skip ?_ | with_reducible refine thenQ.n ?_ | with_reducible refine blockQ.n ?_)
                    refine Safe.region ?_
                    refine SafeOps.quiet0 E_good rfl rfl rfl (v := V.int .i64 x_6235) (.fn rfl) ?_
                    refine SafeOps.quiet0 E_good rfl rfl rfl (v := V.bool (x_6235 == 0)) (.fn rfl) ?_
                    refine SafeOps.quiet0 E_good rfl rfl rfl (v := V.bool (x_6235 == 0)) (.fn rfl) ?_
                    refine SafeOps.nil ?_
                    repeat (first | refine Safe.seq ?_ | refine Safe.skip ?_ | with_reducible refine thenQ.n ?_ | with_reducible refine blockQ.n ?_)
                    refine Safe.ret ?_
                    repeat (first | with_reducible refine thenQ.r ?_ | with_reducible refine blockQ.r ?_)
                    refine inQ.gen (vs := [V.bool (x_6235 == 0)]) (v := V.bool (x_6235 == 0)) (.inr rfl) rfl (.tmp (v := V.bool (x_6235 == 0)) rfl .nil) rfl ?_
                    refine SafeOps.quiet0 E_good rfl rfl rfl (v := V.bool (x_6235 == 0)) (.fn rfl) ?_
                    refine SafeOps.nil ?_
                    repeat (first | refine Safe.seq ?_ | refine Safe.skip ?_ | with_reducible refine thenQ.n ?_ | with_reducible refine blockQ.n ?_)
                    refine Safe.region ?_
                    refine SafeOps.quiet0 E_good rfl rfl rfl (v := V.ptr [12, 23, 16, 6, 17, 1] 0 0) (.fn rfl) ?_
                    refine SafeOps.quiet0 E_good rfl rfl rfl (v := V.agg [V.int .i64 ((gt a1_5 v8_5730).Kind), V.int .i64 ((gt a1_5 v8_5730).Id), V.int .i64 ((gt a1_5 v8_5730).A)]) (.load rfl rfl (.box rfl rfl) rfl) ?_
                    refine SafeOps.quiet0 E_good rfl rfl rfl (v := V.ptr [12, 23, 16, 6, 17, 1] 0 0) (.fn rfl) ?_
                    refine SafeOps.quiet0 E_good rfl rfl rfl (v := V.ptr [12, 23, 16, 6, 17, 1] 0 11) (.fn rfl) ?_
                    refine SafeOps.store (z := Obj.box [V.int .i64 x_6234.Id, V.int .i64 x_6234.Tenant, V.int .i64 x_6234.Prog, V.int .i64 x_6234.Pc, V.int .i64 x_6234.Unit, V.int .i64 x_6234.Keeps.a0, V.int .i64 x_6234.Keeps.a1, V.int .i64 x_6234.Keeps.a2, V.int .i64 x_6234.Keeps.a3, V.int .i64 x_6234.State, V.int .i64 x_6234.Ran, V.int .i64 ((gt a1_5 v8_5730).Kind), V.int .i64 ((gt a1_5 v8_5730).Id), V.int .i64 ((gt a1_5 v8_5730).A)]) E_good rfl rfl rfl rfl rfl rfl rfl (.boxM (c := 14) rfl rfl (Nat.le_of_ble_eq_true rfl) rfl) ?_
                    refine SafeOps.gets (τ := ⟨Tryd.f34.ntmps, [(9, V.bool (x_6235 == 0))], ([12, 7], Obj.box [V.ptr [12, 20] 0 0]) :: ([12, 20], Obj.box [V.sl 1 (rws (fun l => [V.sl 3 (rws api_Instr.cells l)]) a0_4), V.mapr [12, 18], V.ref [7000, 114, 12, 20, 2] 0 (rws (fun n => [V.int .i64 n]) v12_202_5731).length]) :: ([12, 23, 16, 2], Obj.box [V.int .i64 ((gt a1_5 v8_5730).Kind), V.int .i64 ((gt a1_5 v8_5730).Id), V.int .i64 ((gt a1_5 v8_5730).A)]) :: ([12, 23, 16, 6, 3], Obj.box [V.int .i64 ((gt a1_5 v8_5730).Kind), V.int .i64 ((gt a1_5 v8_5730).Id), V.int .i64 ((gt a1_5 v8_5730).A)]) :: ([12, 23, 16, 6, 17, 1], Obj.box [V.int .i64 x_6234.Id, V.int .i64 x_6234.Tenant, V.int .i64 x_6234.Prog, V.int .i64 x_6234.Pc, V.int .i64 x_6234.Unit, V.int .i64 x_6234.Keeps.a0, V.int .i64 x_6234.Keeps.a1, V.int .i64 x_6234.Keeps.a2, V.int .i64 x_6234.Keeps.a3, V.int .i64 x_6234.State, V.int .i64 x_6234.Ran, V.int .i64 ((gt a1_5 v8_5730).Kind), V.int .i64 ((gt a1_5 v8_5730).Id), V.int .i64 ((gt a1_5 v8_5730).A)]) :: ([12, 23, 16, 6, 45, 8], Obj.box [V.int .i64 x_6217.Op, V.int .i64 x_6217.A, V.int .i64 x_6217.B]) :: ([12, 23, 16, 6, 45, 10], Obj.box [V.int .i64 x_6229.Id, V.int .i64 x_6229.Tenant, V.int .i64 x_6229.Prog, V.int .i64 x_6229.Pc, V.int .i64 x_6229.Unit, V.int .i64 x_6229.Keeps.a0, V.int .i64 x_6229.Keeps.a1, V.int .i64 x_6229.Keeps.a2, V.int .i64 x_6229.Keeps.a3, V.int .i64 x_6229.State, V.int .i64 x_6229.Ran]) :: ([7000, 114, 12, 20, 2], Obj.rows 1 (rws (fun n => [V.int .i64 n]) v12_202_5731) false) :: (pmo [12, 18] (fun n : Int => V.int .i64 n) trace_seen.cells (some (mix ((gt a1_5 v8_5730).Id) vm_5732, [12, 23, 16, 6, 17, 1])) (mput vm_5732 ((gt a1_5 v8_5730).Id) e_6080)), [(Tryd.f33.ntmps, []), (Tryd.f32.ntmps, [(0, V.sl 3 (rws api_Event.cells a1_5)), (1, V.fn 33 [V.ptr [12, 7] 0 0]), (5, V.int .i64 v8_5730), (7, V.int .i64 (a1_5.length : Int)), (8, V.int .i64 v8_5730)]), (Tryd.f25.ntmps, [(1, V.sl 3 (rws api_Event.cells a1_5)), (7, V.ptr [12, 7] 0 0)]), (Tryd.f11.ntmps, [])], [12, 23, 16, 6]⟩) (.cov ⟨rfl, rfl, (upT_cons (.refl _) upT_nil), (upOb_cons rfl (.refl _) (upOb_cons rfl (.refl _) (upOb_cons rfl (.refl _) (upOb_cons rfl (.refl _) (upOb_cons rfl (.refl _) (upOb_cons rfl (.refl _) (upOb_cons rfl (.refl _) (upOb_cons rfl (.refl _) (upOb_tl rfl (by repeat first | exact Tn.here | refine Tn.cons rfl ?_) rfl))))))))), (upOut_cons rfl upT_nil (upOut_cons rfl (upT_cons (.refl _) (upT_cons (.refl _) (upT_cons (.refl _) (upT_cons (.refl _) (upT_cons (.refl _) upT_nil))))) (upOut_cons rfl (upT_cons (.refl _) (upT_cons (.refl _) upT_nil)) (upOut_cons rfl upT_nil upOut_nil)))), (cl3 rfl (wi_cons rfl (wi_cons rfl (wi_cons rfl (wi_cons rfl (wi_cons rfl (wi_cons rfl (wi_cons rfl (wi_cons rfl (wi_tl rfl (by repeat first | exact Tn.here | refine Tn.cons rfl ?_) (fun _ => rfl) (sob rfl)))))))))) rfl)⟩) ?_
                    refine SafeOps.giveP (M := [12, 18]) (fun n : Int => V.int .i64 n) trace_seen.cells vm_5732 ((gt a1_5 v8_5730).Id) e_6080 (trace_seen.mk x_6234 (gt a1_5 v8_5730)) [12, 23, 16, 6, 17, 1] rfl rfl rfl rfl rfl (fun _ _ _ => rfl) (by repeat first | exact Tg.here | apply Tg.drop rfl rfl | apply Tg.cons rfl rfl) rfl rfl ?_
                    refine SafeOps.nil ?_
                    repeat (first | refine Safe.seq ?_ | refine Safe.skip ?_ | with_reducible refine thenQ.n ?_ | with_reducible refine blockQ.n ?_)
                    refine Safe.region ?_
                    refine SafeOps.quiet0 E_good rfl rfl rfl (v := V.bool (x_6235 == 0)) (.fn rfl) ?_
                    refine SafeOps.quiet0 E_good rfl rfl rfl (v := V.bool (x_6235 == 0)) (.fn rfl) ?_
                    refine SafeOps.nil ?_
                    repeat (first | refine Safe.seq ?_ | refine Safe.skip ?_ | with_reducible refine thenQ.n ?_ | with_reducible refine blockQ.n ?_)
                    refine Safe.ret ?_
                    repeat (first | with_reducible refine thenQ.r ?_ | with_reducible refine blockQ.r ?_)
                    refine inQ.gen (vs := [V.bool (x_6235 == 0)]) (v := V.bool (x_6235 == 0)) (.inr rfl) rfl (.tmp (v := V.bool (x_6235 == 0)) rfl .nil) rfl ?_
                    exact SafeOps.got (HJ6077 ((x_6235 == 0), v12_202_5731, mput vm_5732 ((gt a1_5 v8_5730).Id) (trace_seen.mk x_6234 (gt a1_5 v8_5730))) h) (.cov ⟨rfl, rfl, (upT_cons (.refl _) upT_nil), (upOb_cons rfl (.refl _) (upOb_cons rfl (.refl _) (upOb_cons rfl (.refl _) (upOb_tl rfl (by repeat first | exact Tn.here | refine Tn.cons rfl ?_) rfl)))), (upOut_cons rfl (upT_cons (.refl _) (upT_cons (.refl _) (upT_cons (.refl _) (upT_cons (.refl _) (upT_cons (.refl _) upT_nil))))) (upOut_cons rfl (upT_cons (.refl _) (upT_cons (.refl _) upT_nil)) (upOut_cons rfl upT_nil upOut_nil))), (cl3 rfl (wi_cons rfl (wi_cons rfl (wi_cons rfl (wi_tl rfl (by repeat first | exact Tn.here | refine Tn.cons rfl ?_) (fun _ => rfl) nob)))) rfl)⟩)
            · skip
              refine Safe.condN rfl hc6182 ?_
              repeat (first | refine Safe.seq ?_ | refine Safe.skip ?_ | with_reducible refine thenQ.n ?_ | with_reducible refine blockQ.n ?_)
              refine Safe.region ?_
              refine SafeOps.quiet0 E_good rfl rfl rfl (v := V.bool (((gt a1_5 v8_5730).Kind) == 3)) (.fn rfl) ?_
              refine SafeOps.quiet0 E_good rfl rfl rfl (v := V.bool (((gt a1_5 v8_5730).Kind) == 3)) (.fn rfl) ?_
              refine SafeOps.nil ?_
              repeat (first | refine Safe.seq ?_ | refine Safe.skip ?_ | with_reducible refine thenQ.n ?_ | with_reducible refine blockQ.n ?_)
              refine ifG h (fun hc6237 h => ?_) (fun hc6237 h => ?_)
              · skip
                refine Safe.condK rfl hc6237 ?_
                repeat (first | refine Safe.seq ?_ | refine Safe.skip ?_ | with_reducible refine thenQ.n ?_ | with_reducible refine blockQ.n ?_)
                refine Safe.regionD (n := 21) [] [] E_good mixed rfl ?_
                refine DAny.take (i := 0) rfl (by kernel_rfl) [] (by kernel_rfl) (by kernel_rfl) (by kernel_rfl) rfl rfl rfl (v := V.bool (e_6080.Task.State == 1)) (fun _ hz => (.fn rfl)) ?_
                refine DAny.take (i := 1) rfl (by kernel_rfl) [] (by kernel_rfl) (by kernel_rfl) (by kernel_rfl) rfl rfl rfl (v := V.bool (e_6080.Task.State == 1)) (fun _ hz => (.fn rfl)) ?_
                refine ifG h (fun hc6238 h => ?_) (fun hc6238 h => ?_)
                · skip
                  refine DAny.take (i := 2) rfl (by kernel_rfl) [] (by kernel_rfl) (by kernel_rfl) (by kernel_rfl) (congrArg some hc6238) rfl rfl (v := V.bool (e_6080.last.Kind == 2)) (fun _ hz => (.fn rfl)) ?_
                  refine DAny.take (i := 3) rfl (by kernel_rfl) [] (by kernel_rfl) (by kernel_rfl) (by kernel_rfl) rfl rfl rfl (v := V.bool (e_6080.last.Kind == 2)) (fun _ hz => (.pickK rfl hc6238 rfl)) ?_
                  refine DAny.take (i := 4) rfl (by kernel_rfl) [] (by kernel_rfl) (by kernel_rfl) (by kernel_rfl) rfl rfl rfl (v := V.bool (e_6080.last.Kind == 2)) (fun _ hz => (.fn rfl)) ?_
                  refine ifG h (fun hc6239 h => ?_) (fun hc6239 h => ?_)
                  · skip
                    refine DAny.take (i := 5) rfl (by kernel_rfl) [] (by kernel_rfl) (by kernel_rfl) (by kernel_rfl) (congrArg some hc6239) rfl rfl (v := V.ptr [12, 23, 16, 6, 3] 0 2) (fun _ hz => (.fn rfl)) ?_
                    refine DAny.take (i := 6) rfl (by kernel_rfl) [] (by kernel_rfl) (by kernel_rfl) (by kernel_rfl) (congrArg some hc6239) rfl rfl (v := V.int .i64 ((gt a1_5 v8_5730).A)) (fun _ hz => (.load rfl rfl (.box (hz _ _ rfl rfl) rfl) rfl)) ?_
                    refine DAny.take (i := 7) rfl (by kernel_rfl) [] (by kernel_rfl) (by kernel_rfl) (by kernel_rfl) (congrArg some hc6239) rfl rfl (v := V.bool (((gt a1_5 v8_5730).A) != 0)) (fun _ hz => (.fn rfl)) ?_
                    refine DAny.take (i := 8) rfl (by kernel_rfl) [] (by kernel_rfl) (by kernel_rfl) (by kernel_rfl) rfl rfl rfl (v := V.bool (((gt a1_5 v8_5730).A) != 0)) (fun _ hz => (.pickK rfl hc6239 rfl)) ?_
                    refine DAny.take (i := 9) rfl (by kernel_rfl) [] (by kernel_rfl) (by kernel_rfl) (by kernel_rfl) rfl rfl rfl (v := V.bool (((gt a1_5 v8_5730).A) != 0)) (fun _ hz => (.fn rfl)) ?_
                    refine ifG h (fun hc6240 h => ?_) (fun hc6240 h => ?_)
                    · skip
                      refine DAny.take (i := 10) rfl (by kernel_rfl) [] (by kernel_rfl) (by kernel_rfl) (by kernel_rfl) (congrArg some hc6240) rfl rfl (v := V.ptr [12, 23, 16, 6, 3] 0 2) (fun _ hz => (.fn rfl)) ?_
                      refine DAny.take (i := 11) rfl (by kernel_rfl) [] (by kernel_rfl) (by kernel_rfl) (by kernel_rfl) (congrArg some hc6240) rfl rfl (v := V.int .i64 ((gt a1_5 v8_5730).A)) (fun _ hz => (.load rfl rfl (.box (hz _ _ rfl rfl) rfl) rfl)) ?_
                      refine DAny.take (i := 12) rfl (by kernel_rfl) [] (by kernel_rfl) (by kernel_rfl) (by kernel_rfl) (congrArg some hc6240) rfl rfl (v := V.ptr [12, 23, 16, 6, 17, 1] 0 0) (fun _ hz => (.fn rfl)) ?_
                      refine DAny.take (i := 13) rfl (by kernel_rfl) [] (by kernel_rfl) (by kernel_rfl) (by kernel_rfl) (congrArg some hc6240) rfl rfl (v := V.ptr [12, 23, 16, 6, 17, 1] 0 0) (fun _ hz => (.fn rfl)) ?_
                      refine DAny.take (i := 14) rfl (by kernel_rfl) [] (by kernel_rfl) (by kernel_rfl) (by kernel_rfl) (congrArg some hc6240) rfl rfl (v := V.ptr [12, 23, 16, 6, 17, 1] 0 11) (fun _ hz => (.fn rfl)) ?_
                      refine DAny.take (i := 15) rfl (by kernel_rfl) [] (by kernel_rfl) (by kernel_rfl) (by kernel_rfl) (congrArg some hc6240) rfl rfl (v := V.ptr [12, 23, 16, 6, 17, 1] 0 13) (fun _ hz => (.fn rfl)) ?_
                      refine DAny.take (i := 16) rfl (by kernel_rfl) [] (by kernel_rfl) (by kernel_rfl) (by kernel_rfl) (congrArg some hc6240) rfl rfl (v := V.int .i64 e_6080.last.A) (fun _ hz => (.load rfl rfl (.box (hz _ _ rfl rfl) rfl) rfl)) ?_
                      refine DAny.take (i := 17) rfl (by kernel_rfl) [] (by kernel_rfl) (by kernel_rfl) (by kernel_rfl) (congrArg some hc6240) rfl rfl (v := V.int .i64 (go_trace_Held e_6080.last.A)) (fun _ hz => (.callP rfl rfl (go_trace_Held_sc e_6080.last.A _ rfl) rfl)) ?_
                      refine DAny.take (i := 18) rfl (by kernel_rfl) [] (by kernel_rfl) (by kernel_rfl) (by kernel_rfl) (congrArg some hc6240) rfl rfl (v := V.bool (((gt a1_5 v8_5730).A) == (go_trace_Held e_6080.last.A))) (fun _ hz => (.fn rfl)) ?_
                      refine DAny.take (i := 19) rfl (by kernel_rfl) [] (by kernel_rfl) (by kernel_rfl) (by kernel_rfl) rfl rfl rfl (v := V.bool (((gt a1_5 v8_5730).A) == (go_trace_Held e_6080.last.A))) (fun _ hz => (.pickK rfl hc6240 rfl)) ?_
                      refine DAny.take (i := 20) rfl (by kernel_rfl) [] (by kernel_rfl) (by kernel_rfl) (by kernel_rfl) rfl rfl rfl (v := V.bool (((gt a1_5 v8_5730).A) == (go_trace_Held e_6080.last.A))) (fun _ hz => (.fn rfl)) ?_
                      refine DAny.nil (by kernel_rfl) ?_
                      repeat (first | refine Safe.seq ?_ | refine Safe.skip ?_ | with_reducible refine thenQ.n ?_ | with_reducible refine blockQ.n ?_)
                      refine Safe.region ?_
                      refine SafeOps.quiet0 E_good rfl rfl rfl (v := V.bool (((gt a1_5 v8_5730).A) == (go_trace_Held e_6080.last.A))) (.fn rfl) ?_
                      refine SafeOps.nil ?_
                      repeat (first | refine Safe.seq ?_ | refine Safe.skip ?_ | with_reducible refine thenQ.n ?_ | with_reducible refine blockQ.n ?_)
                      refine ifG h (fun hc6241 h => ?_) (fun hc6241 h => ?_)
                      · skip
                        refine Safe.condK rfl hc6241 ?_
                        repeat (first | refine Safe.seq ?_ | refine Safe.skip ?_ | with_reducible refine thenQ.n ?_ | with_reducible refine blockQ.n ?_)
                        refine Safe.region ?_
                        refine SafeOps.quiet0 E_good rfl rfl rfl (v := V.ptr [12, 23, 16, 6, 17, 1] 0 0) (.fn rfl) ?_
                        refine SafeOps.quiet0 E_good rfl rfl rfl (v := V.ptr [12, 23, 16, 6, 3] 0 2) (.fn rfl) ?_
                        refine SafeOps.quiet0 E_good rfl rfl rfl (v := V.int .i64 ((gt a1_5 v8_5730).A)) (.load rfl rfl (.box rfl rfl) rfl) ?_
                        refine SafeOps.quiet0 E_good rfl rfl rfl (v := V.ptr [12, 23, 16, 6, 17, 1] 0 0) (.fn rfl) ?_
                        refine SafeOps.quiet0 E_good rfl rfl rfl (v := V.ptr [12, 23, 16, 6, 17, 1] 0 0) (.fn rfl) ?_
                        refine SafeOps.quiet0 E_good rfl rfl rfl (v := V.ptr [12, 23, 16, 6, 17, 1] 0 9) (.fn rfl) ?_
                        refine SafeOps.store (z := Obj.box [V.int .i64 e_6080.Task.Id, V.int .i64 e_6080.Task.Tenant, V.int .i64 e_6080.Task.Prog, V.int .i64 e_6080.Task.Pc, V.int .i64 e_6080.Task.Unit, V.int .i64 e_6080.Task.Keeps.a0, V.int .i64 e_6080.Task.Keeps.a1, V.int .i64 e_6080.Task.Keeps.a2, V.int .i64 e_6080.Task.Keeps.a3, V.int .i64 ((gt a1_5 v8_5730).A), V.int .i64 e_6080.Task.Ran, V.int .i64 e_6080.last.Kind, V.int .i64 e_6080.last.Id, V.int .i64 e_6080.last.A]) E_good rfl rfl rfl rfl rfl rfl rfl (.boxM (c := 14) rfl rfl (Nat.le_of_ble_eq_true rfl) rfl) ?_
                        refine SafeOps.nil ?_
                        repeat (first | refine Safe.seq ?_ | refine Safe.skip ?_ | with_reducible refine thenQ.n ?_ | with_reducible refine blockQ.n ?_)
                        refine Safe.region ?_
                        refine SafeOps.quiet0 E_good rfl rfl rfl (v := V.ptr [12, 23, 16, 6, 17, 1] 0 0) (.fn rfl) ?_
                        refine SafeOps.quiet0 E_good rfl rfl rfl (v := V.agg [V.int .i64 ((gt a1_5 v8_5730).Kind), V.int .i64 ((gt a1_5 v8_5730).Id), V.int .i64 ((gt a1_5 v8_5730).A)]) (.load rfl rfl (.box rfl rfl) rfl) ?_
                        refine SafeOps.quiet0 E_good rfl rfl rfl (v := V.ptr [12, 23, 16, 6, 17, 1] 0 0) (.fn rfl) ?_
                        refine SafeOps.quiet0 E_good rfl rfl rfl (v := V.ptr [12, 23, 16, 6, 17, 1] 0 11) (.fn rfl) ?_
                        refine SafeOps.store (z := Obj.box [V.int .i64 e_6080.Task.Id, V.int .i64 e_6080.Task.Tenant, V.int .i64 e_6080.Task.Prog, V.int .i64 e_6080.Task.Pc, V.int .i64 e_6080.Task.Unit, V.int .i64 e_6080.Task.Keeps.a0, V.int .i64 e_6080.Task.Keeps.a1, V.int .i64 e_6080.Task.Keeps.a2, V.int .i64 e_6080.Task.Keeps.a3, V.int .i64 ((gt a1_5 v8_5730).A), V.int .i64 e_6080.Task.Ran, V.int .i64 ((gt a1_5 v8_5730).Kind), V.int .i64 ((gt a1_5 v8_5730).Id), V.int .i64 ((gt a1_5 v8_5730).A)]) E_good rfl rfl rfl rfl rfl rfl rfl (.boxM (c := 14) rfl rfl (Nat.le_of_ble_eq_true rfl) rfl) ?_
                        refine SafeOps.gets (τ := ⟨Tryd.f34.ntmps, [(9, V.bool (((gt a1_5 v8_5730).A) == (go_trace_Held e_6080.last.A)))], ([12, 7], Obj.box [V.ptr [12, 20] 0 0]) :: ([12, 20], Obj.box [V.sl 1 (rws (fun l => [V.sl 3 (rws api_Instr.cells l)]) a0_4), V.mapr [12, 18], V.ref [7000, 114, 12, 20, 2] 0 (rws (fun n => [V.int .i64 n]) v12_202_5731).length]) :: ([12, 23, 16, 2], Obj.box [V.int .i64 ((gt a1_5 v8_5730).Kind), V.int .i64 ((gt a1_5 v8_5730).Id), V.int .i64 ((gt a1_5 v8_5730).A)]) :: ([12, 23, 16, 6, 3], Obj.box [V.int .i64 ((gt a1_5 v8_5730).Kind), V.int .i64 ((gt a1_5 v8_5730).Id), V.int .i64 ((gt a1_5 v8_5730).A)]) :: ([12, 23, 16, 6, 17, 1], Obj.box [V.int .i64 e_6080.Task.Id, V.int .i64 e_6080.Task.Tenant, V.int .i64 e_6080.Task.Prog, V.int .i64 e_6080.Task.Pc, V.int .i64 e_6080.Task.Unit, V.int .i64 e_6080.Task.Keeps.a0, V.int .i64 e_6080.Task.Keeps.a1, V.int .i64 e_6080.Task.Keeps.a2, V.int .i64 e_6080.Task.Keeps.a3, V.int .i64 ((gt a1_5 v8_5730).A), V.int .i64 e_6080.Task.Ran, V.int .i64 ((gt a1_5 v8_5730).Kind), V.int .i64 ((gt a1_5 v8_5730).Id), V.int .i64 ((gt a1_5 v8_5730).A)]) :: ([7000, 114, 12, 20, 2], Obj.rows 1 (rws (fun n => [V.int .i64 n]) v12_202_5731) false) :: (pmo [12, 18] (fun n : Int => V.int .i64 n) trace_seen.cells (some (mix ((gt a1_5 v8_5730).Id) vm_5732, [12, 23, 16, 6, 17, 1])) (mput vm_5732 ((gt a1_5 v8_5730).Id) e_6080)), [(Tryd.f33.ntmps, []), (Tryd.f32.ntmps, [(0, V.sl 3 (rws api_Event.cells a1_5)), (1, V.fn 33 [V.ptr [12, 7] 0 0]), (5, V.int .i64 v8_5730), (7, V.int .i64 (a1_5.length : Int)), (8, V.int .i64 v8_5730)]), (Tryd.f25.ntmps, [(1, V.sl 3 (rws api_Event.cells a1_5)), (7, V.ptr [12, 7] 0 0)]), (Tryd.f11.ntmps, [])], [12, 23, 16, 6]⟩) (.cov ⟨rfl, rfl, (upT_cons (.refl _) upT_nil), (upOb_cons rfl (.refl _) (upOb_cons rfl (.refl _) (upOb_cons rfl (.refl _) (upOb_cons rfl (.refl _) (upOb_cons rfl (.refl _) (upOb_cons rfl (.refl _) (upOb_tl rfl (by repeat first | exact Tn.here | refine Tn.cons rfl ?_) rfl))))))), (upOut_cons rfl upT_nil (upOut_cons rfl (upT_cons (.refl _) (upT_cons (.refl _) (upT_cons (.refl _) (upT_cons (.refl _) (upT_cons (.refl _) upT_nil))))) (upOut_cons rfl (upT_cons (.refl _) (upT_cons (.refl _) upT_nil)) (upOut_cons rfl upT_nil upOut_nil)))), (cl3 rfl (wi_cons rfl (wi_cons rfl (wi_cons rfl (wi_cons rfl (wi_cons rfl (wi_cons rfl (wi_tl rfl (by repeat first | exact Tn.here | refine Tn.cons rfl ?_) (fun _ => rfl) (sob rfl)))))))) rfl)⟩) ?_
                        refine SafeOps.giveP (M := [12, 18]) (fun n : Int => V.int .i64 n) trace_seen.cells vm_5732 ((gt a1_5 v8_5730).Id) e_6080 (trace_seen.mk (api_Task.mk e_6080.Task.Id e_6080.Task.Tenant e_6080.Task.Prog e_6080.Task.Pc e_6080.Task.Unit e_6080.Task.Keeps ((gt a1_5 v8_5730).A) e_6080.Task.Ran) (gt a1_5 v8_5730)) [12, 23, 16, 6, 17, 1] rfl rfl rfl rfl rfl (fun _ _ _ => rfl) (by repeat first | exact Tg.here | apply Tg.drop rfl rfl | apply Tg.cons rfl rfl) rfl rfl ?_
                        refine SafeOps.nil ?_
                        repeat (first | refine Safe.seq ?_ | refine Safe.skip ?_ | with_reducible refine thenQ.n ?_ | with_reducible refine blockQ.n ?_)
                        refine Safe.region ?_
                        refine SafeOps.quiet0 E_good rfl rfl rfl (v := V.bool (((gt a1_5 v8_5730).A) == (go_trace_Held e_6080.last.A))) (.fn rfl) ?_
                        refine SafeOps.quiet0 E_good rfl rfl rfl (v := V.bool (((gt a1_5 v8_5730).A) == (go_trace_Held e_6080.last.A))) (.fn rfl) ?_
                        refine SafeOps.nil ?_
                        repeat (first | refine Safe.seq ?_ | refine Safe.skip ?_ | with_reducible refine thenQ.n ?_ | with_reducible refine blockQ.n ?_)
                        refine Safe.ret ?_
                        repeat (first | with_reducible refine thenQ.r ?_ | with_reducible refine blockQ.r ?_)
                        refine inQ.gen (vs := [V.bool (((gt a1_5 v8_5730).A) == (go_trace_Held e_6080.last.A))]) (v := V.bool (((gt a1_5 v8_5730).A) == (go_trace_Held e_6080.last.A))) (.inr rfl) rfl (.tmp (v := V.bool (((gt a1_5 v8_5730).A) == (go_trace_Held e_6080.last.A))) rfl .nil) rfl ?_
                        exact SafeOps.got (HJ6077 ((((gt a1_5 v8_5730).A) == (go_trace_Held e_6080.last.A)), v12_202_5731, mput vm_5732 ((gt a1_5 v8_5730).Id) (trace_seen.mk (api_Task.mk e_6080.Task.Id e_6080.Task.Tenant e_6080.Task.Prog e_6080.Task.Pc e_6080.Task.Unit e_6080.Task.Keeps ((gt a1_5 v8_5730).A) e_6080.Task.Ran) (gt a1_5 v8_5730))) h) (.cov ⟨rfl, rfl, (upT_cons (.refl _) upT_nil), (upOb_cons rfl (.refl _) (upOb_cons rfl (.refl _) (upOb_cons rfl (.refl _) (upOb_tl rfl (by repeat first | exact Tn.here | refine Tn.cons rfl ?_) rfl)))), (upOut_cons rfl (upT_cons (.refl _) (upT_cons (.refl _) (upT_cons (.refl _) (upT_cons (.refl _) (upT_cons (.refl _) upT_nil))))) (upOut_cons rfl (upT_cons (.refl _) (upT_cons (.refl _) upT_nil)) (upOut_cons rfl upT_nil upOut_nil))), (cl3 rfl (wi_cons rfl (wi_cons rfl (wi_cons rfl (wi_tl rfl (by repeat first | exact Tn.here | refine Tn.cons rfl ?_) (fun _ => rfl) nob)))) rfl)⟩)
                      · skip
                        refine Safe.condN rfl hc6241 ?_
                        repeat (first | refine Safe.seq ?_ | refine Safe.skip ?_ | with_reducible refine thenQ.n ?_ | with_reducible refine blockQ.n ?_)
                        refine Safe.region ?_
                        refine SafeOps.quiet0 E_good rfl rfl rfl (v := V.ptr [12, 23, 16, 6, 17, 1] 0 0) (.fn rfl) ?_
                        refine SafeOps.quiet0 E_good rfl rfl rfl (v := V.agg [V.int .i64 ((gt a1_5 v8_5730).Kind), V.int .i64 ((gt a1_5 v8_5730).Id), V.int .i64 ((gt a1_5 v8_5730).A)]) (.load rfl rfl (.box rfl rfl) rfl) ?_
                        refine SafeOps.quiet0 E_good rfl rfl rfl (v := V.ptr [12, 23, 16, 6, 17, 1] 0 0) (.fn rfl) ?_
                        refine SafeOps.quiet0 E_good rfl rfl rfl (v := V.ptr [12, 23, 16, 6, 17, 1] 0 11) (.fn rfl) ?_
                        refine SafeOps.store (z := Obj.box [V.int .i64 e_6080.Task.Id, V.int .i64 e_6080.Task.Tenant, V.int .i64 e_6080.Task.Prog, V.int .i64 e_6080.Task.Pc, V.int .i64 e_6080.Task.Unit, V.int .i64 e_6080.Task.Keeps.a0, V.int .i64 e_6080.Task.Keeps.a1, V.int .i64 e_6080.Task.Keeps.a2, V.int .i64 e_6080.Task.Keeps.a3, V.int .i64 e_6080.Task.State, V.int .i64 e_6080.Task.Ran, V.int .i64 ((gt a1_5 v8_5730).Kind), V.int .i64 ((gt a1_5 v8_5730).Id), V.int .i64 ((gt a1_5 v8_5730).A)]) E_good rfl rfl rfl rfl rfl rfl rfl (.boxM (c := 14) rfl rfl (Nat.le_of_ble_eq_true rfl) rfl) ?_
                        refine SafeOps.gets (τ := ⟨Tryd.f34.ntmps, [(9, V.bool (((gt a1_5 v8_5730).A) == (go_trace_Held e_6080.last.A)))], ([12, 7], Obj.box [V.ptr [12, 20] 0 0]) :: ([12, 20], Obj.box [V.sl 1 (rws (fun l => [V.sl 3 (rws api_Instr.cells l)]) a0_4), V.mapr [12, 18], V.ref [7000, 114, 12, 20, 2] 0 (rws (fun n => [V.int .i64 n]) v12_202_5731).length]) :: ([12, 23, 16, 2], Obj.box [V.int .i64 ((gt a1_5 v8_5730).Kind), V.int .i64 ((gt a1_5 v8_5730).Id), V.int .i64 ((gt a1_5 v8_5730).A)]) :: ([12, 23, 16, 6, 3], Obj.box [V.int .i64 ((gt a1_5 v8_5730).Kind), V.int .i64 ((gt a1_5 v8_5730).Id), V.int .i64 ((gt a1_5 v8_5730).A)]) :: ([12, 23, 16, 6, 17, 1], Obj.box [V.int .i64 e_6080.Task.Id, V.int .i64 e_6080.Task.Tenant, V.int .i64 e_6080.Task.Prog, V.int .i64 e_6080.Task.Pc, V.int .i64 e_6080.Task.Unit, V.int .i64 e_6080.Task.Keeps.a0, V.int .i64 e_6080.Task.Keeps.a1, V.int .i64 e_6080.Task.Keeps.a2, V.int .i64 e_6080.Task.Keeps.a3, V.int .i64 e_6080.Task.State, V.int .i64 e_6080.Task.Ran, V.int .i64 ((gt a1_5 v8_5730).Kind), V.int .i64 ((gt a1_5 v8_5730).Id), V.int .i64 ((gt a1_5 v8_5730).A)]) :: ([7000, 114, 12, 20, 2], Obj.rows 1 (rws (fun n => [V.int .i64 n]) v12_202_5731) false) :: (pmo [12, 18] (fun n : Int => V.int .i64 n) trace_seen.cells (some (mix ((gt a1_5 v8_5730).Id) vm_5732, [12, 23, 16, 6, 17, 1])) (mput vm_5732 ((gt a1_5 v8_5730).Id) e_6080)), [(Tryd.f33.ntmps, []), (Tryd.f32.ntmps, [(0, V.sl 3 (rws api_Event.cells a1_5)), (1, V.fn 33 [V.ptr [12, 7] 0 0]), (5, V.int .i64 v8_5730), (7, V.int .i64 (a1_5.length : Int)), (8, V.int .i64 v8_5730)]), (Tryd.f25.ntmps, [(1, V.sl 3 (rws api_Event.cells a1_5)), (7, V.ptr [12, 7] 0 0)]), (Tryd.f11.ntmps, [])], [12, 23, 16, 6]⟩) (.cov ⟨rfl, rfl, (upT_cons (.refl _) upT_nil), (upOb_cons rfl (.refl _) (upOb_cons rfl (.refl _) (upOb_cons rfl (.refl _) (upOb_cons rfl (.refl _) (upOb_cons rfl (.refl _) (upOb_cons rfl (.refl _) (upOb_tl rfl (by repeat first | exact Tn.here | refine Tn.cons rfl ?_) rfl))))))), (upOut_cons rfl upT_nil (upOut_cons rfl (upT_cons (.refl _) (upT_cons (.refl _) (upT_cons (.refl _) (upT_cons (.refl _) (upT_cons (.refl _) upT_nil))))) (upOut_cons rfl (upT_cons (.refl _) (upT_cons (.refl _) upT_nil)) (upOut_cons rfl upT_nil upOut_nil)))), (cl3 rfl (wi_cons rfl (wi_cons rfl (wi_cons rfl (wi_cons rfl (wi_cons rfl (wi_cons rfl (wi_tl rfl (by repeat first | exact Tn.here | refine Tn.cons rfl ?_) (fun _ => rfl) (sob rfl)))))))) rfl)⟩) ?_
                        refine SafeOps.giveP (M := [12, 18]) (fun n : Int => V.int .i64 n) trace_seen.cells vm_5732 ((gt a1_5 v8_5730).Id) e_6080 (trace_seen.mk e_6080.Task (gt a1_5 v8_5730)) [12, 23, 16, 6, 17, 1] rfl rfl rfl rfl rfl (fun _ _ _ => rfl) (by repeat first | exact Tg.here | apply Tg.drop rfl rfl | apply Tg.cons rfl rfl) rfl rfl ?_
                        refine SafeOps.nil ?_
                        repeat (first | refine Safe.seq ?_ | refine Safe.skip ?_ | with_reducible refine thenQ.n ?_ | with_reducible refine blockQ.n ?_)
                        refine Safe.region ?_
                        refine SafeOps.quiet0 E_good rfl rfl rfl (v := V.bool (((gt a1_5 v8_5730).A) == (go_trace_Held e_6080.last.A))) (.fn rfl) ?_
                        refine SafeOps.quiet0 E_good rfl rfl rfl (v := V.bool (((gt a1_5 v8_5730).A) == (go_trace_Held e_6080.last.A))) (.fn rfl) ?_
                        refine SafeOps.nil ?_
                        repeat (first | refine Safe.seq ?_ | refine Safe.skip ?_ | with_reducible refine thenQ.n ?_ | with_reducible refine blockQ.n ?_)
                        refine Safe.ret ?_
                        repeat (first | with_reducible refine thenQ.r ?_ | with_reducible refine blockQ.r ?_)
                        refine inQ.gen (vs := [V.bool (((gt a1_5 v8_5730).A) == (go_trace_Held e_6080.last.A))]) (v := V.bool (((gt a1_5 v8_5730).A) == (go_trace_Held e_6080.last.A))) (.inr rfl) rfl (.tmp (v := V.bool (((gt a1_5 v8_5730).A) == (go_trace_Held e_6080.last.A))) rfl .nil) rfl ?_
                        exact SafeOps.got (HJ6077 ((((gt a1_5 v8_5730).A) == (go_trace_Held e_6080.last.A)), v12_202_5731, mput vm_5732 ((gt a1_5 v8_5730).Id) (trace_seen.mk e_6080.Task (gt a1_5 v8_5730))) h) (.cov ⟨rfl, rfl, (upT_cons (.refl _) upT_nil), (upOb_cons rfl (.refl _) (upOb_cons rfl (.refl _) (upOb_cons rfl (.refl _) (upOb_tl rfl (by repeat first | exact Tn.here | refine Tn.cons rfl ?_) rfl)))), (upOut_cons rfl (upT_cons (.refl _) (upT_cons (.refl _) (upT_cons (.refl _) (upT_cons (.refl _) (upT_cons (.refl _) upT_nil))))) (upOut_cons rfl (upT_cons (.refl _) (upT_cons (.refl _) upT_nil)) (upOut_cons rfl upT_nil upOut_nil))), (cl3 rfl (wi_cons rfl (wi_cons rfl (wi_cons rfl (wi_tl rfl (by repeat first | exact Tn.here | refine Tn.cons rfl ?_) (fun _ => rfl) nob)))) rfl)⟩)
                    · skip
                      refine DAny.takeSkip (i := 10) rfl (by kernel_rfl) [] (by kernel_rfl) (by kernel_rfl) (by kernel_rfl) (congrArg some hc6240) rfl rfl ?_
                      refine DAny.takeSkip (i := 11) rfl (by kernel_rfl) [] (by kernel_rfl) (by kernel_rfl) (by kernel_rfl) (congrArg some hc6240) rfl rfl ?_
                      refine DAny.takeSkip (i := 12) rfl (by kernel_rfl) [] (by kernel_rfl) (by kernel_rfl) (by kernel_rfl) (congrArg some hc6240) rfl rfl ?_
                      refine DAny.takeSkip (i := 13) rfl (by kernel_rfl) [] (by kernel_rfl) (by kernel_rfl) (by kernel_rfl) (congrArg some hc6240) rfl rfl ?_
                      refine DAny.takeSkip (i := 14) rfl (by kernel_rfl) [] (by kernel_rfl) (by kernel_rfl) (by kernel_rfl) (congrArg some hc6240) rfl rfl ?_
                      refine DAny.takeSkip (i := 15) rfl (by kernel_rfl) [] (by kernel_rfl) (by kernel_rfl) (by kernel_rfl) (congrArg some hc6240) rfl rfl ?_
                      refine DAny.takeSkip (i := 16) rfl (by kernel_rfl) [] (by kernel_rfl) (by kernel_rfl) (by kernel_rfl) (congrArg some hc6240) rfl rfl ?_
                      refine DAny.takeSkip (i := 17) rfl (by kernel_rfl) [] (by kernel_rfl) (by kernel_rfl) (by kernel_rfl) (congrArg some hc6240) rfl rfl ?_
                      refine DAny.takeSkip (i := 18) rfl (by kernel_rfl) [] (by kernel_rfl) (by kernel_rfl) (by kernel_rfl) (congrArg some hc6240) rfl rfl ?_
                      refine DAny.take (i := 19) rfl (by kernel_rfl) [] (by kernel_rfl) (by kernel_rfl) (by kernel_rfl) rfl rfl rfl (v := V.bool false) (fun _ hz => (.pickK rfl hc6240 rfl)) ?_
                      refine DAny.take (i := 20) rfl (by kernel_rfl) [] (by kernel_rfl) (by kernel_rfl) (by kernel_rfl) rfl rfl rfl (v := V.bool false) (fun _ hz => (.fn rfl)) ?_
                      refine DAny.nil (by kernel_rfl) ?_
                      repeat (first | refine Safe.seq ?_ | refine Safe.skip ?_ | with_reducible refine thenQ.n ?_ | with_reducible refine blockQ.n ?_)
                      refine Safe.region ?_
                      refine SafeOps.quiet0 E_good rfl rfl rfl (v := V.bool false) (.fn rfl) ?_
                      refine SafeOps.nil ?_
                      repeat (first | refine Safe.seq ?_ | refine Safe.skip ?_ | with_reducible refine thenQ.n ?_ | with_reducible refine blockQ.n ?_)
                      refine Safe.condN rfl rfl ?_
                      repeat (first | refine Safe.seq ?_ | refine Safe.skip ?_ | with_reducible refine thenQ.n ?_ | with_reducible refine blockQ.n ?_)
                      refine Safe.region ?_
                      refine SafeOps.quiet0 E_good rfl rfl rfl (v := V.ptr [12, 23, 16, 6, 17, 1] 0 0) (.fn rfl) ?_
                      refine SafeOps.quiet0 E_good rfl rfl rfl (v := V.agg [V.int .i64 ((gt a1_5 v8_5730).Kind), V.int .i64 ((gt a1_5 v8_5730).Id), V.int .i64 ((gt a1_5 v8_5730).A)]) (.load rfl rfl (.box rfl rfl) rfl) ?_
                      refine SafeOps.quiet0 E_good rfl rfl rfl (v := V.ptr [12, 23, 16, 6, 17, 1] 0 0) (.fn rfl) ?_
                      refine SafeOps.quiet0 E_good rfl rfl rfl (v := V.ptr [12, 23, 16, 6, 17, 1] 0 11) (.fn rfl) ?_
                      refine SafeOps.store (z := Obj.box [V.int .i64 e_6080.Task.Id, V.int .i64 e_6080.Task.Tenant, V.int .i64 e_6080.Task.Prog, V.int .i64 e_6080.Task.Pc, V.int .i64 e_6080.Task.Unit, V.int .i64 e_6080.Task.Keeps.a0, V.int .i64 e_6080.Task.Keeps.a1, V.int .i64 e_6080.Task.Keeps.a2, V.int .i64 e_6080.Task.Keeps.a3, V.int .i64 e_6080.Task.State, V.int .i64 e_6080.Task.Ran, V.int .i64 ((gt a1_5 v8_5730).Kind), V.int .i64 ((gt a1_5 v8_5730).Id), V.int .i64 ((gt a1_5 v8_5730).A)]) E_good rfl rfl rfl rfl rfl rfl rfl (.boxM (c := 14) rfl rfl (Nat.le_of_ble_eq_true rfl) rfl) ?_
                      refine SafeOps.gets (τ := ⟨Tryd.f34.ntmps, [(9, V.bool false)], ([12, 7], Obj.box [V.ptr [12, 20] 0 0]) :: ([12, 20], Obj.box [V.sl 1 (rws (fun l => [V.sl 3 (rws api_Instr.cells l)]) a0_4), V.mapr [12, 18], V.ref [7000, 114, 12, 20, 2] 0 (rws (fun n => [V.int .i64 n]) v12_202_5731).length]) :: ([12, 23, 16, 2], Obj.box [V.int .i64 ((gt a1_5 v8_5730).Kind), V.int .i64 ((gt a1_5 v8_5730).Id), V.int .i64 ((gt a1_5 v8_5730).A)]) :: ([12, 23, 16, 6, 3], Obj.box [V.int .i64 ((gt a1_5 v8_5730).Kind), V.int .i64 ((gt a1_5 v8_5730).Id), V.int .i64 ((gt a1_5 v8_5730).A)]) :: ([12, 23, 16, 6, 17, 1], Obj.box [V.int .i64 e_6080.Task.Id, V.int .i64 e_6080.Task.Tenant, V.int .i64 e_6080.Task.Prog, V.int .i64 e_6080.Task.Pc, V.int .i64 e_6080.Task.Unit, V.int .i64 e_6080.Task.Keeps.a0, V.int .i64 e_6080.Task.Keeps.a1, V.int .i64 e_6080.Task.Keeps.a2, V.int .i64 e_6080.Task.Keeps.a3, V.int .i64 e_6080.Task.State, V.int .i64 e_6080.Task.Ran, V.int .i64 ((gt a1_5 v8_5730).Kind), V.int .i64 ((gt a1_5 v8_5730).Id), V.int .i64 ((gt a1_5 v8_5730).A)]) :: ([7000, 114, 12, 20, 2], Obj.rows 1 (rws (fun n => [V.int .i64 n]) v12_202_5731) false) :: (pmo [12, 18] (fun n : Int => V.int .i64 n) trace_seen.cells (some (mix ((gt a1_5 v8_5730).Id) vm_5732, [12, 23, 16, 6, 17, 1])) (mput vm_5732 ((gt a1_5 v8_5730).Id) e_6080)), [(Tryd.f33.ntmps, []), (Tryd.f32.ntmps, [(0, V.sl 3 (rws api_Event.cells a1_5)), (1, V.fn 33 [V.ptr [12, 7] 0 0]), (5, V.int .i64 v8_5730), (7, V.int .i64 (a1_5.length : Int)), (8, V.int .i64 v8_5730)]), (Tryd.f25.ntmps, [(1, V.sl 3 (rws api_Event.cells a1_5)), (7, V.ptr [12, 7] 0 0)]), (Tryd.f11.ntmps, [])], [12, 23, 16, 6]⟩) (.cov ⟨rfl, rfl, (upT_cons (.refl _) upT_nil), (upOb_cons rfl (.refl _) (upOb_cons rfl (.refl _) (upOb_cons rfl (.refl _) (upOb_cons rfl (.refl _) (upOb_cons rfl (.refl _) (upOb_cons rfl (.refl _) (upOb_tl rfl (by repeat first | exact Tn.here | refine Tn.cons rfl ?_) rfl))))))), (upOut_cons rfl upT_nil (upOut_cons rfl (upT_cons (.refl _) (upT_cons (.refl _) (upT_cons (.refl _) (upT_cons (.refl _) (upT_cons (.refl _) upT_nil))))) (upOut_cons rfl (upT_cons (.refl _) (upT_cons (.refl _) upT_nil)) (upOut_cons rfl upT_nil upOut_nil)))), (cl3 rfl (wi_cons rfl (wi_cons rfl (wi_cons rfl (wi_cons rfl (wi_cons rfl (wi_cons rfl (wi_tl rfl (by repeat first | exact Tn.here | refine Tn.cons rfl ?_) (fun _ => rfl) (sob rfl)))))))) rfl)⟩) ?_
                      refine SafeOps.giveP (M := [12, 18]) (fun n : Int => V.int .i64 n) trace_seen.cells vm_5732 ((gt a1_5 v8_5730).Id) e_6080 (trace_seen.mk e_6080.Task (gt a1_5 v8_5730)) [12, 23, 16, 6, 17, 1] rfl rfl rfl rfl rfl (fun _ _ _ => rfl) (by repeat first | exact Tg.here | apply Tg.drop rfl rfl | apply Tg.cons rfl rfl) rfl rfl ?_
                      refine SafeOps.nil ?_
                      repeat (first | refine Safe.seq ?_ | refine Safe.skip ?_ | with_reducible refine thenQ.n ?_ | with_reducible refine blockQ.n ?_)
                      refine Safe.region ?_
                      refine SafeOps.quiet0 E_good rfl rfl rfl (v := V.bool false) (.fn rfl) ?_
                      refine SafeOps.quiet0 E_good rfl rfl rfl (v := V.bool false) (.fn rfl) ?_
                      refine SafeOps.nil ?_
                      repeat (first | refine Safe.seq ?_ | refine Safe.skip ?_ | with_reducible refine thenQ.n ?_ | with_reducible refine blockQ.n ?_)
                      refine Safe.ret ?_
                      repeat (first | with_reducible refine thenQ.r ?_ | with_reducible refine blockQ.r ?_)
                      refine inQ.gen (vs := [V.bool false]) (v := V.bool false) (.inr rfl) rfl (.tmp (v := V.bool false) rfl .nil) rfl ?_
                      exact SafeOps.got (HJ6077 (false, v12_202_5731, mput vm_5732 ((gt a1_5 v8_5730).Id) (trace_seen.mk e_6080.Task (gt a1_5 v8_5730))) h) (.cov ⟨rfl, rfl, (upT_cons (.refl _) upT_nil), (upOb_cons rfl (.refl _) (upOb_cons rfl (.refl _) (upOb_cons rfl (.refl _) (upOb_tl rfl (by repeat first | exact Tn.here | refine Tn.cons rfl ?_) rfl)))), (upOut_cons rfl (upT_cons (.refl _) (upT_cons (.refl _) (upT_cons (.refl _) (upT_cons (.refl _) (upT_cons (.refl _) upT_nil))))) (upOut_cons rfl (upT_cons (.refl _) (upT_cons (.refl _) upT_nil)) (upOut_cons rfl upT_nil upOut_nil))), (cl3 rfl (wi_cons rfl (wi_cons rfl (wi_cons rfl (wi_tl rfl (by repeat first | exact Tn.here | refine Tn.cons rfl ?_) (fun _ => rfl) nob)))) rfl)⟩)
                  · skip
                    refine DAny.takeSkip (i := 5) rfl (by kernel_rfl) [] (by kernel_rfl) (by kernel_rfl) (by kernel_rfl) (congrArg some hc6239) rfl rfl ?_
                    refine DAny.takeSkip (i := 6) rfl (by kernel_rfl) [] (by kernel_rfl) (by kernel_rfl) (by kernel_rfl) (congrArg some hc6239) rfl rfl ?_
                    refine DAny.takeSkip (i := 7) rfl (by kernel_rfl) [] (by kernel_rfl) (by kernel_rfl) (by kernel_rfl) (congrArg some hc6239) rfl rfl ?_
                    refine DAny.take (i := 8) rfl (by kernel_rfl) [] (by kernel_rfl) (by kernel_rfl) (by kernel_rfl) rfl rfl rfl (v := V.bool false) (fun _ hz => (.pickK rfl hc6239 rfl)) ?_
                    refine DAny.take (i := 9) rfl (by kernel_rfl) [] (by kernel_rfl) (by kernel_rfl) (by kernel_rfl) rfl rfl rfl (v := V.bool false) (fun _ hz => (.fn rfl)) ?_
                    refine DAny.takeSkip (i := 10) rfl (by kernel_rfl) [] (by kernel_rfl) (by kernel_rfl) (by kernel_rfl) rfl rfl rfl ?_
                    refine DAny.takeSkip (i := 11) rfl (by kernel_rfl) [] (by kernel_rfl) (by kernel_rfl) (by kernel_rfl) rfl rfl rfl ?_
                    refine DAny.takeSkip (i := 12) rfl (by kernel_rfl) [] (by kernel_rfl) (by kernel_rfl) (by kernel_rfl) rfl rfl rfl ?_
                    refine DAny.takeSkip (i := 13) rfl (by kernel_rfl) [] (by kernel_rfl) (by kernel_rfl) (by kernel_rfl) rfl rfl rfl ?_
                    refine DAny.takeSkip (i := 14) rfl (by kernel_rfl) [] (by kernel_rfl) (by kernel_rfl) (by kernel_rfl) rfl rfl rfl ?_
                    refine DAny.takeSkip (i := 15) rfl (by kernel_rfl) [] (by kernel_rfl) (by kernel_rfl) (by kernel_rfl) rfl rfl rfl ?_
                    refine DAny.takeSkip (i := 16) rfl (by kernel_rfl) [] (by kernel_rfl) (by kernel_rfl) (by kernel_rfl) rfl rfl rfl ?_
                    refine DAny.takeSkip (i := 17) rfl (by kernel_rfl) [] (by kernel_rfl) (by kernel_rfl) (by kernel_rfl) rfl rfl rfl ?_
                    refine DAny.takeSkip (i := 18) rfl (by kernel_rfl) [] (by kernel_rfl) (by kernel_rfl) (by kernel_rfl) rfl rfl rfl ?_
                    refine DAny.take (i := 19) rfl (by kernel_rfl) [] (by kernel_rfl) (by kernel_rfl) (by kernel_rfl) rfl rfl rfl (v := V.bool false) (fun _ hz => (.pickK rfl rfl rfl)) ?_
                    refine DAny.take (i := 20) rfl (by kernel_rfl) [] (by kernel_rfl) (by kernel_rfl) (by kernel_rfl) rfl rfl rfl (v := V.bool false) (fun _ hz => (.fn rfl)) ?_
                    refine DAny.nil (by kernel_rfl) ?_
                    repeat (first | refine Safe.seq ?_ | refine Safe.skip ?_ | with_reducible refine thenQ.n ?_ | with_reducible refine blockQ.n ?_)
                    refine Safe.region ?_
                    refine SafeOps.quiet0 E_good rfl rfl rfl (v := V.bool false) (.fn rfl) ?_
                    refine SafeOps.nil ?_
                    repeat (first | refine Safe.seq ?_ | refine Safe.skip ?_ | with_reducible refine thenQ.n ?_ | with_reducible refine blockQ.n ?_)
                    refine Safe.condN rfl rfl ?_
                    repeat (first | refine Safe.seq ?_ | refine Safe.skip ?_ | with_reducible refine thenQ.n ?_ | with_reducible refine blockQ.n ?_)
                    refine Safe.region ?_
                    refine SafeOps.quiet0 E_good rfl rfl rfl (v := V.ptr [12, 23, 16, 6, 17, 1] 0 0) (.fn rfl) ?_
                    refine SafeOps.quiet0 E_good rfl rfl rfl (v := V.agg [V.int .i64 ((gt a1_5 v8_5730).Kind), V.int .i64 ((gt a1_5 v8_5730).Id), V.int .i64 ((gt a1_5 v8_5730).A)]) (.load rfl rfl (.box rfl rfl) rfl) ?_
                    refine SafeOps.quiet0 E_good rfl rfl rfl (v := V.ptr [12, 23, 16, 6, 17, 1] 0 0) (.fn rfl) ?_
                    refine SafeOps.quiet0 E_good rfl rfl rfl (v := V.ptr [12, 23, 16, 6, 17, 1] 0 11) (.fn rfl) ?_
                    refine SafeOps.store (z := Obj.box [V.int .i64 e_6080.Task.Id, V.int .i64 e_6080.Task.Tenant, V.int .i64 e_6080.Task.Prog, V.int .i64 e_6080.Task.Pc, V.int .i64 e_6080.Task.Unit, V.int .i64 e_6080.Task.Keeps.a0, V.int .i64 e_6080.Task.Keeps.a1, V.int .i64 e_6080.Task.Keeps.a2, V.int .i64 e_6080.Task.Keeps.a3, V.int .i64 e_6080.Task.State, V.int .i64 e_6080.Task.Ran, V.int .i64 ((gt a1_5 v8_5730).Kind), V.int .i64 ((gt a1_5 v8_5730).Id), V.int .i64 ((gt a1_5 v8_5730).A)]) E_good rfl rfl rfl rfl rfl rfl rfl (.boxM (c := 14) rfl rfl (Nat.le_of_ble_eq_true rfl) rfl) ?_
                    refine SafeOps.gets (τ := ⟨Tryd.f34.ntmps, [(9, V.bool false)], ([12, 7], Obj.box [V.ptr [12, 20] 0 0]) :: ([12, 20], Obj.box [V.sl 1 (rws (fun l => [V.sl 3 (rws api_Instr.cells l)]) a0_4), V.mapr [12, 18], V.ref [7000, 114, 12, 20, 2] 0 (rws (fun n => [V.int .i64 n]) v12_202_5731).length]) :: ([12, 23, 16, 2], Obj.box [V.int .i64 ((gt a1_5 v8_5730).Kind), V.int .i64 ((gt a1_5 v8_5730).Id), V.int .i64 ((gt a1_5 v8_5730).A)]) :: ([12, 23, 16, 6, 3], Obj.box [V.int .i64 ((gt a1_5 v8_5730).Kind), V.int .i64 ((gt a1_5 v8_5730).Id), V.int .i64 ((gt a1_5 v8_5730).A)]) :: ([12, 23, 16, 6, 17, 1], Obj.box [V.int .i64 e_6080.Task.Id, V.int .i64 e_6080.Task.Tenant, V.int .i64 e_6080.Task.Prog, V.int .i64 e_6080.Task.Pc, V.int .i64 e_6080.Task.Unit, V.int .i64 e_6080.Task.Keeps.a0, V.int .i64 e_6080.Task.Keeps.a1, V.int .i64 e_6080.Task.Keeps.a2, V.int .i64 e_6080.Task.Keeps.a3, V.int .i64 e_6080.Task.State, V.int .i64 e_6080.Task.Ran, V.int .i64 ((gt a1_5 v8_5730).Kind), V.int .i64 ((gt a1_5 v8_5730).Id), V.int .i64 ((gt a1_5 v8_5730).A)]) :: ([7000, 114, 12, 20, 2], Obj.rows 1 (rws (fun n => [V.int .i64 n]) v12_202_5731) false) :: (pmo [12, 18] (fun n : Int => V.int .i64 n) trace_seen.cells (some (mix ((gt a1_5 v8_5730).Id) vm_5732, [12, 23, 16, 6, 17, 1])) (mput vm_5732 ((gt a1_5 v8_5730).Id) e_6080)), [(Tryd.f33.ntmps, []), (Tryd.f32.ntmps, [(0, V.sl 3 (rws api_Event.cells a1_5)), (1, V.fn 33 [V.ptr [12, 7] 0 0]), (5, V.int .i64 v8_5730), (7, V.int .i64 (a1_5.length : Int)), (8, V.int .i64 v8_5730)]), (Tryd.f25.ntmps, [(1, V.sl 3 (rws api_Event.cells a1_5)), (7, V.ptr [12, 7] 0 0)]), (Tryd.f11.ntmps, [])], [12, 23, 16, 6]⟩) (.cov ⟨rfl, rfl, (upT_cons (.refl _) upT_nil), (upOb_cons rfl (.refl _) (upOb_cons rfl (.refl _) (upOb_cons rfl (.refl _) (upOb_cons rfl (.refl _) (upOb_cons rfl (.refl _) (upOb_cons rfl (.refl _) (upOb_tl rfl (by repeat first | exact Tn.here | refine Tn.cons rfl ?_) rfl))))))), (upOut_cons rfl upT_nil (upOut_cons rfl (upT_cons (.refl _) (upT_cons (.refl _) (upT_cons (.refl _) (upT_cons (.refl _) (upT_cons (.refl _) upT_nil))))) (upOut_cons rfl (upT_cons (.refl _) (upT_cons (.refl _) upT_nil)) (upOut_cons rfl upT_nil upOut_nil)))), (cl3 rfl (wi_cons rfl (wi_cons rfl (wi_cons rfl (wi_cons rfl (wi_cons rfl (wi_cons rfl (wi_tl rfl (by repeat first | exact Tn.here | refine Tn.cons rfl ?_) (fun _ => rfl) (sob rfl)))))))) rfl)⟩) ?_
                    refine SafeOps.giveP (M := [12, 18]) (fun n : Int => V.int .i64 n) trace_seen.cells vm_5732 ((gt a1_5 v8_5730).Id) e_6080 (trace_seen.mk e_6080.Task (gt a1_5 v8_5730)) [12, 23, 16, 6, 17, 1] rfl rfl rfl rfl rfl (fun _ _ _ => rfl) (by repeat first | exact Tg.here | apply Tg.drop rfl rfl | apply Tg.cons rfl rfl) rfl rfl ?_
                    refine SafeOps.nil ?_
                    repeat (first | refine Safe.seq ?_ | refine Safe.skip ?_ | with_reducible refine thenQ.n ?_ | with_reducible refine blockQ.n ?_)
                    refine Safe.region ?_
                    refine SafeOps.quiet0 E_good rfl rfl rfl (v := V.bool false) (.fn rfl) ?_
                    refine SafeOps.quiet0 E_good rfl rfl rfl (v := V.bool false) (.fn rfl) ?_
                    refine SafeOps.nil ?_
                    repeat (first | refine Safe.seq ?_ | refine Safe.skip ?_ | with_reducible refine thenQ.n ?_ | with_reducible refine blockQ.n ?_)
                    refine Safe.ret ?_
                    repeat (first | with_reducible refine thenQ.r ?_ | with_reducible refine blockQ.r ?_)
                    refine inQ.gen (vs := [V.bool false]) (v := V.bool false) (.inr rfl) rfl (.tmp (v := V.bool false) rfl .nil) rfl ?_
                    exact SafeOps.got (HJ6077 (false, v12_202_5731, mput vm_5732 ((gt a1_5 v8_5730).Id) (trace_seen.mk e_6080.Task (gt a1_5 v8_5730))) h) (.cov ⟨rfl, rfl, (upT_cons (.refl _) upT_nil), (upOb_cons rfl (.refl _) (upOb_cons rfl (.refl _) (upOb_cons rfl (.refl _) (upOb_tl rfl (by repeat first | exact Tn.here | refine Tn.cons rfl ?_) rfl)))), (upOut_cons rfl (upT_cons (.refl _) (upT_cons (.refl _) (upT_cons (.refl _) (upT_cons (.refl _) (upT_cons (.refl _) upT_nil))))) (upOut_cons rfl (upT_cons (.refl _) (upT_cons (.refl _) upT_nil)) (upOut_cons rfl upT_nil upOut_nil))), (cl3 rfl (wi_cons rfl (wi_cons rfl (wi_cons rfl (wi_tl rfl (by repeat first | exact Tn.here | refine Tn.cons rfl ?_) (fun _ => rfl) nob)))) rfl)⟩)
                · skip
                  refine DAny.takeSkip (i := 2) rfl (by kernel_rfl) [] (by kernel_rfl) (by kernel_rfl) (by kernel_rfl) (congrArg some hc6238) rfl rfl ?_
                  refine DAny.take (i := 3) rfl (by kernel_rfl) [] (by kernel_rfl) (by kernel_rfl) (by kernel_rfl) rfl rfl rfl (v := V.bool false) (fun _ hz => (.pickK rfl hc6238 rfl)) ?_
                  refine DAny.take (i := 4) rfl (by kernel_rfl) [] (by kernel_rfl) (by kernel_rfl) (by kernel_rfl) rfl rfl rfl (v := V.bool false) (fun _ hz => (.fn rfl)) ?_
                  refine DAny.takeSkip (i := 5) rfl (by kernel_rfl) [] (by kernel_rfl) (by kernel_rfl) (by kernel_rfl) rfl rfl rfl ?_
                  refine DAny.takeSkip (i := 6) rfl (by kernel_rfl) [] (by kernel_rfl) (by kernel_rfl) (by kernel_rfl) rfl rfl rfl ?_
                  refine DAny.takeSkip (i := 7) rfl (by kernel_rfl) [] (by kernel_rfl) (by kernel_rfl) (by kernel_rfl) rfl rfl rfl ?_
                  refine DAny.take (i := 8) rfl (by kernel_rfl) [] (by kernel_rfl) (by kernel_rfl) (by kernel_rfl) rfl rfl rfl (v := V.bool false) (fun _ hz => (.pickK rfl rfl rfl)) ?_
                  refine DAny.take (i := 9) rfl (by kernel_rfl) [] (by kernel_rfl) (by kernel_rfl) (by kernel_rfl) rfl rfl rfl (v := V.bool false) (fun _ hz => (.fn rfl)) ?_
                  refine DAny.takeSkip (i := 10) rfl (by kernel_rfl) [] (by kernel_rfl) (by kernel_rfl) (by kernel_rfl) rfl rfl rfl ?_
                  refine DAny.takeSkip (i := 11) rfl (by kernel_rfl) [] (by kernel_rfl) (by kernel_rfl) (by kernel_rfl) rfl rfl rfl ?_
                  refine DAny.takeSkip (i := 12) rfl (by kernel_rfl) [] (by kernel_rfl) (by kernel_rfl) (by kernel_rfl) rfl rfl rfl ?_
                  refine DAny.takeSkip (i := 13) rfl (by kernel_rfl) [] (by kernel_rfl) (by kernel_rfl) (by kernel_rfl) rfl rfl rfl ?_
                  refine DAny.takeSkip (i := 14) rfl (by kernel_rfl) [] (by kernel_rfl) (by kernel_rfl) (by kernel_rfl) rfl rfl rfl ?_
                  refine DAny.takeSkip (i := 15) rfl (by kernel_rfl) [] (by kernel_rfl) (by kernel_rfl) (by kernel_rfl) rfl rfl rfl ?_
                  refine DAny.takeSkip (i := 16) rfl (by kernel_rfl) [] (by kernel_rfl) (by kernel_rfl) (by kernel_rfl) rfl rfl rfl ?_
                  refine DAny.takeSkip (i := 17) rfl (by kernel_rfl) [] (by kernel_rfl) (by kernel_rfl) (by kernel_rfl) rfl rfl rfl ?_
                  refine DAny.takeSkip (i := 18) rfl (by kernel_rfl) [] (by kernel_rfl) (by kernel_rfl) (by kernel_rfl) rfl rfl rfl ?_
                  refine DAny.take (i := 19) rfl (by kernel_rfl) [] (by kernel_rfl) (by kernel_rfl) (by kernel_rfl) rfl rfl rfl (v := V.bool false) (fun _ hz => (.pickK rfl rfl rfl)) ?_
                  refine DAny.take (i := 20) rfl (by kernel_rfl) [] (by kernel_rfl) (by kernel_rfl) (by kernel_rfl) rfl rfl rfl (v := V.bool false) (fun _ hz => (.fn rfl)) ?_
                  refine DAny.nil (by kernel_rfl) ?_
                  repeat (first | refine Safe.seq ?_ | refine Safe.skip ?_ | with_reducible refine thenQ.n ?_ | with_reducible refine blockQ.n ?_)
                  refine Safe.region ?_
                  refine SafeOps.quiet0 E_good rfl rfl rfl (v := V.bool false) (.fn rfl) ?_
                  refine SafeOps.nil ?_
                  repeat (first | refine Safe.seq ?_ | refine Safe.skip ?_ | with_reducible refine thenQ.n ?_ | with_reducible refine blockQ.n ?_)
                  refine Safe.condN rfl rfl ?_
                  repeat (first | refine Safe.seq ?_ | refine Safe.skip ?_ | with_reducible refine thenQ.n ?_ | with_reducible refine blockQ.n ?_)
                  refine Safe.region ?_
                  refine SafeOps.quiet0 E_good rfl rfl rfl (v := V.ptr [12, 23, 16, 6, 17, 1] 0 0) (.fn rfl) ?_
                  refine SafeOps.quiet0 E_good rfl rfl rfl (v := V.agg [V.int .i64 ((gt a1_5 v8_5730).Kind), V.int .i64 ((gt a1_5 v8_5730).Id), V.int .i64 ((gt a1_5 v8_5730).A)]) (.load rfl rfl (.box rfl rfl) rfl) ?_
                  refine SafeOps.quiet0 E_good rfl rfl rfl (v := V.ptr [12, 23, 16, 6, 17, 1] 0 0) (.fn rfl) ?_
                  refine SafeOps.quiet0 E_good rfl rfl rfl (v := V.ptr [12, 23, 16, 6, 17, 1] 0 11) (.fn rfl) ?_
                  refine SafeOps.store (z := Obj.box [V.int .i64 e_6080.Task.Id, V.int .i64 e_6080.Task.Tenant, V.int .i64 e_6080.Task.Prog, V.int .i64 e_6080.Task.Pc, V.int .i64 e_6080.Task.Unit, V.int .i64 e_6080.Task.Keeps.a0, V.int .i64 e_6080.Task.Keeps.a1, V.int .i64 e_6080.Task.Keeps.a2, V.int .i64 e_6080.Task.Keeps.a3, V.int .i64 e_6080.Task.State, V.int .i64 e_6080.Task.Ran, V.int .i64 ((gt a1_5 v8_5730).Kind), V.int .i64 ((gt a1_5 v8_5730).Id), V.int .i64 ((gt a1_5 v8_5730).A)]) E_good rfl rfl rfl rfl rfl rfl rfl (.boxM (c := 14) rfl rfl (Nat.le_of_ble_eq_true rfl) rfl) ?_
                  refine SafeOps.gets (τ := ⟨Tryd.f34.ntmps, [(9, V.bool false)], ([12, 7], Obj.box [V.ptr [12, 20] 0 0]) :: ([12, 20], Obj.box [V.sl 1 (rws (fun l => [V.sl 3 (rws api_Instr.cells l)]) a0_4), V.mapr [12, 18], V.ref [7000, 114, 12, 20, 2] 0 (rws (fun n => [V.int .i64 n]) v12_202_5731).length]) :: ([12, 23, 16, 2], Obj.box [V.int .i64 ((gt a1_5 v8_5730).Kind), V.int .i64 ((gt a1_5 v8_5730).Id), V.int .i64 ((gt a1_5 v8_5730).A)]) :: ([12, 23, 16, 6, 3], Obj.box [V.int .i64 ((gt a1_5 v8_5730).Kind), V.int .i64 ((gt a1_5 v8_5730).Id), V.int .i64 ((gt a1_5 v8_5730).A)]) :: ([12, 23, 16, 6, 17, 1], Obj.box [V.int .i64 e_6080.Task.Id, V.int .i64 e_6080.Task.Tenant, V.int .i64 e_6080.Task.Prog, V.int .i64 e_6080.Task.Pc, V.int .i64 e_6080.Task.Unit, V.int .i64 e_6080.Task.Keeps.a0, V.int .i64 e_6080.Task.Keeps.a1, V.int .i64 e_6080.Task.Keeps.a2, V.int .i64 e_6080.Task.Keeps.a3, V.int .i64 e_6080.Task.State, V.int .i64 e_6080.Task.Ran, V.int .i64 ((gt a1_5 v8_5730).Kind), V.int .i64 ((gt a1_5 v8_5730).Id), V.int .i64 ((gt a1_5 v8_5730).A)]) :: ([7000, 114, 12, 20, 2], Obj.rows 1 (rws (fun n => [V.int .i64 n]) v12_202_5731) false) :: (pmo [12, 18] (fun n : Int => V.int .i64 n) trace_seen.cells (some (mix ((gt a1_5 v8_5730).Id) vm_5732, [12, 23, 16, 6, 17, 1])) (mput vm_5732 ((gt a1_5 v8_5730).Id) e_6080)), [(Tryd.f33.ntmps, []), (Tryd.f32.ntmps, [(0, V.sl 3 (rws api_Event.cells a1_5)), (1, V.fn 33 [V.ptr [12, 7] 0 0]), (5, V.int .i64 v8_5730), (7, V.int .i64 (a1_5.length : Int)), (8, V.int .i64 v8_5730)]), (Tryd.f25.ntmps, [(1, V.sl 3 (rws api_Event.cells a1_5)), (7, V.ptr [12, 7] 0 0)]), (Tryd.f11.ntmps, [])], [12, 23, 16, 6]⟩) (.cov ⟨rfl, rfl, (upT_cons (.refl _) upT_nil), (upOb_cons rfl (.refl _) (upOb_cons rfl (.refl _) (upOb_cons rfl (.refl _) (upOb_cons rfl (.refl _) (upOb_cons rfl (.refl _) (upOb_cons rfl (.refl _) (upOb_tl rfl (by repeat first | exact Tn.here | refine Tn.cons rfl ?_) rfl))))))), (upOut_cons rfl upT_nil (upOut_cons rfl (upT_cons (.refl _) (upT_cons (.refl _) (upT_cons (.refl _) (upT_cons (.refl _) (upT_cons (.refl _) upT_nil))))) (upOut_cons rfl (upT_cons (.refl _) (upT_cons (.refl _) upT_nil)) (upOut_cons rfl upT_nil upOut_nil)))), (cl3 rfl (wi_cons rfl (wi_cons rfl (wi_cons rfl (wi_cons rfl (wi_cons rfl (wi_cons rfl (wi_tl rfl (by repeat first | exact Tn.here | refine Tn.cons rfl ?_) (fun _ => rfl) (sob rfl)))))))) rfl)⟩) ?_
                  refine SafeOps.giveP (M := [12, 18]) (fun n : Int => V.int .i64 n) trace_seen.cells vm_5732 ((gt a1_5 v8_5730).Id) e_6080 (trace_seen.mk e_6080.Task (gt a1_5 v8_5730)) [12, 23, 16, 6, 17, 1] rfl rfl rfl rfl rfl (fun _ _ _ => rfl) (by repeat first | exact Tg.here | apply Tg.drop rfl rfl | apply Tg.cons rfl rfl) rfl rfl ?_
                  refine SafeOps.nil ?_
                  repeat (first | refine Safe.seq ?_ | refine Safe.skip ?_ | with_reducible refine thenQ.n ?_ | with_reducible refine blockQ.n ?_)
                  refine Safe.region ?_
                  refine SafeOps.quiet0 E_good rfl rfl rfl (v := V.bool false) (.fn rfl) ?_
                  refine SafeOps.quiet0 E_good rfl rfl rfl (v := V.bool false) (.fn rfl) ?_
                  refine SafeOps.nil ?_
                  repeat (first | refine Safe.seq ?_ | refine Safe.skip ?_ | with_reducible refine thenQ.n ?_ | with_reducible refine blockQ.n ?_)
                  refine Safe.ret ?_
                  repeat (first | with_reducible refine thenQ.r ?_ | with_reducible refine blockQ.r ?_)
                  refine inQ.gen (vs := [V.bool false]) (v := V.bool false) (.inr rfl) rfl (.tmp (v := V.bool false) rfl .nil) rfl ?_
                  exact SafeOps.got (HJ6077 (false, v12_202_5731, mput vm_5732 ((gt a1_5 v8_5730).Id) (trace_seen.mk e_6080.Task (gt a1_5 v8_5730))) h) (.cov ⟨rfl, rfl, (upT_cons (.refl _) upT_nil), (upOb_cons rfl (.refl _) (upOb_cons rfl (.refl _) (upOb_cons rfl (.refl _) (upOb_tl rfl (by repeat first | exact Tn.here | refine Tn.cons rfl ?_) rfl)))), (upOut_cons rfl (upT_cons (.refl _) (upT_cons (.refl _) (upT_cons (.refl _) (upT_cons (.refl _) (upT_cons (.refl _) upT_nil))))) (upOut_cons rfl (upT_cons (.refl _) (upT_cons (.refl _) upT_nil)) (upOut_cons rfl upT_nil upOut_nil))), (cl3 rfl (wi_cons rfl (wi_cons rfl (wi_cons rfl (wi_tl rfl (by repeat first | exact Tn.here | refine Tn.cons rfl ?_) (fun _ => rfl) nob)))) rfl)⟩)
              · skip
                refine Safe.condN rfl hc6237 ?_
                repeat (first | refine Safe.seq ?_ | refine Safe.skip ?_ | with_reducible refine thenQ.n ?_ | with_reducible refine blockQ.n ?_)
                refine Safe.region ?_
                refine SafeOps.quiet0 E_good rfl rfl rfl (v := V.bool (((gt a1_5 v8_5730).Kind) == 4)) (.fn rfl) ?_
                refine SafeOps.quiet0 E_good rfl rfl rfl (v := V.bool (((gt a1_5 v8_5730).Kind) == 4)) (.fn rfl) ?_
                refine SafeOps.nil ?_
                repeat (first | refine Safe.seq ?_ | refine Safe.skip ?_ | with_reducible refine thenQ.n ?_ | with_reducible refine blockQ.n ?_)
                refine ifG h (fun hc6242 h => ?_) (fun hc6242 h => ?_)
                · skip
                  refine Safe.condK rfl hc6242 ?_
                  repeat (first | refine Safe.seq ?_ | refine Safe.skip ?_ | with_reducible refine thenQ.n ?_ | with_reducible refine blockQ.n ?_)
                  refine Safe.region ?_
                  refine SafeOps.quiet0 E_good rfl rfl rfl (v := V.ptr [12, 23, 16, 6, 17, 1] 0 0) (.fn rfl) ?_
                  refine SafeOps.quiet0 E_good rfl rfl rfl (v := V.ptr [12, 23, 16, 6, 17, 1] 0 0) (.fn rfl) ?_
                  refine SafeOps.quiet0 E_good rfl rfl rfl (v := V.ptr [12, 23, 16, 6, 17, 1] 0 0) (.fn rfl) ?_
                  refine SafeOps.quiet0 E_good rfl rfl rfl (v := V.ptr [12, 23, 16, 6, 17, 1] 0 9) (.fn rfl) ?_
                  refine SafeOps.quiet0 E_good rfl rfl rfl (v := V.int .i64 e_6080.Task.State) (.load rfl rfl (.box rfl rfl) rfl) ?_
                  refine SafeOps.quiet0 E_good rfl rfl rfl (v := V.bool (go_life_Waits e_6080.Task.State)) (.callP rfl rfl (go_life_Waits_sc e_6080.Task.State _ rfl) rfl) ?_
                  refine SafeOps.quiet0 E_good rfl rfl rfl (v := V.bool (go_life_Waits e_6080.Task.State)) (.fn rfl) ?_
                  refine SafeOps.bjoin 4 87 (b := ((go_life_Waits e_6080.Task.State) && (((gt a1_5 v8_5730).A) == 0))) (b1 := (((gt a1_5 v8_5730).A) == 0)) (b0 := false) (fun hc6243 K => ?_) (fun hc6243 K => ?_) bj_and ?_
                  · skip
                    refine SafeOps.quiet0 E_good (congrArg some hc6243) rfl rfl (v := V.ptr [12, 23, 16, 6, 3] 0 2) (.fn rfl) ?_
                    refine SafeOps.quiet0 E_good (congrArg some hc6243) rfl rfl (v := V.int .i64 ((gt a1_5 v8_5730).A)) (.load rfl rfl (.box rfl rfl) rfl) ?_
                    refine SafeOps.quiet0 E_good (congrArg some hc6243) rfl rfl (v := V.bool (((gt a1_5 v8_5730).A) == 0)) (.fn rfl) ?_
                    refine SafeOps.quiet0 E_good rfl rfl rfl (v := V.bool (((gt a1_5 v8_5730).A) == 0)) (.pickK rfl hc6243 rfl) ?_
                    exact SafeOps.drop' 4 rfl rfl rfl K
                  · skip
                    refine SafeOps.skip (congrArg some hc6243) rfl rfl ?_
                    refine SafeOps.skip (congrArg some hc6243) rfl rfl ?_
                    refine SafeOps.skip (congrArg some hc6243) rfl rfl ?_
                    refine SafeOps.quiet0 E_good rfl rfl rfl (v := V.bool false) (.pickK rfl hc6243 rfl) ?_
                    exact SafeOps.drop' 4 rfl rfl rfl K
                  refine SafeOps.quiet0 E_good rfl rfl rfl (v := V.bool ((go_life_Waits e_6080.Task.State) && (((gt a1_5 v8_5730).A) == 0))) (.fn rfl) ?_
                  refine SafeOps.nil ?_
                  repeat (first | refine Safe.seq ?_ | refine Safe.skip ?_ | with_reducible refine thenQ.n ?_ | with_reducible refine blockQ.n ?_)
                  refine Safe.region ?_
                  refine SafeOps.quiet0 E_good rfl rfl rfl (v := V.bool ((go_life_Waits e_6080.Task.State) && (((gt a1_5 v8_5730).A) == 0))) (.fn rfl) ?_
                  refine SafeOps.nil ?_
                  repeat (first | refine Safe.seq ?_ | refine Safe.skip ?_ | with_reducible refine thenQ.n ?_ | with_reducible refine blockQ.n ?_)
                  refine ifG h (fun hc6244 h => ?_) (fun hc6244 h => ?_)
                  · skip
                    refine Safe.condK rfl hc6244 ?_
                    repeat (first | refine Safe.seq ?_ | refine Safe.skip ?_ | with_reducible refine thenQ.n ?_ | with_reducible refine blockQ.n ?_)
                    refine Safe.region ?_
                    refine SafeOps.quiet0 E_good rfl rfl rfl (v := V.ptr [12, 23, 16, 6, 17, 1] 0 0) (.fn rfl) ?_
                    refine SafeOps.quiet0 E_good rfl rfl rfl (v := V.ptr [12, 23, 16, 6, 17, 1] 0 0) (.fn rfl) ?_
                    refine SafeOps.quiet0 E_good rfl rfl rfl (v := V.ptr [12, 23, 16, 6, 17, 1] 0 0) (.fn rfl) ?_
                    refine SafeOps.quiet0 E_good rfl rfl rfl (v := V.ptr [12, 23, 16, 6, 17, 1] 0 9) (.fn rfl) ?_
                    refine SafeOps.store (z := Obj.box [V.int .i64 e_6080.Task.Id, V.int .i64 e_6080.Task.Tenant, V.int .i64 e_6080.Task.Prog, V.int .i64 e_6080.Task.Pc, V.int .i64 e_6080.Task.Unit, V.int .i64 e_6080.Task.Keeps.a0, V.int .i64 e_6080.Task.Keeps.a1, V.int .i64 e_6080.Task.Keeps.a2, V.int .i64 e_6080.Task.Keeps.a3, V.int .i64 1, V.int .i64 e_6080.Task.Ran, V.int .i64 e_6080.last.Kind, V.int .i64 e_6080.last.Id, V.int .i64 e_6080.last.A]) E_good rfl rfl rfl rfl rfl rfl rfl (.boxM (c := 14) rfl rfl (Nat.le_of_ble_eq_true rfl) rfl) ?_
                    refine SafeOps.nil ?_
                    repeat (first | refine Safe.seq ?_ | refine Safe.skip ?_ | with_reducible refine thenQ.n ?_ | with_reducible refine blockQ.n ?_)
                    refine Safe.region ?_
                    refine SafeOps.quiet0 E_good rfl rfl rfl (v := V.ptr [12, 23, 16, 6, 17, 1] 0 0) (.fn rfl) ?_
                    refine SafeOps.quiet0 E_good rfl rfl rfl (v := V.agg [V.int .i64 ((gt a1_5 v8_5730).Kind), V.int .i64 ((gt a1_5 v8_5730).Id), V.int .i64 ((gt a1_5 v8_5730).A)]) (.load rfl rfl (.box rfl rfl) rfl) ?_
                    refine SafeOps.quiet0 E_good rfl rfl rfl (v := V.ptr [12, 23, 16, 6, 17, 1] 0 0) (.fn rfl) ?_
                    refine SafeOps.quiet0 E_good rfl rfl rfl (v := V.ptr [12, 23, 16, 6, 17, 1] 0 11) (.fn rfl) ?_
                    refine SafeOps.store (z := Obj.box [V.int .i64 e_6080.Task.Id, V.int .i64 e_6080.Task.Tenant, V.int .i64 e_6080.Task.Prog, V.int .i64 e_6080.Task.Pc, V.int .i64 e_6080.Task.Unit, V.int .i64 e_6080.Task.Keeps.a0, V.int .i64 e_6080.Task.Keeps.a1, V.int .i64 e_6080.Task.Keeps.a2, V.int .i64 e_6080.Task.Keeps.a3, V.int .i64 1, V.int .i64 e_6080.Task.Ran, V.int .i64 ((gt a1_5 v8_5730).Kind), V.int .i64 ((gt a1_5 v8_5730).Id), V.int .i64 ((gt a1_5 v8_5730).A)]) E_good rfl rfl rfl rfl rfl rfl rfl (.boxM (c := 14) rfl rfl (Nat.le_of_ble_eq_true rfl) rfl) ?_
                    refine SafeOps.gets (τ := ⟨Tryd.f34.ntmps, [(9, V.bool ((go_life_Waits e_6080.Task.State) && (((gt a1_5 v8_5730).A) == 0)))], ([12, 7], Obj.box [V.ptr [12, 20] 0 0]) :: ([12, 20], Obj.box [V.sl 1 (rws (fun l => [V.sl 3 (rws api_Instr.cells l)]) a0_4), V.mapr [12, 18], V.ref [7000, 114, 12, 20, 2] 0 (rws (fun n => [V.int .i64 n]) v12_202_5731).length]) :: ([12, 23, 16, 2], Obj.box [V.int .i64 ((gt a1_5 v8_5730).Kind), V.int .i64 ((gt a1_5 v8_5730).Id), V.int .i64 ((gt a1_5 v8_5730).A)]) :: ([12, 23, 16, 6, 3], Obj.box [V.int .i64 ((gt a1_5 v8_5730).Kind), V.int .i64 ((gt a1_5 v8_5730).Id), V.int .i64 ((gt a1_5 v8_5730).A)]) :: ([12, 23, 16, 6, 17, 1], Obj.box [V.int .i64 e_6080.Task.Id, V.int .i64 e_6080.Task.Tenant, V.int .i64 e_6080.Task.Prog, V.int .i64 e_6080.Task.Pc, V.int .i64 e_6080.Task.Unit, V.int .i64 e_6080.Task.Keeps.a0, V.int .i64 e_6080.Task.Keeps.a1, V.int .i64 e_6080.Task.Keeps.a2, V.int .i64 e_6080.Task.Keeps.a3, V.int .i64 1, V.int .i64 e_6080.Task.Ran, V.int .i64 ((gt a1_5 v8_5730).Kind), V.int .i64 ((gt a1_5 v8_5730).Id), V.int .i64 ((gt a1_5 v8_5730).A)]) :: ([7000, 114, 12, 20, 2], Obj.rows 1 (rws (fun n => [V.int .i64 n]) v12_202_5731) false) :: (pmo [12, 18] (fun n : Int => V.int .i64 n) trace_seen.cells (some (mix ((gt a1_5 v8_5730).Id) vm_5732, [12, 23, 16, 6, 17, 1])) (mput vm_5732 ((gt a1_5 v8_5730).Id) e_6080)), [(Tryd.f33.ntmps, []), (Tryd.f32.ntmps, [(0, V.sl 3 (rws api_Event.cells a1_5)), (1, V.fn 33 [V.ptr [12, 7] 0 0]), (5, V.int .i64 v8_5730), (7, V.int .i64 (a1_5.length : Int)), (8, V.int .i64 v8_5730)]), (Tryd.f25.ntmps, [(1, V.sl 3 (rws api_Event.cells a1_5)), (7, V.ptr [12, 7] 0 0)]), (Tryd.f11.ntmps, [])], [12, 23, 16, 6]⟩) (.cov ⟨rfl, rfl, (upT_cons (.refl _) upT_nil), (upOb_cons rfl (.refl _) (upOb_cons rfl (.refl _) (upOb_cons rfl (.refl _) (upOb_cons rfl (.refl _) (upOb_cons rfl (.refl _) (upOb_cons rfl (.refl _) (upOb_tl rfl (by repeat first | exact Tn.here | refine Tn.cons rfl ?_) rfl))))))), (upOut_cons rfl upT_nil (upOut_cons rfl (upT_cons (.refl _) (upT_cons (.refl _) (upT_cons (.refl _) (upT_cons (.refl _) (upT_cons (.refl _) upT_nil))))) (upOut_cons rfl (upT_cons (.refl _) (upT_cons (.refl _) upT_nil)) (upOut_cons rfl upT_nil upOut_nil)))), (cl3 rfl (wi_cons rfl (wi_cons rfl (wi_cons rfl (wi_cons rfl (wi_cons rfl (wi_cons rfl (wi_tl rfl (by repeat first | exact Tn.here | refine Tn.cons rfl ?_) (fun _ => rfl) (sob rfl)))))))) rfl)⟩) ?_
                    refine SafeOps.giveP (M := [12, 18]) (fun n : Int => V.int .i64 n) trace_seen.cells vm_5732 ((gt a1_5 v8_5730).Id) e_6080 (trace_seen.mk (api_Task.mk e_6080.Task.Id e_6080.Task.Tenant e_6080.Task.Prog e_6080.Task.Pc e_6080.Task.Unit e_6080.Task.Keeps 1 e_6080.Task.Ran) (gt a1_5 v8_5730)) [12, 23, 16, 6, 17, 1] rfl rfl rfl rfl rfl (fun _ _ _ => rfl) (by repeat first | exact Tg.here | apply Tg.drop rfl rfl | apply Tg.cons rfl rfl) rfl rfl ?_
                    refine SafeOps.nil ?_
                    repeat (first | refine Safe.seq ?_ | refine Safe.skip ?_ | with_reducible refine thenQ.n ?_ | with_reducible refine blockQ.n ?_)
                    refine Safe.region ?_
                    refine SafeOps.quiet0 E_good rfl rfl rfl (v := V.bool ((go_life_Waits e_6080.Task.State) && (((gt a1_5 v8_5730).A) == 0))) (.fn rfl) ?_
                    refine SafeOps.quiet0 E_good rfl rfl rfl (v := V.bool ((go_life_Waits e_6080.Task.State) && (((gt a1_5 v8_5730).A) == 0))) (.fn rfl) ?_
                    refine SafeOps.nil ?_
                    repeat (first | refine Safe.seq ?_ | refine Safe.skip ?_ | with_reducible refine thenQ.n ?_ | with_reducible refine blockQ.n ?_)
                    refine Safe.ret ?_
                    repeat (first | with_reducible refine thenQ.r ?_ | with_reducible refine blockQ.r ?_)
                    refine inQ.gen (vs := [V.bool ((go_life_Waits e_6080.Task.State) && (((gt a1_5 v8_5730).A) == 0))]) (v := V.bool ((go_life_Waits e_6080.Task.State) && (((gt a1_5 v8_5730).A) == 0))) (.inr rfl) rfl (.tmp (v := V.bool ((go_life_Waits e_6080.Task.State) && (((gt a1_5 v8_5730).A) == 0))) rfl .nil) rfl ?_
                    exact SafeOps.got (HJ6077 (((go_life_Waits e_6080.Task.State) && (((gt a1_5 v8_5730).A) == 0)), v12_202_5731, mput vm_5732 ((gt a1_5 v8_5730).Id) (trace_seen.mk (api_Task.mk e_6080.Task.Id e_6080.Task.Tenant e_6080.Task.Prog e_6080.Task.Pc e_6080.Task.Unit e_6080.Task.Keeps 1 e_6080.Task.Ran) (gt a1_5 v8_5730))) h) (.cov ⟨rfl, rfl, (upT_cons (.refl _) upT_nil), (upOb_cons rfl (.refl _) (upOb_cons rfl (.refl _) (upOb_cons rfl (.refl _) (upOb_tl rfl (by repeat first | exact Tn.here | refine Tn.cons rfl ?_) rfl)))), (upOut_cons rfl (upT_cons (.refl _) (upT_cons (.refl _) (upT_cons (.refl _) (upT_cons (.refl _) (upT_cons (.refl _) upT_nil))))) (upOut_cons rfl (upT_cons (.refl _) (upT_cons (.refl _) upT_nil)) (upOut_cons rfl upT_nil upOut_nil))), (cl3 rfl (wi_cons rfl (wi_cons rfl (wi_cons rfl (wi_tl rfl (by repeat first | exact Tn.here | refine Tn.cons rfl ?_) (fun _ => rfl) nob)))) rfl)⟩)
                  · skip
                    refine Safe.condN rfl hc6244 ?_
                    repeat (first | refine Safe.seq ?_ | refine Safe.skip ?_ | with_reducible refine thenQ.n ?_ | with_reducible refine blockQ.n ?_)
                    refine Safe.region ?_
                    refine SafeOps.quiet0 E_good rfl rfl rfl (v := V.ptr [12, 23, 16, 6, 17, 1] 0 0) (.fn rfl) ?_
                    refine SafeOps.quiet0 E_good rfl rfl rfl (v := V.agg [V.int .i64 ((gt a1_5 v8_5730).Kind), V.int .i64 ((gt a1_5 v8_5730).Id), V.int .i64 ((gt a1_5 v8_5730).A)]) (.load rfl rfl (.box rfl rfl) rfl) ?_
                    refine SafeOps.quiet0 E_good rfl rfl rfl (v := V.ptr [12, 23, 16, 6, 17, 1] 0 0) (.fn rfl) ?_
                    refine SafeOps.quiet0 E_good rfl rfl rfl (v := V.ptr [12, 23, 16, 6, 17, 1] 0 11) (.fn rfl) ?_
                    refine SafeOps.store (z := Obj.box [V.int .i64 e_6080.Task.Id, V.int .i64 e_6080.Task.Tenant, V.int .i64 e_6080.Task.Prog, V.int .i64 e_6080.Task.Pc, V.int .i64 e_6080.Task.Unit, V.int .i64 e_6080.Task.Keeps.a0, V.int .i64 e_6080.Task.Keeps.a1, V.int .i64 e_6080.Task.Keeps.a2, V.int .i64 e_6080.Task.Keeps.a3, V.int .i64 e_6080.Task.State, V.int .i64 e_6080.Task.Ran, V.int .i64 ((gt a1_5 v8_5730).Kind), V.int .i64 ((gt a1_5 v8_5730).Id), V.int .i64 ((gt a1_5 v8_5730).A)]) E_good rfl rfl rfl rfl rfl rfl rfl (.boxM (c := 14) rfl rfl (Nat.le_of_ble_eq_true rfl) rfl) ?_
                    refine SafeOps.gets (τ := ⟨Tryd.f34.ntmps, [(9, V.bool ((go_life_Waits e_6080.Task.State) && (((gt a1_5 v8_5730).A) == 0)))], ([12, 7], Obj.box [V.ptr [12, 20] 0 0]) :: ([12, 20], Obj.box [V.sl 1 (rws (fun l => [V.sl 3 (rws api_Instr.cells l)]) a0_4), V.mapr [12, 18], V.ref [7000, 114, 12, 20, 2] 0 (rws (fun n => [V.int .i64 n]) v12_202_5731).length]) :: ([12, 23, 16, 2], Obj.box [V.int .i64 ((gt a1_5 v8_5730).Kind), V.int .i64 ((gt a1_5 v8_5730).Id), V.int .i64 ((gt a1_5 v8_5730).A)]) :: ([12, 23, 16, 6, 3], Obj.box [V.int .i64 ((gt a1_5 v8_5730).Kind), V.int .i64 ((gt a1_5 v8_5730).Id), V.int .i64 ((gt a1_5 v8_5730).A)]) :: ([12, 23, 16, 6, 17, 1], Obj.box [V.int .i64 e_6080.Task.Id, V.int .i64 e_6080.Task.Tenant, V.int .i64 e_6080.Task.Prog, V.int .i64 e_6080.Task.Pc, V.int .i64 e_6080.Task.Unit, V.int .i64 e_6080.Task.Keeps.a0, V.int .i64 e_6080.Task.Keeps.a1, V.int .i64 e_6080.Task.Keeps.a2, V.int .i64 e_6080.Task.Keeps.a3, V.int .i64 e_6080.Task.State, V.int .i64 e_6080.Task.Ran, V.int .i64 ((gt a1_5 v8_5730).Kind), V.int .i64 ((gt a1_5 v8_5730).Id), V.int .i64 ((gt a1_5 v8_5730).A)]) :: ([7000, 114, 12, 20, 2], Obj.rows 1 (rws (fun n => [V.int .i64 n]) v12_202_5731) false) :: (pmo [12, 18] (fun n : Int => V.int .i64 n) trace_seen.cells (some (mix ((gt a1_5 v8_5730).Id) vm_5732, [12, 23, 16, 6, 17, 1])) (mput vm_5732 ((gt a1_5 v8_5730).Id) e_6080)), [(Tryd.f33.ntmps, []), (Tryd.f32.ntmps, [(0, V.sl 3 (rws api_Event.cells a1_5)), (1, V.fn 33 [V.ptr [12, 7] 0 0]), (5, V.int .i64 v8_5730), (7, V.int .i64 (a1_5.length : Int)), (8, V.int .i64 v8_5730)]), (Tryd.f25.ntmps, [(1, V.sl 3 (rws api_Event.cells a1_5)), (7, V.ptr [12, 7] 0 0)]), (Tryd.f11.ntmps, [])], [12, 23, 16, 6]⟩) (.cov ⟨rfl, rfl, (upT_cons (.refl _) upT_nil), (upOb_cons rfl (.refl _) (upOb_cons rfl (.refl _) (upOb_cons rfl (.refl _) (upOb_cons rfl (.refl _) (upOb_cons rfl (.refl _) (upOb_cons rfl (.refl _) (upOb_tl rfl (by repeat first | exact Tn.here | refine Tn.cons rfl ?_) rfl))))))), (upOut_cons rfl upT_nil (upOut_cons rfl (upT_cons (.refl _) (upT_cons (.refl _) (upT_cons (.refl _) (upT_cons (.refl _) (upT_cons (.refl _) upT_nil))))) (upOut_cons rfl (upT_cons (.refl _) (upT_cons (.refl _) upT_nil)) (upOut_cons rfl upT_nil upOut_nil)))), (cl3 rfl (wi_cons rfl (wi_cons rfl (wi_cons rfl (wi_cons rfl (wi_cons rfl (wi_cons rfl (wi_tl rfl (by repeat first | exact Tn.here | refine Tn.cons rfl ?_) (fun _ => rfl) (sob rfl)))))))) rfl)⟩) ?_
                    refine SafeOps.giveP (M := [12, 18]) (fun n : Int => V.int .i64 n) trace_seen.cells vm_5732 ((gt a1_5 v8_5730).Id) e_6080 (trace_seen.mk e_6080.Task (gt a1_5 v8_5730)) [12, 23, 16, 6, 17, 1] rfl rfl rfl rfl rfl (fun _ _ _ => rfl) (by repeat first | exact Tg.here | apply Tg.drop rfl rfl | apply Tg.cons rfl rfl) rfl rfl ?_
                    refine SafeOps.nil ?_
                    repeat (first | refine Safe.seq ?_ | refine Safe.skip ?_ | with_reducible refine thenQ.n ?_ | with_reducible refine blockQ.n ?_)
                    refine Safe.region ?_
                    refine SafeOps.quiet0 E_good rfl rfl rfl (v := V.bool ((go_life_Waits e_6080.Task.State) && (((gt a1_5 v8_5730).A) == 0))) (.fn rfl) ?_
                    refine SafeOps.quiet0 E_good rfl rfl rfl (v := V.bool ((go_life_Waits e_6080.Task.State) && (((gt a1_5 v8_5730).A) == 0))) (.fn rfl) ?_
                    refine SafeOps.nil ?_
                    repeat (first | refine Safe.seq ?_ | refine Safe.skip ?_ | with_reducible refine thenQ.n ?_ | with_reducible refine blockQ.n ?_)
                    refine Safe.ret ?_
                    repeat (first | with_reducible refine thenQ.r ?_ | with_reducible refine blockQ.r ?_)
                    refine inQ.gen (vs := [V.bool ((go_life_Waits e_6080.Task.State) && (((gt a1_5 v8_5730).A) == 0))]) (v := V.bool ((go_life_Waits e_6080.Task.State) && (((gt a1_5 v8_5730).A) == 0))) (.inr rfl) rfl (.tmp (v := V.bool ((go_life_Waits e_6080.Task.State) && (((gt a1_5 v8_5730).A) == 0))) rfl .nil) rfl ?_
                    exact SafeOps.got (HJ6077 (((go_life_Waits e_6080.Task.State) && (((gt a1_5 v8_5730).A) == 0)), v12_202_5731, mput vm_5732 ((gt a1_5 v8_5730).Id) (trace_seen.mk e_6080.Task (gt a1_5 v8_5730))) h) (.cov ⟨rfl, rfl, (upT_cons (.refl _) upT_nil), (upOb_cons rfl (.refl _) (upOb_cons rfl (.refl _) (upOb_cons rfl (.refl _) (upOb_tl rfl (by repeat first | exact Tn.here | refine Tn.cons rfl ?_) rfl)))), (upOut_cons rfl (upT_cons (.refl _) (upT_cons (.refl _) (upT_cons (.refl _) (upT_cons (.refl _) (upT_cons (.refl _) upT_nil))))) (upOut_cons rfl (upT_cons (.refl _) (upT_cons (.refl _) upT_nil)) (upOut_cons rfl upT_nil upOut_nil))), (cl3 rfl (wi_cons rfl (wi_cons rfl (wi_cons rfl (wi_tl rfl (by repeat first | exact Tn.here | refine Tn.cons rfl ?_) (fun _ => rfl) nob)))) rfl)⟩)
                · skip
                  refine Safe.condN rfl hc6242 ?_
                  repeat (first | refine Safe.seq ?_ | refine Safe.skip ?_ | with_reducible refine thenQ.n ?_ | with_reducible refine blockQ.n ?_)
                  refine Safe.region ?_
                  refine SafeOps.quiet0 E_good rfl rfl rfl (v := V.bool (((gt a1_5 v8_5730).Kind) == 5)) (.fn rfl) ?_
                  refine SafeOps.quiet0 E_good rfl rfl rfl (v := V.bool (((gt a1_5 v8_5730).Kind) == 5)) (.fn rfl) ?_
                  refine SafeOps.nil ?_
                  repeat (first | refine Safe.seq ?_ | refine Safe.skip ?_ | with_reducible refine thenQ.n ?_ | with_reducible refine blockQ.n ?_)
                  refine ifG h (fun hc6245 h => ?_) (fun hc6245 h => ?_)
                  · skip
                    refine Safe.condK rfl hc6245 ?_
                    repeat (first | refine Safe.seq ?_ | refine Safe.skip ?_ | with_reducible refine thenQ.n ?_ | with_reducible refine blockQ.n ?_)
                    refine Safe.region ?_
                    refine SafeOps.quiet0 E_good rfl rfl rfl (v := V.bool (e_6080.Task.State == 1)) (.fn rfl) ?_
                    refine SafeOps.quiet0 E_good rfl rfl rfl (v := V.bool (e_6080.Task.State == 1)) (.fn rfl) ?_
                    refine SafeOps.bjoin 2 98 (b := ((e_6080.Task.State == 1) && (e_6080.last.Kind == 2))) (b1 := (e_6080.last.Kind == 2)) (b0 := false) (fun hc6246 K => ?_) (fun hc6246 K => ?_) bj_and ?_
                    · skip
                      refine SafeOps.quiet0 E_good (congrArg some hc6246) rfl rfl (v := V.bool (e_6080.last.Kind == 2)) (.fn rfl) ?_
                      refine SafeOps.quiet0 E_good rfl rfl rfl (v := V.bool (e_6080.last.Kind == 2)) (.pickK rfl hc6246 rfl) ?_
                      exact SafeOps.drop' 2 rfl rfl rfl K
                    · skip
                      refine SafeOps.skip (congrArg some hc6246) rfl rfl ?_
                      refine SafeOps.quiet0 E_good rfl rfl rfl (v := V.bool false) (.pickK rfl hc6246 rfl) ?_
                      exact SafeOps.drop' 2 rfl rfl rfl K
                    refine SafeOps.quiet0 E_good rfl rfl rfl (v := V.bool ((e_6080.Task.State == 1) && (e_6080.last.Kind == 2))) (.fn rfl) ?_
                    refine SafeOps.bjoin 7 106 (b := (((e_6080.Task.State == 1) && (e_6080.last.Kind == 2)) && (e_6080.last.A == 9))) (b1 := (e_6080.last.A == 9)) (b0 := false) (fun hc6247 K => ?_) (fun hc6247 K => ?_) bj_and ?_
                    · skip
                      refine SafeOps.quiet0 E_good (congrArg some hc6247) rfl rfl (v := V.ptr [12, 23, 16, 6, 17, 1] 0 0) (.fn rfl) ?_
                      refine SafeOps.quiet0 E_good (congrArg some hc6247) rfl rfl (v := V.ptr [12, 23, 16, 6, 17, 1] 0 0) (.fn rfl) ?_
                      refine SafeOps.quiet0 E_good (congrArg some hc6247) rfl rfl (v := V.ptr [12, 23, 16, 6, 17, 1] 0 11) (.fn rfl) ?_
                      refine SafeOps.quiet0 E_good (congrArg some hc6247) rfl rfl (v := V.ptr [12, 23, 16, 6, 17, 1] 0 13) (.fn rfl) ?_
                      refine SafeOps.quiet0 E_good (congrArg some hc6247) rfl rfl (v := V.int .i64 e_6080.last.A) (.load rfl rfl (.box rfl rfl) rfl) ?_
                      refine SafeOps.quiet0 E_good (congrArg some hc6247) rfl rfl (v := V.bool (e_6080.last.A == 9)) (.fn rfl) ?_
                      refine SafeOps.quiet0 E_good rfl rfl rfl (v := V.bool (e_6080.last.A == 9)) (.pickK rfl hc6247 rfl) ?_
                      exact SafeOps.drop' 7 rfl rfl rfl K
                    · skip
                      refine SafeOps.skip (congrArg some hc6247) rfl rfl ?_
                      refine SafeOps.skip (congrArg some hc6247) rfl rfl ?_
                      refine SafeOps.skip (congrArg some hc6247) rfl rfl ?_
                      refine SafeOps.skip (congrArg some hc6247) rfl rfl ?_
                      refine SafeOps.skip (congrArg some hc6247) rfl rfl ?_
                      refine SafeOps.skip (congrArg some hc6247) rfl rfl ?_
                      refine SafeOps.quiet0 E_good rfl rfl rfl (v := V.bool false) (.pickK rfl hc6247 rfl) ?_
                      exact SafeOps.drop' 7 rfl rfl rfl K
                    refine SafeOps.quiet0 E_good rfl rfl rfl (v := V.bool (((e_6080.Task.State == 1) && (e_6080.last.Kind == 2)) && (e_6080.last.A == 9))) (.fn rfl) ?_
                    refine SafeOps.bjoin 4 111 (b := ((((e_6080.Task.State == 1) && (e_6080.last.Kind == 2)) && (e_6080.last.A == 9)) && (((gt a1_5 v8_5730).A) == 0))) (b1 := (((gt a1_5 v8_5730).A) == 0)) (b0 := false) (fun hc6248 K => ?_) (fun hc6248 K => ?_) bj_and ?_
                    · skip
                      refine SafeOps.quiet0 E_good (congrArg some hc6248) rfl rfl (v := V.ptr [12, 23, 16, 6, 3] 0 2) (.fn rfl) ?_
                      refine SafeOps.quiet0 E_good (congrArg some hc6248) rfl rfl (v := V.int .i64 ((gt a1_5 v8_5730).A)) (.load rfl rfl (.box rfl rfl) rfl) ?_
                      refine SafeOps.quiet0 E_good (congrArg some hc6248) rfl rfl (v := V.bool (((gt a1_5 v8_5730).A) == 0)) (.fn rfl) ?_
                      refine SafeOps.quiet0 E_good rfl rfl rfl (v := V.bool (((gt a1_5 v8_5730).A) == 0)) (.pickK rfl hc6248 rfl) ?_
                      exact SafeOps.drop' 4 rfl rfl rfl K
                    · skip
                      refine SafeOps.skip (congrArg some hc6248) rfl rfl ?_
                      refine SafeOps.skip (congrArg some hc6248) rfl rfl ?_
                      refine SafeOps.skip (congrArg some hc6248) rfl rfl ?_
                      refine SafeOps.quiet0 E_good rfl rfl rfl (v := V.bool false) (.pickK rfl hc6248 rfl) ?_
                      exact SafeOps.drop' 4 rfl rfl rfl K
                    refine SafeOps.quiet0 E_good rfl rfl rfl (v := V.bool ((((e_6080.Task.State == 1) && (e_6080.last.Kind == 2)) && (e_6080.last.A == 9)) && (((gt a1_5 v8_5730).A) == 0))) (.fn rfl) ?_
                    refine SafeOps.nil ?_
                    repeat (first | refine Safe.seq ?_ | refine Safe.skip ?_ | with_reducible refine thenQ.n ?_ | with_reducible refine blockQ.n ?_)
                    refine Safe.region ?_
                    refine SafeOps.quiet0 E_good rfl rfl rfl (v := V.bool ((((e_6080.Task.State == 1) && (e_6080.last.Kind == 2)) && (e_6080.last.A == 9)) && (((gt a1_5 v8_5730).A) == 0))) (.fn rfl) ?_
                    refine SafeOps.nil ?_
                    repeat (first | refine Safe.seq ?_ | refine Safe.skip ?_ | with_reducible refine thenQ.n ?_ | with_reducible refine blockQ.n ?_)
                    refine ifG h (fun hc6249 h => ?_) (fun hc6249 h => ?_)
                    · skip
                      refine Safe.condK rfl hc6249 ?_
                      repeat (first | refine Safe.seq ?_ | refine Safe.skip ?_ | with_reducible refine thenQ.n ?_ | with_reducible refine blockQ.n ?_)
                      refine Safe.region ?_
                      refine SafeOps.quiet0 E_good rfl rfl rfl (v := V.ptr [12, 23, 16, 6, 17, 1] 0 0) (.fn rfl) ?_
                      refine SafeOps.quiet0 E_good rfl rfl rfl (v := V.ptr [12, 23, 16, 6, 17, 1] 0 0) (.fn rfl) ?_
                      refine SafeOps.quiet0 E_good rfl rfl rfl (v := V.ptr [12, 23, 16, 6, 17, 1] 0 0) (.fn rfl) ?_
                      refine SafeOps.quiet0 E_good rfl rfl rfl (v := V.ptr [12, 23, 16, 6, 17, 1] 0 9) (.fn rfl) ?_
                      refine SafeOps.store (z := Obj.box [V.int .i64 e_6080.Task.Id, V.int .i64 e_6080.Task.Tenant, V.int .i64 e_6080.Task.Prog, V.int .i64 e_6080.Task.Pc, V.int .i64 e_6080.Task.Unit, V.int .i64 e_6080.Task.Keeps.a0, V.int .i64 e_6080.Task.Keeps.a1, V.int .i64 e_6080.Task.Keeps.a2, V.int .i64 e_6080.Task.Keeps.a3, V.int .i64 7, V.int .i64 e_6080.Task.Ran, V.int .i64 e_6080.last.Kind, V.int .i64 e_6080.last.Id, V.int .i64 e_6080.last.A]) E_good rfl rfl rfl rfl rfl rfl rfl (.boxM (c := 14) rfl rfl (Nat.le_of_ble_eq_true rfl) rfl) ?_
                      refine SafeOps.nil ?_
                      repeat (first | refine Safe.seq ?_ | refine Safe.skip ?_ | with_reducible refine thenQ.n ?_ | with_reducible refine blockQ.n ?_)
                      refine Safe.region ?_
                      refine SafeOps.quiet0 E_good rfl rfl rfl (v := V.ptr [12, 23, 16, 6, 17, 1] 0 0) (.fn rfl) ?_
                      refine SafeOps.quiet0 E_good rfl rfl rfl (v := V.agg [V.int .i64 ((gt a1_5 v8_5730).Kind), V.int .i64 ((gt a1_5 v8_5730).Id), V.int .i64 ((gt a1_5 v8_5730).A)]) (.load rfl rfl (.box rfl rfl) rfl) ?_
                      refine SafeOps.quiet0 E_good rfl rfl rfl (v := V.ptr [12, 23, 16, 6, 17, 1] 0 0) (.fn rfl) ?_
                      refine SafeOps.quiet0 E_good rfl rfl rfl (v := V.ptr [12, 23, 16, 6, 17, 1] 0 11) (.fn rfl) ?_
                      refine SafeOps.store (z := Obj.box [V.int .i64 e_6080.Task.Id, V.int .i64 e_6080.Task.Tenant, V.int .i64 e_6080.Task.Prog, V.int .i64 e_6080.Task.Pc, V.int .i64 e_6080.Task.Unit, V.int .i64 e_6080.Task.Keeps.a0, V.int .i64 e_6080.Task.Keeps.a1, V.int .i64 e_6080.Task.Keeps.a2, V.int .i64 e_6080.Task.Keeps.a3, V.int .i64 7, V.int .i64 e_6080.Task.Ran, V.int .i64 ((gt a1_5 v8_5730).Kind), V.int .i64 ((gt a1_5 v8_5730).Id), V.int .i64 ((gt a1_5 v8_5730).A)]) E_good rfl rfl rfl rfl rfl rfl rfl (.boxM (c := 14) rfl rfl (Nat.le_of_ble_eq_true rfl) rfl) ?_
                      refine SafeOps.gets (τ := ⟨Tryd.f34.ntmps, [(9, V.bool ((((e_6080.Task.State == 1) && (e_6080.last.Kind == 2)) && (e_6080.last.A == 9)) && (((gt a1_5 v8_5730).A) == 0)))], ([12, 7], Obj.box [V.ptr [12, 20] 0 0]) :: ([12, 20], Obj.box [V.sl 1 (rws (fun l => [V.sl 3 (rws api_Instr.cells l)]) a0_4), V.mapr [12, 18], V.ref [7000, 114, 12, 20, 2] 0 (rws (fun n => [V.int .i64 n]) v12_202_5731).length]) :: ([12, 23, 16, 2], Obj.box [V.int .i64 ((gt a1_5 v8_5730).Kind), V.int .i64 ((gt a1_5 v8_5730).Id), V.int .i64 ((gt a1_5 v8_5730).A)]) :: ([12, 23, 16, 6, 3], Obj.box [V.int .i64 ((gt a1_5 v8_5730).Kind), V.int .i64 ((gt a1_5 v8_5730).Id), V.int .i64 ((gt a1_5 v8_5730).A)]) :: ([12, 23, 16, 6, 17, 1], Obj.box [V.int .i64 e_6080.Task.Id, V.int .i64 e_6080.Task.Tenant, V.int .i64 e_6080.Task.Prog, V.int .i64 e_6080.Task.Pc, V.int .i64 e_6080.Task.Unit, V.int .i64 e_6080.Task.Keeps.a0, V.int .i64 e_6080.Task.Keeps.a1, V.int .i64 e_6080.Task.Keeps.a2, V.int .i64 e_6080.Task.Keeps.a3, V.int .i64 7, V.int .i64 e_6080.Task.Ran, V.int .i64 ((gt a1_5 v8_5730).Kind), V.int .i64 ((gt a1_5 v8_5730).Id), V.int .i64 ((gt a1_5 v8_5730).A)]) :: ([7000, 114, 12, 20, 2], Obj.rows 1 (rws (fun n => [V.int .i64 n]) v12_202_5731) false) :: (pmo [12, 18] (fun n : Int => V.int .i64 n) trace_seen.cells (some (mix ((gt a1_5 v8_5730).Id) vm_5732, [12, 23, 16, 6, 17, 1])) (mput vm_5732 ((gt a1_5 v8_5730).Id) e_6080)), [(Tryd.f33.ntmps, []), (Tryd.f32.ntmps, [(0, V.sl 3 (rws api_Event.cells a1_5)), (1, V.fn 33 [V.ptr [12, 7] 0 0]), (5, V.int .i64 v8_5730), (7, V.int .i64 (a1_5.length : Int)), (8, V.int .i64 v8_5730)]), (Tryd.f25.ntmps, [(1, V.sl 3 (rws api_Event.cells a1_5)), (7, V.ptr [12, 7] 0 0)]), (Tryd.f11.ntmps, [])], [12, 23, 16, 6]⟩) (.cov ⟨rfl, rfl, (upT_cons (.refl _) upT_nil), (upOb_cons rfl (.refl _) (upOb_cons rfl (.refl _) (upOb_cons rfl (.refl _) (upOb_cons rfl (.refl _) (upOb_cons rfl (.refl _) (upOb_cons rfl (.refl _) (upOb_tl rfl (by repeat first | exact Tn.here | refine Tn.cons rfl ?_) rfl))))))), (upOut_cons rfl upT_nil (upOut_cons rfl (upT_cons (.refl _) (upT_cons (.refl _) (upT_cons (.refl _) (upT_cons (.refl _) (upT_cons (.refl _) upT_nil))))) (upOut_cons rfl (upT_cons (.refl _) (upT_cons (.refl _) upT_nil)) (upOut_cons rfl upT_nil upOut_nil)))), (cl3 rfl (wi_cons rfl (wi_cons rfl (wi_cons rfl (wi_cons rfl (wi_cons rfl (wi_cons rfl (wi_tl rfl (by repeat first | exact Tn.here | refine Tn.cons rfl ?_) (fun _ => rfl) (sob rfl)))))))) rfl)⟩) ?_
                      refine SafeOps.giveP (M := [12, 18]) (fun n : Int => V.int .i64 n) trace_seen.cells vm_5732 ((gt a1_5 v8_5730).Id) e_6080 (trace_seen.mk (api_Task.mk e_6080.Task.Id e_6080.Task.Tenant e_6080.Task.Prog e_6080.Task.Pc e_6080.Task.Unit e_6080.Task.Keeps 7 e_6080.Task.Ran) (gt a1_5 v8_5730)) [12, 23, 16, 6, 17, 1] rfl rfl rfl rfl rfl (fun _ _ _ => rfl) (by repeat first | exact Tg.here | apply Tg.drop rfl rfl | apply Tg.cons rfl rfl) rfl rfl ?_
                      refine SafeOps.nil ?_
                      repeat (first | refine Safe.seq ?_ | refine Safe.skip ?_ | with_reducible refine thenQ.n ?_ | with_reducible refine blockQ.n ?_)
                      refine Safe.region ?_
                      refine SafeOps.quiet0 E_good rfl rfl rfl (v := V.bool ((((e_6080.Task.State == 1) && (e_6080.last.Kind == 2)) && (e_6080.last.A == 9)) && (((gt a1_5 v8_5730).A) == 0))) (.fn rfl) ?_
                      refine SafeOps.quiet0 E_good rfl rfl rfl (v := V.bool ((((e_6080.Task.State == 1) && (e_6080.last.Kind == 2)) && (e_6080.last.A == 9)) && (((gt a1_5 v8_5730).A) == 0))) (.fn rfl) ?_
                      refine SafeOps.nil ?_
                      repeat (first | refine Safe.seq ?_ | refine Safe.skip ?_ | with_reducible refine thenQ.n ?_ | with_reducible refine blockQ.n ?_)
                      refine Safe.ret ?_
                      repeat (first | with_reducible refine thenQ.r ?_ | with_reducible refine blockQ.r ?_)
                      refine inQ.gen (vs := [V.bool ((((e_6080.Task.State == 1) && (e_6080.last.Kind == 2)) && (e_6080.last.A == 9)) && (((gt a1_5 v8_5730).A) == 0))]) (v := V.bool ((((e_6080.Task.State == 1) && (e_6080.last.Kind == 2)) && (e_6080.last.A == 9)) && (((gt a1_5 v8_5730).A) == 0))) (.inr rfl) rfl (.tmp (v := V.bool ((((e_6080.Task.State == 1) && (e_6080.last.Kind == 2)) && (e_6080.last.A == 9)) && (((gt a1_5 v8_5730).A) == 0))) rfl .nil) rfl ?_
                      exact SafeOps.got (HJ6077 (((((e_6080.Task.State == 1) && (e_6080.last.Kind == 2)) && (e_6080.last.A == 9)) && (((gt a1_5 v8_5730).A) == 0)), v12_202_5731, mput vm_5732 ((gt a1_5 v8_5730).Id) (trace_seen.mk (api_Task.mk e_6080.Task.Id e_6080.Task.Tenant e_6080.Task.Prog e_6080.Task.Pc e_6080.Task.Unit e_6080.Task.Keeps 7 e_6080.Task.Ran) (gt a1_5 v8_5730))) h) (.cov ⟨rfl, rfl, (upT_cons (.refl _) upT_nil), (upOb_cons rfl (.refl _) (upOb_cons rfl (.refl _) (upOb_cons rfl (.refl _) (upOb_tl rfl (by repeat first | exact Tn.here | refine Tn.cons rfl ?_) rfl)))), (upOut_cons rfl (upT_cons (.refl _) (upT_cons (.refl _) (upT_cons (.refl _) (upT_cons (.refl _) (upT_cons (.refl _) upT_nil))))) (upOut_cons rfl (upT_cons (.refl _) (upT_cons (.refl _) upT_nil)) (upOut_cons rfl upT_nil upOut_nil))), (cl3 rfl (wi_cons rfl (wi_cons rfl (wi_cons rfl (wi_tl rfl (by repeat first | exact Tn.here | refine Tn.cons rfl ?_) (fun _ => rfl) nob)))) rfl)⟩)
                    · skip
                      refine Safe.condN rfl hc6249 ?_
                      repeat (first | refine Safe.seq ?_ | refine Safe.skip ?_ | with_reducible refine thenQ.n ?_ | with_reducible refine blockQ.n ?_)
                      refine Safe.region ?_
                      refine SafeOps.quiet0 E_good rfl rfl rfl (v := V.ptr [12, 23, 16, 6, 17, 1] 0 0) (.fn rfl) ?_
                      refine SafeOps.quiet0 E_good rfl rfl rfl (v := V.agg [V.int .i64 ((gt a1_5 v8_5730).Kind), V.int .i64 ((gt a1_5 v8_5730).Id), V.int .i64 ((gt a1_5 v8_5730).A)]) (.load rfl rfl (.box rfl rfl) rfl) ?_
                      refine SafeOps.quiet0 E_good rfl rfl rfl (v := V.ptr [12, 23, 16, 6, 17, 1] 0 0) (.fn rfl) ?_
                      refine SafeOps.quiet0 E_good rfl rfl rfl (v := V.ptr [12, 23, 16, 6, 17, 1] 0 11) (.fn rfl) ?_
                      refine SafeOps.store (z := Obj.box [V.int .i64 e_6080.Task.Id, V.int .i64 e_6080.Task.Tenant, V.int .i64 e_6080.Task.Prog, V.int .i64 e_6080.Task.Pc, V.int .i64 e_6080.Task.Unit, V.int .i64 e_6080.Task.Keeps.a0, V.int .i64 e_6080.Task.Keeps.a1, V.int .i64 e_6080.Task.Keeps.a2, V.int .i64 e_6080.Task.Keeps.a3, V.int .i64 e_6080.Task.State, V.int .i64 e_6080.Task.Ran, V.int .i64 ((gt a1_5 v8_5730).Kind), V.int .i64 ((gt a1_5 v8_5730).Id), V.int .i64 ((gt a1_5 v8_5730).A)]) E_good rfl rfl rfl rfl rfl rfl rfl (.boxM (c := 14) rfl rfl (Nat.le_of_ble_eq_true rfl) rfl) ?_
                      refine SafeOps.gets (τ := ⟨Tryd.f34.ntmps, [(9, V.bool ((((e_6080.Task.State == 1) && (e_6080.last.Kind == 2)) && (e_6080.last.A == 9)) && (((gt a1_5 v8_5730).A) == 0)))], ([12, 7], Obj.box [V.ptr [12, 20] 0 0]) :: ([12, 20], Obj.box [V.sl 1 (rws (fun l => [V.sl 3 (rws api_Instr.cells l)]) a0_4), V.mapr [12, 18], V.ref [7000, 114, 12, 20, 2] 0 (rws (fun n => [V.int .i64 n]) v12_202_5731).length]) :: ([12, 23, 16, 2], Obj.box [V.int .i64 ((gt a1_5 v8_5730).Kind), V.int .i64 ((gt a1_5 v8_5730).Id), V.int .i64 ((gt a1_5 v8_5730).A)]) :: ([12, 23, 16, 6, 3], Obj.box [V.int .i64 ((gt a1_5 v8_5730).Kind), V.int .i64 ((gt a1_5 v8_5730).Id), V.int .i64 ((gt a1_5 v8_5730).A)]) :: ([12, 23, 16, 6, 17, 1], Obj.box [V.int .i64 e_6080.Task.Id, V.int .i64 e_6080.Task.Tenant, V.int .i64 e_6080.Task.Prog, V.int .i64 e_6080.Task.Pc, V.int .i64 e_6080.Task.Unit, V.int .i64 e_6080.Task.Keeps.a0, V.int .i64 e_6080.Task.Keeps.a1, V.int .i64 e_6080.Task.Keeps.a2, V.int .i64 e_6080.Task.Keeps.a3, V.int .i64 e_6080.Task.State, V.int .i64 e_6080.Task.Ran, V.int .i64 ((gt a1_5 v8_5730).Kind), V.int .i64 ((gt a1_5 v8_5730).Id), V.int .i64 ((gt a1_5 v8_5730).A)]) :: ([7000, 114, 12, 20, 2], Obj.rows 1 (rws (fun n => [V.int .i64 n]) v12_202_5731) false) :: (pmo [12, 18] (fun n : Int => V.int .i64 n) trace_seen.cells (some (mix ((gt a1_5 v8_5730).Id) vm_5732, [12, 23, 16, 6, 17, 1])) (mput vm_5732 ((gt a1_5 v8_5730).Id) e_6080)), [(Tryd.f33.ntmps, []), (Tryd.f32.ntmps, [(0, V.sl 3 (rws api_Event.cells a1_5)), (1, V.fn 33 [V.ptr [12, 7] 0 0]), (5, V.int .i64 v8_5730), (7, V.int .i64 (a1_5.length : Int)), (8, V.int .i64 v8_5730)]), (Tryd.f25.ntmps, [(1, V.sl 3 (rws api_Event.cells a1_5)), (7, V.ptr [12, 7] 0 0)]), (Tryd.f11.ntmps, [])], [12, 23, 16, 6]⟩) (.cov ⟨rfl, rfl, (upT_cons (.refl _) upT_nil), (upOb_cons rfl (.refl _) (upOb_cons rfl (.refl _) (upOb_cons rfl (.refl _) (upOb_cons rfl (.refl _) (upOb_cons rfl (.refl _) (upOb_cons rfl (.refl _) (upOb_tl rfl (by repeat first | exact Tn.here | refine Tn.cons rfl ?_) rfl))))))), (upOut_cons rfl upT_nil (upOut_cons rfl (upT_cons (.refl _) (upT_cons (.refl _) (upT_cons (.refl _) (upT_cons (.refl _) (upT_cons (.refl _) upT_nil))))) (upOut_cons rfl (upT_cons (.refl _) (upT_cons (.refl _) upT_nil)) (upOut_cons rfl upT_nil upOut_nil)))), (cl3 rfl (wi_cons rfl (wi_cons rfl (wi_cons rfl (wi_cons rfl (wi_cons rfl (wi_cons rfl (wi_tl rfl (by repeat first | exact Tn.here | refine Tn.cons rfl ?_) (fun _ => rfl) (sob rfl)))))))) rfl)⟩) ?_
                      refine SafeOps.giveP (M := [12, 18]) (fun n : Int => V.int .i64 n) trace_seen.cells vm_5732 ((gt a1_5 v8_5730).Id) e_6080 (trace_seen.mk e_6080.Task (gt a1_5 v8_5730)) [12, 23, 16, 6, 17, 1] rfl rfl rfl rfl rfl (fun _ _ _ => rfl) (by repeat first | exact Tg.here | apply Tg.drop rfl rfl | apply Tg.cons rfl rfl) rfl rfl ?_
                      refine SafeOps.nil ?_
                      repeat (first | refine Safe.seq ?_ | refine Safe.skip ?_ | with_reducible refine thenQ.n ?_ | with_reducible refine blockQ.n ?_)
                      refine Safe.region ?_
                      refine SafeOps.quiet0 E_good rfl rfl rfl (v := V.bool ((((e_6080.Task.State == 1) && (e_6080.last.Kind == 2)) && (e_6080.last.A == 9)) && (((gt a1_5 v8_5730).A) == 0))) (.fn rfl) ?_
                      refine SafeOps.quiet0 E_good rfl rfl rfl (v := V.bool ((((e_6080.Task.State == 1) && (e_6080.last.Kind == 2)) && (e_6080.last.A == 9)) && (((gt a1_5 v8_5730).A) == 0))) (.fn rfl) ?_
                      refine SafeOps.nil ?_
                      repeat (first | refine Safe.seq ?_ | refine Safe.skip ?_ | with_reducible refine thenQ.n ?_ | with_reducible refine blockQ.n ?_)
                      refine Safe.ret ?_
                      repeat (first | with_reducible refine thenQ.r ?_ | with_reducible refine blockQ.r ?_)
                      refine inQ.gen (vs := [V.bool ((((e_6080.Task.State == 1) && (e_6080.last.Kind == 2)) && (e_6080.last.A == 9)) && (((gt a1_5 v8_5730).A) == 0))]) (v := V.bool ((((e_6080.Task.State == 1) && (e_6080.last.Kind == 2)) && (e_6080.last.A == 9)) && (((gt a1_5 v8_5730).A) == 0))) (.inr rfl) rfl (.tmp (v := V.bool ((((e_6080.Task.State == 1) && (e_6080.last.Kind == 2)) && (e_6080.last.A == 9)) && (((gt a1_5 v8_5730).A) == 0))) rfl .nil) rfl ?_
                      exact SafeOps.got (HJ6077 (((((e_6080.Task.State == 1) && (e_6080.last.Kind == 2)) && (e_6080.last.A == 9)) && (((gt a1_5 v8_5730).A) == 0)), v12_202_5731, mput vm_5732 ((gt a1_5 v8_5730).Id) (trace_seen.mk e_6080.Task (gt a1_5 v8_5730))) h) (.cov ⟨rfl, rfl, (upT_cons (.refl _) upT_nil), (upOb_cons rfl (.refl _) (upOb_cons rfl (.refl _) (upOb_cons rfl (.refl _) (upOb_tl rfl (by repeat first | exact Tn.here | refine Tn.cons rfl ?_) rfl)))), (upOut_cons rfl (upT_cons (.refl _) (upT_cons (.refl _) (upT_cons (.refl _) (upT_cons (.refl _) (upT_cons (.refl _) upT_nil))))) (upOut_cons rfl (upT_cons (.refl _) (upT_cons (.refl _) upT_nil)) (upOut_cons rfl upT_nil upOut_nil))), (cl3 rfl (wi_cons rfl (wi_cons rfl (wi_cons rfl (wi_tl rfl (by repeat first | exact Tn.here | refine Tn.cons rfl ?_) (fun _ => rfl) nob)))) rfl)⟩)
                  · skip
                    refine Safe.condN rfl hc6245 ?_
                    repeat (first | refine Safe.seq ?_ | refine Safe.skip ?_ | with_reducible refine thenQ.n ?_ | with_reducible refine blockQ.n ?_)
                    refine Safe.region ?_
                    refine SafeOps.quiet0 E_good rfl rfl rfl (v := V.bool (((gt a1_5 v8_5730).Kind) == 6)) (.fn rfl) ?_
                    refine SafeOps.quiet0 E_good rfl rfl rfl (v := V.bool (((gt a1_5 v8_5730).Kind) == 6)) (.fn rfl) ?_
                    refine SafeOps.nil ?_
                    repeat (first | refine Safe.seq ?_ | refine Safe.skip ?_ | with_reducible refine thenQ.n ?_ | with_reducible refine blockQ.n ?_)
                    refine ifG h (fun hc6250 h => ?_) (fun hc6250 h => ?_)
                    · skip
                      refine Safe.condK rfl hc6250 ?_
                      repeat (first | refine Safe.seq ?_ | refine Safe.skip ?_ | with_reducible refine thenQ.n ?_ | with_reducible refine blockQ.n ?_)
                      refine Safe.region ?_
                      refine SafeOps.quiet0 E_good rfl rfl rfl (v := V.ptr [12, 23, 16, 6, 17, 1] 0 0) (.fn rfl) ?_
                      refine SafeOps.quiet0 E_good rfl rfl rfl (v := V.ptr [12, 23, 16, 6, 17, 1] 0 0) (.fn rfl) ?_
                      refine SafeOps.quiet0 E_good rfl rfl rfl (v := V.ptr [12, 23, 16, 6, 17, 1] 0 0) (.fn rfl) ?_
                      refine SafeOps.quiet0 E_good rfl rfl rfl (v := V.ptr [12, 23, 16, 6, 17, 1] 0 9) (.fn rfl) ?_
                      refine SafeOps.quiet0 E_good rfl rfl rfl (v := V.int .i64 e_6080.Task.State) (.load rfl rfl (.box rfl rfl) rfl) ?_
                      refine SafeOps.quiet0 E_good rfl rfl rfl (v := V.bool (e_6080.Task.State != 7)) (.fn rfl) ?_
                      refine SafeOps.quiet0 E_good rfl rfl rfl (v := V.bool (e_6080.Task.State != 7)) (.fn rfl) ?_
                      refine SafeOps.bjoin 4 129 (b := ((e_6080.Task.State != 7) && (((gt a1_5 v8_5730).A) == 0))) (b1 := (((gt a1_5 v8_5730).A) == 0)) (b0 := false) (fun hc6251 K => ?_) (fun hc6251 K => ?_) bj_and ?_
                      · skip
                        refine SafeOps.quiet0 E_good (congrArg some hc6251) rfl rfl (v := V.ptr [12, 23, 16, 6, 3] 0 2) (.fn rfl) ?_
                        refine SafeOps.quiet0 E_good (congrArg some hc6251) rfl rfl (v := V.int .i64 ((gt a1_5 v8_5730).A)) (.load rfl rfl (.box rfl rfl) rfl) ?_
                        refine SafeOps.quiet0 E_good (congrArg some hc6251) rfl rfl (v := V.bool (((gt a1_5 v8_5730).A) == 0)) (.fn rfl) ?_
                        refine SafeOps.quiet0 E_good rfl rfl rfl (v := V.bool (((gt a1_5 v8_5730).A) == 0)) (.pickK rfl hc6251 rfl) ?_
                        exact SafeOps.drop' 4 rfl rfl rfl K
                      · skip
                        refine SafeOps.skip (congrArg some hc6251) rfl rfl ?_
                        refine SafeOps.skip (congrArg some hc6251) rfl rfl ?_
                        refine SafeOps.skip (congrArg some hc6251) rfl rfl ?_
                        refine SafeOps.quiet0 E_good rfl rfl rfl (v := V.bool false) (.pickK rfl hc6251 rfl) ?_
                        exact SafeOps.drop' 4 rfl rfl rfl K
                      refine SafeOps.quiet0 E_good rfl rfl rfl (v := V.bool ((e_6080.Task.State != 7) && (((gt a1_5 v8_5730).A) == 0))) (.fn rfl) ?_
                      refine SafeOps.nil ?_
                      repeat (first | refine Safe.seq ?_ | refine Safe.skip ?_ | with_reducible refine thenQ.n ?_ | with_reducible refine blockQ.n ?_)
                      refine Safe.region ?_
                      refine SafeOps.quiet0 E_good rfl rfl rfl (v := V.bool ((e_6080.Task.State != 7) && (((gt a1_5 v8_5730).A) == 0))) (.fn rfl) ?_
                      refine SafeOps.nil ?_
                      repeat (first | refine Safe.seq ?_ | refine Safe.skip ?_ | with_reducible refine thenQ.n ?_ | with_reducible refine blockQ.n ?_)
                      refine ifG h (fun hc6252 h => ?_) (fun hc6252 h => ?_)
                      · skip
                        refine Safe.condK rfl hc6252 ?_
                        repeat (first | refine Safe.seq ?_ | refine Safe.skip ?_ | with_reducible refine thenQ.n ?_ | with_reducible refine blockQ.n ?_)
                        refine Safe.region ?_
                        refine SafeOps.quiet0 E_good rfl rfl rfl (v := V.ptr [12, 23, 16, 6, 17, 1] 0 0) (.fn rfl) ?_
                        refine SafeOps.quiet0 E_good rfl rfl rfl (v := V.ptr [12, 23, 16, 6, 17, 1] 0 0) (.fn rfl) ?_
                        refine SafeOps.quiet0 E_good rfl rfl rfl (v := V.ptr [12, 23, 16, 6, 17, 1] 0 0) (.fn rfl) ?_
                        refine SafeOps.quiet0 E_good rfl rfl rfl (v := V.ptr [12, 23, 16, 6, 17, 1] 0 9) (.fn rfl) ?_
                        refine SafeOps.store (z := Obj.box [V.int .i64 e_6080.Task.Id, V.int .i64 e_6080.Task.Tenant, V.int .i64 e_6080.Task.Prog, V.int .i64 e_6080.Task.Pc, V.int .i64 e_6080.Task.Unit, V.int .i64 e_6080.Task.Keeps.a0, V.int .i64 e_6080.Task.Keeps.a1, V.int .i64 e_6080.Task.Keeps.a2, V.int .i64 e_6080.Task.Keeps.a3, V.int .i64 7, V.int .i64 e_6080.Task.Ran, V.int .i64 e_6080.last.Kind, V.int .i64 e_6080.last.Id, V.int .i64 e_6080.last.A]) E_good rfl rfl rfl rfl rfl rfl rfl (.boxM (c := 14) rfl rfl (Nat.le_of_ble_eq_true rfl) rfl) ?_
                        refine SafeOps.nil ?_
                        repeat (first | refine Safe.seq ?_ | refine Safe.skip ?_ | with_reducible refine thenQ.n ?_ | with_reducible refine blockQ.n ?_)
                        refine Safe.region ?_
                        refine SafeOps.quiet0 E_good rfl rfl rfl (v := V.ptr [12, 23, 16, 6, 17, 1] 0 0) (.fn rfl) ?_
                        refine SafeOps.quiet0 E_good rfl rfl rfl (v := V.agg [V.int .i64 ((gt a1_5 v8_5730).Kind), V.int .i64 ((gt a1_5 v8_5730).Id), V.int .i64 ((gt a1_5 v8_5730).A)]) (.load rfl rfl (.box rfl rfl) rfl) ?_
                        refine SafeOps.quiet0 E_good rfl rfl rfl (v := V.ptr [12, 23, 16, 6, 17, 1] 0 0) (.fn rfl) ?_
                        refine SafeOps.quiet0 E_good rfl rfl rfl (v := V.ptr [12, 23, 16, 6, 17, 1] 0 11) (.fn rfl) ?_
                        refine SafeOps.store (z := Obj.box [V.int .i64 e_6080.Task.Id, V.int .i64 e_6080.Task.Tenant, V.int .i64 e_6080.Task.Prog, V.int .i64 e_6080.Task.Pc, V.int .i64 e_6080.Task.Unit, V.int .i64 e_6080.Task.Keeps.a0, V.int .i64 e_6080.Task.Keeps.a1, V.int .i64 e_6080.Task.Keeps.a2, V.int .i64 e_6080.Task.Keeps.a3, V.int .i64 7, V.int .i64 e_6080.Task.Ran, V.int .i64 ((gt a1_5 v8_5730).Kind), V.int .i64 ((gt a1_5 v8_5730).Id), V.int .i64 ((gt a1_5 v8_5730).A)]) E_good rfl rfl rfl rfl rfl rfl rfl (.boxM (c := 14) rfl rfl (Nat.le_of_ble_eq_true rfl) rfl) ?_
                        refine SafeOps.gets (τ := ⟨Tryd.f34.ntmps, [(9, V.bool ((e_6080.Task.State != 7) && (((gt a1_5 v8_5730).A) == 0)))], ([12, 7], Obj.box [V.ptr [12, 20] 0 0]) :: ([12, 20], Obj.box [V.sl 1 (rws (fun l => [V.sl 3 (rws api_Instr.cells l)]) a0_4), V.mapr [12, 18], V.ref [7000, 114, 12, 20, 2] 0 (rws (fun n => [V.int .i64 n]) v12_202_5731).length]) :: ([12, 23, 16, 2], Obj.box [V.int .i64 ((gt a1_5 v8_5730).Kind), V.int .i64 ((gt a1_5 v8_5730).Id), V.int .i64 ((gt a1_5 v8_5730).A)]) :: ([12, 23, 16, 6, 3], Obj.box [V.int .i64 ((gt a1_5 v8_5730).Kind), V.int .i64 ((gt a1_5 v8_5730).Id), V.int .i64 ((gt a1_5 v8_5730).A)]) :: ([12, 23, 16, 6, 17, 1], Obj.box [V.int .i64 e_6080.Task.Id, V.int .i64 e_6080.Task.Tenant, V.int .i64 e_6080.Task.Prog, V.int .i64 e_6080.Task.Pc, V.int .i64 e_6080.Task.Unit, V.int .i64 e_6080.Task.Keeps.a0, V.int .i64 e_6080.Task.Keeps.a1, V.int .i64 e_6080.Task.Keeps.a2, V.int .i64 e_6080.Task.Keeps.a3, V.int .i64 7, V.int .i64 e_6080.Task.Ran, V.int .i64 ((gt a1_5 v8_5730).Kind), V.int .i64 ((gt a1_5 v8_5730).Id), V.int .i64 ((gt a1_5 v8_5730).A)]) :: ([7000, 114, 12, 20, 2], Obj.rows 1 (rws (fun n => [V.int .i64 n]) v12_202_5731) false) :: (pmo [12, 18] (fun n : Int => V.int .i64 n) trace_seen.cells (some (mix ((gt a1_5 v8_5730).Id) vm_5732, [12, 23, 16, 6, 17, 1])) (mput vm_5732 ((gt a1_5 v8_5730).Id) e_6080)), [(Tryd.f33.ntmps, []), (Tryd.f32.ntmps, [(0, V.sl 3 (rws api_Event.cells a1_5)), (1, V.fn 33 [V.ptr [12, 7] 0 0]), (5, V.int .i64 v8_5730), (7, V.int .i64 (a1_5.length : Int)), (8, V.int .i64 v8_5730)]), (Tryd.f25.ntmps, [(1, V.sl 3 (rws api_Event.cells a1_5)), (7, V.ptr [12, 7] 0 0)]), (Tryd.f11.ntmps, [])], [12, 23, 16, 6]⟩) (.cov ⟨rfl, rfl, (upT_cons (.refl _) upT_nil), (upOb_cons rfl (.refl _) (upOb_cons rfl (.refl _) (upOb_cons rfl (.refl _) (upOb_cons rfl (.refl _) (upOb_cons rfl (.refl _) (upOb_cons rfl (.refl _) (upOb_tl rfl (by repeat first | exact Tn.here | refine Tn.cons rfl ?_) rfl))))))), (upOut_cons rfl upT_nil (upOut_cons rfl (upT_cons (.refl _) (upT_cons (.refl _) (upT_cons (.refl _) (upT_cons (.refl _) (upT_cons (.refl _) upT_nil))))) (upOut_cons rfl (upT_cons (.refl _) (upT_cons (.refl _) upT_nil)) (upOut_cons rfl upT_nil upOut_nil)))), (cl3 rfl (wi_cons rfl (wi_cons rfl (wi_cons rfl (wi_cons rfl (wi_cons rfl (wi_cons rfl (wi_tl rfl (by repeat first | exact Tn.here | refine Tn.cons rfl ?_) (fun _ => rfl) (sob rfl)))))))) rfl)⟩) ?_
                        refine SafeOps.giveP (M := [12, 18]) (fun n : Int => V.int .i64 n) trace_seen.cells vm_5732 ((gt a1_5 v8_5730).Id) e_6080 (trace_seen.mk (api_Task.mk e_6080.Task.Id e_6080.Task.Tenant e_6080.Task.Prog e_6080.Task.Pc e_6080.Task.Unit e_6080.Task.Keeps 7 e_6080.Task.Ran) (gt a1_5 v8_5730)) [12, 23, 16, 6, 17, 1] rfl rfl rfl rfl rfl (fun _ _ _ => rfl) (by repeat first | exact Tg.here | apply Tg.drop rfl rfl | apply Tg.cons rfl rfl) rfl rfl ?_
                        refine SafeOps.nil ?_
                        repeat (first | refine Safe.seq ?_ | refine Safe.skip ?_ | with_reducible refine thenQ.n ?_ | with_reducible refine blockQ.n ?_)
                        refine Safe.region ?_
                        refine SafeOps.quiet0 E_good rfl rfl rfl (v := V.bool ((e_6080.Task.State != 7) && (((gt a1_5 v8_5730).A) == 0))) (.fn rfl) ?_
                        refine SafeOps.quiet0 E_good rfl rfl rfl (v := V.bool ((e_6080.Task.State != 7) && (((gt a1_5 v8_5730).A) == 0))) (.fn rfl) ?_
                        refine SafeOps.nil ?_
                        repeat (first | refine Safe.seq ?_ | refine Safe.skip ?_ | with_reducible refine thenQ.n ?_ | with_reducible refine blockQ.n ?_)
                        refine Safe.ret ?_
                        repeat (first | with_reducible refine thenQ.r ?_ | with_reducible refine blockQ.r ?_)
                        refine inQ.gen (vs := [V.bool ((e_6080.Task.State != 7) && (((gt a1_5 v8_5730).A) == 0))]) (v := V.bool ((e_6080.Task.State != 7) && (((gt a1_5 v8_5730).A) == 0))) (.inr rfl) rfl (.tmp (v := V.bool ((e_6080.Task.State != 7) && (((gt a1_5 v8_5730).A) == 0))) rfl .nil) rfl ?_
                        exact SafeOps.got (HJ6077 (((e_6080.Task.State != 7) && (((gt a1_5 v8_5730).A) == 0)), v12_202_5731, mput vm_5732 ((gt a1_5 v8_5730).Id) (trace_seen.mk (api_Task.mk e_6080.Task.Id e_6080.Task.Tenant e_6080.Task.Prog e_6080.Task.Pc e_6080.Task.Unit e_6080.Task.Keeps 7 e_6080.Task.Ran) (gt a1_5 v8_5730))) h) (.cov ⟨rfl, rfl, (upT_cons (.refl _) upT_nil), (upOb_cons rfl (.refl _) (upOb_cons rfl (.refl _) (upOb_cons rfl (.refl _) (upOb_tl rfl (by repeat first | exact Tn.here | refine Tn.cons rfl ?_) rfl)))), (upOut_cons rfl (upT_cons (.refl _) (upT_cons (.refl _) (upT_cons (.refl _) (upT_cons (.refl _) (upT_cons (.refl _) upT_nil))))) (upOut_cons rfl (upT_cons (.refl _) (upT_cons (.refl _) upT_nil)) (upOut_cons rfl upT_nil upOut_nil))), (cl3 rfl (wi_cons rfl (wi_cons rfl (wi_cons rfl (wi_tl rfl (by repeat first | exact Tn.here | refine Tn.cons rfl ?_) (fun _ => rfl) nob)))) rfl)⟩)
                      · skip
                        refine Safe.condN rfl hc6252 ?_
                        repeat (first | refine Safe.seq ?_ | refine Safe.skip ?_ | with_reducible refine thenQ.n ?_ | with_reducible refine blockQ.n ?_)
                        refine Safe.region ?_
                        refine SafeOps.quiet0 E_good rfl rfl rfl (v := V.ptr [12, 23, 16, 6, 17, 1] 0 0) (.fn rfl) ?_
                        refine SafeOps.quiet0 E_good rfl rfl rfl (v := V.agg [V.int .i64 ((gt a1_5 v8_5730).Kind), V.int .i64 ((gt a1_5 v8_5730).Id), V.int .i64 ((gt a1_5 v8_5730).A)]) (.load rfl rfl (.box rfl rfl) rfl) ?_
                        refine SafeOps.quiet0 E_good rfl rfl rfl (v := V.ptr [12, 23, 16, 6, 17, 1] 0 0) (.fn rfl) ?_
                        refine SafeOps.quiet0 E_good rfl rfl rfl (v := V.ptr [12, 23, 16, 6, 17, 1] 0 11) (.fn rfl) ?_
                        refine SafeOps.store (z := Obj.box [V.int .i64 e_6080.Task.Id, V.int .i64 e_6080.Task.Tenant, V.int .i64 e_6080.Task.Prog, V.int .i64 e_6080.Task.Pc, V.int .i64 e_6080.Task.Unit, V.int .i64 e_6080.Task.Keeps.a0, V.int .i64 e_6080.Task.Keeps.a1, V.int .i64 e_6080.Task.Keeps.a2, V.int .i64 e_6080.Task.Keeps.a3, V.int .i64 e_6080.Task.State, V.int .i64 e_6080.Task.Ran, V.int .i64 ((gt a1_5 v8_5730).Kind), V.int .i64 ((gt a1_5 v8_5730).Id), V.int .i64 ((gt a1_5 v8_5730).A)]) E_good rfl rfl rfl rfl rfl rfl rfl (.boxM (c := 14) rfl rfl (Nat.le_of_ble_eq_true rfl) rfl) ?_
                        refine SafeOps.gets (τ := ⟨Tryd.f34.ntmps, [(9, V.bool ((e_6080.Task.State != 7) && (((gt a1_5 v8_5730).A) == 0)))], ([12, 7], Obj.box [V.ptr [12, 20] 0 0]) :: ([12, 20], Obj.box [V.sl 1 (rws (fun l => [V.sl 3 (rws api_Instr.cells l)]) a0_4), V.mapr [12, 18], V.ref [7000, 114, 12, 20, 2] 0 (rws (fun n => [V.int .i64 n]) v12_202_5731).length]) :: ([12, 23, 16, 2], Obj.box [V.int .i64 ((gt a1_5 v8_5730).Kind), V.int .i64 ((gt a1_5 v8_5730).Id), V.int .i64 ((gt a1_5 v8_5730).A)]) :: ([12, 23, 16, 6, 3], Obj.box [V.int .i64 ((gt a1_5 v8_5730).Kind), V.int .i64 ((gt a1_5 v8_5730).Id), V.int .i64 ((gt a1_5 v8_5730).A)]) :: ([12, 23, 16, 6, 17, 1], Obj.box [V.int .i64 e_6080.Task.Id, V.int .i64 e_6080.Task.Tenant, V.int .i64 e_6080.Task.Prog, V.int .i64 e_6080.Task.Pc, V.int .i64 e_6080.Task.Unit, V.int .i64 e_6080.Task.Keeps.a0, V.int .i64 e_6080.Task.Keeps.a1, V.int .i64 e_6080.Task.Keeps.a2, V.int .i64 e_6080.Task.Keeps.a3, V.int .i64 e_6080.Task.State, V.int .i64 e_6080.Task.Ran, V.int .i64 ((gt a1_5 v8_5730).Kind), V.int .i64 ((gt a1_5 v8_5730).Id), V.int .i64 ((gt a1_5 v8_5730).A)]) :: ([7000, 114, 12, 20, 2], Obj.rows 1 (rws (fun n => [V.int .i64 n]) v12_202_5731) false) :: (pmo [12, 18] (fun n : Int => V.int .i64 n) trace_seen.cells (some (mix ((gt a1_5 v8_5730).Id) vm_5732, [12, 23, 16, 6, 17, 1])) (mput vm_5732 ((gt a1_5 v8_5730).Id) e_6080)), [(Tryd.f33.ntmps, []), (Tryd.f32.ntmps, [(0, V.sl 3 (rws api_Event.cells a1_5)), (1, V.fn 33 [V.ptr [12, 7] 0 0]), (5, V.int .i64 v8_5730), (7, V.int .i64 (a1_5.length : Int)), (8, V.int .i64 v8_5730)]), (Tryd.f25.ntmps, [(1, V.sl 3 (rws api_Event.cells a1_5)), (7, V.ptr [12, 7] 0 0)]), (Tryd.f11.ntmps, [])], [12, 23, 16, 6]⟩) (.cov ⟨rfl, rfl, (upT_cons (.refl _) upT_nil), (upOb_cons rfl (.refl _) (upOb_cons rfl (.refl _) (upOb_cons rfl (.refl _) (upOb_cons rfl (.refl _) (upOb_cons rfl (.refl _) (upOb_cons rfl (.refl _) (upOb_tl rfl (by repeat first | exact Tn.here | refine Tn.cons rfl ?_) rfl))))))), (upOut_cons rfl upT_nil (upOut_cons rfl (upT_cons (.refl _) (upT_cons (.refl _) (upT_cons (.refl _) (upT_cons (.refl _) (upT_cons (.refl _) upT_nil))))) (upOut_cons rfl (upT_cons (.refl _) (upT_cons (.refl _) upT_nil)) (upOut_cons rfl upT_nil upOut_nil)))), (cl3 rfl (wi_cons rfl (wi_cons rfl (wi_cons rfl (wi_cons rfl (wi_cons rfl (wi_cons rfl (wi_tl rfl (by repeat first | exact Tn.here | refine Tn.cons rfl ?_) (fun _ => rfl) (sob rfl)))))))) rfl)⟩) ?_
                        refine SafeOps.giveP (M := [12, 18]) (fun n : Int => V.int .i64 n) trace_seen.cells vm_5732 ((gt a1_5 v8_5730).Id) e_6080 (trace_seen.mk e_6080.Task (gt a1_5 v8_5730)) [12, 23, 16, 6, 17, 1] rfl rfl rfl rfl rfl (fun _ _ _ => rfl) (by repeat first | exact Tg.here | apply Tg.drop rfl rfl | apply Tg.cons rfl rfl) rfl rfl ?_
                        refine SafeOps.nil ?_
                        repeat (first | refine Safe.seq ?_ | refine Safe.skip ?_ | with_reducible refine thenQ.n ?_ | with_reducible refine blockQ.n ?_)
                        refine Safe.region ?_
                        refine SafeOps.quiet0 E_good rfl rfl rfl (v := V.bool ((e_6080.Task.State != 7) && (((gt a1_5 v8_5730).A) == 0))) (.fn rfl) ?_
                        refine SafeOps.quiet0 E_good rfl rfl rfl (v := V.bool ((e_6080.Task.State != 7) && (((gt a1_5 v8_5730).A) == 0))) (.fn rfl) ?_
                        refine SafeOps.nil ?_
                        repeat (first | refine Safe.seq ?_ | refine Safe.skip ?_ | with_reducible refine thenQ.n ?_ | with_reducible refine blockQ.n ?_)
                        refine Safe.ret ?_
                        repeat (first | with_reducible refine thenQ.r ?_ | with_reducible refine blockQ.r ?_)
                        refine inQ.gen (vs := [V.bool ((e_6080.Task.State != 7) && (((gt a1_5 v8_5730).A) == 0))]) (v := V.bool ((e_6080.Task.State != 7) && (((gt a1_5 v8_5730).A) == 0))) (.inr rfl) rfl (.tmp (v := V.bool ((e_6080.Task.State != 7) && (((gt a1_5 v8_5730).A) == 0))) rfl .nil) rfl ?_
                        exact SafeOps.got (HJ6077 (((e_6080.Task.State != 7) && (((gt a1_5 v8_5730).A) == 0)), v12_202_5731, mput vm_5732 ((gt a1_5 v8_5730).Id) (trace_seen.mk e_6080.Task (gt a1_5 v8_5730))) h) (.cov ⟨rfl, rfl, (upT_cons (.refl _) upT_nil), (upOb_cons rfl (.refl _) (upOb_cons rfl (.refl _) (upOb_cons rfl (.refl _) (upOb_tl rfl (by repeat first | exact Tn.here | refine Tn.cons rfl ?_) rfl)))), (upOut_cons rfl (upT_cons (.refl _) (upT_cons (.refl _) (upT_cons (.refl _) (upT_cons (.refl _) (upT_cons (.refl _) upT_nil))))) (upOut_cons rfl (upT_cons (.refl _) (upT_cons (.refl _) upT_nil)) (upOut_cons rfl upT_nil upOut_nil))), (cl3 rfl (wi_cons rfl (wi_cons rfl (wi_cons rfl (wi_tl rfl (by repeat first | exact Tn.here | refine Tn.cons rfl ?_) (fun _ => rfl) nob)))) rfl)⟩)
                    · skip
                      refine Safe.condN rfl hc6250 ?_
                      repeat (first | refine Safe.seq ?_ | refine Safe.skip ?_ | with_reducible refine thenQ.n ?_ | with_reducible refine blockQ.n ?_)
                      refine Safe.region ?_
                      refine SafeOps.quiet0 E_good rfl rfl rfl (v := V.ptr [12, 23, 16, 6, 17, 1] 0 0) (.fn rfl) ?_
                      refine SafeOps.quiet0 E_good rfl rfl rfl (v := V.agg [V.int .i64 ((gt a1_5 v8_5730).Kind), V.int .i64 ((gt a1_5 v8_5730).Id), V.int .i64 ((gt a1_5 v8_5730).A)]) (.load rfl rfl (.box rfl rfl) rfl) ?_
                      refine SafeOps.quiet0 E_good rfl rfl rfl (v := V.ptr [12, 23, 16, 6, 17, 1] 0 0) (.fn rfl) ?_
                      refine SafeOps.quiet0 E_good rfl rfl rfl (v := V.ptr [12, 23, 16, 6, 17, 1] 0 11) (.fn rfl) ?_
                      refine SafeOps.store (z := Obj.box [V.int .i64 e_6080.Task.Id, V.int .i64 e_6080.Task.Tenant, V.int .i64 e_6080.Task.Prog, V.int .i64 e_6080.Task.Pc, V.int .i64 e_6080.Task.Unit, V.int .i64 e_6080.Task.Keeps.a0, V.int .i64 e_6080.Task.Keeps.a1, V.int .i64 e_6080.Task.Keeps.a2, V.int .i64 e_6080.Task.Keeps.a3, V.int .i64 e_6080.Task.State, V.int .i64 e_6080.Task.Ran, V.int .i64 ((gt a1_5 v8_5730).Kind), V.int .i64 ((gt a1_5 v8_5730).Id), V.int .i64 ((gt a1_5 v8_5730).A)]) E_good rfl rfl rfl rfl rfl rfl rfl (.boxM (c := 14) rfl rfl (Nat.le_of_ble_eq_true rfl) rfl) ?_
                      refine SafeOps.gets (τ := ⟨Tryd.f34.ntmps, [(9, V.bool false)], ([12, 7], Obj.box [V.ptr [12, 20] 0 0]) :: ([12, 20], Obj.box [V.sl 1 (rws (fun l => [V.sl 3 (rws api_Instr.cells l)]) a0_4), V.mapr [12, 18], V.ref [7000, 114, 12, 20, 2] 0 (rws (fun n => [V.int .i64 n]) v12_202_5731).length]) :: ([12, 23, 16, 2], Obj.box [V.int .i64 ((gt a1_5 v8_5730).Kind), V.int .i64 ((gt a1_5 v8_5730).Id), V.int .i64 ((gt a1_5 v8_5730).A)]) :: ([12, 23, 16, 6, 3], Obj.box [V.int .i64 ((gt a1_5 v8_5730).Kind), V.int .i64 ((gt a1_5 v8_5730).Id), V.int .i64 ((gt a1_5 v8_5730).A)]) :: ([12, 23, 16, 6, 17, 1], Obj.box [V.int .i64 e_6080.Task.Id, V.int .i64 e_6080.Task.Tenant, V.int .i64 e_6080.Task.Prog, V.int .i64 e_6080.Task.Pc, V.int .i64 e_6080.Task.Unit, V.int .i64 e_6080.Task.Keeps.a0, V.int .i64 e_6080.Task.Keeps.a1, V.int .i64 e_6080.Task.Keeps.a2, V.int .i64 e_6080.Task.Keeps.a3, V.int .i64 e_6080.Task.State, V.int .i64 e_6080.Task.Ran, V.int .i64 ((gt a1_5 v8_5730).Kind), V.int .i64 ((gt a1_5 v8_5730).Id), V.int .i64 ((gt a1_5 v8_5730).A)]) :: ([7000, 114, 12, 20, 2], Obj.rows 1 (rws (fun n => [V.int .i64 n]) v12_202_5731) false) :: (pmo [12, 18] (fun n : Int => V.int .i64 n) trace_seen.cells (some (mix ((gt a1_5 v8_5730).Id) vm_5732, [12, 23, 16, 6, 17, 1])) (mput vm_5732 ((gt a1_5 v8_5730).Id) e_6080)), [(Tryd.f33.ntmps, []), (Tryd.f32.ntmps, [(0, V.sl 3 (rws api_Event.cells a1_5)), (1, V.fn 33 [V.ptr [12, 7] 0 0]), (5, V.int .i64 v8_5730), (7, V.int .i64 (a1_5.length : Int)), (8, V.int .i64 v8_5730)]), (Tryd.f25.ntmps, [(1, V.sl 3 (rws api_Event.cells a1_5)), (7, V.ptr [12, 7] 0 0)]), (Tryd.f11.ntmps, [])], [12, 23, 16, 6]⟩) (.cov ⟨rfl, rfl, (upT_cons (.refl _) upT_nil), (upOb_cons rfl (.refl _) (upOb_cons rfl (.refl _) (upOb_cons rfl (.refl _) (upOb_cons rfl (.refl _) (upOb_cons rfl (.refl _) (upOb_cons rfl (.refl _) (upOb_tl rfl (by repeat first | exact Tn.here | refine Tn.cons rfl ?_) rfl))))))), (upOut_cons rfl upT_nil (upOut_cons rfl (upT_cons (.refl _) (upT_cons (.refl _) (upT_cons (.refl _) (upT_cons (.refl _) (upT_cons (.refl _) upT_nil))))) (upOut_cons rfl (upT_cons (.refl _) (upT_cons (.refl _) upT_nil)) (upOut_cons rfl upT_nil upOut_nil)))), (cl3 rfl (wi_cons rfl (wi_cons rfl (wi_cons rfl (wi_cons rfl (wi_cons rfl (wi_cons rfl (wi_tl rfl (by repeat first | exact Tn.here | refine Tn.cons rfl ?_) (fun _ => rfl) (sob rfl)))))))) rfl)⟩) ?_
                      refine SafeOps.giveP (M := [12, 18]) (fun n : Int => V.int .i64 n) trace_seen.cells vm_5732 ((gt a1_5 v8_5730).Id) e_6080 (trace_seen.mk e_6080.Task (gt a1_5 v8_5730)) [12, 23, 16, 6, 17, 1] rfl rfl rfl rfl rfl (fun _ _ _ => rfl) (by repeat first | exact Tg.here | apply Tg.drop rfl rfl | apply Tg.cons rfl rfl) rfl rfl ?_
                      refine SafeOps.nil ?_
                      repeat (first | refine Safe.seq ?_ | refine Safe.skip ?_ | with_reducible refine thenQ.n ?_ | with_reducible refine blockQ.n ?_)
                      refine Safe.region ?_
                      refine SafeOps.quiet0 E_good rfl rfl rfl (v := V.bool false) (.fn rfl) ?_
                      refine SafeOps.quiet0 E_good rfl rfl rfl (v := V.bool false) (.fn rfl) ?_
                      refine SafeOps.nil ?_
                      repeat (first | refine Safe.seq ?_ | refine Safe.skip ?_ | with_reducible refine thenQ.n ?_ | with_reducible refine blockQ.n ?_)
                      refine Safe.ret ?_
                      repeat (first | with_reducible refine thenQ.r ?_ | with_reducible refine blockQ.r ?_)
                      refine inQ.gen (vs := [V.bool false]) (v := V.bool false) (.inr rfl) rfl (.tmp (v := V.bool false) rfl .nil) rfl ?_
                      exact SafeOps.got (HJ6077 (false, v12_202_5731, mput vm_5732 ((gt a1_5 v8_5730).Id) (trace_seen.mk e_6080.Task (gt a1_5 v8_5730))) h) (.cov ⟨rfl, rfl, (upT_cons (.refl _) upT_nil), (upOb_cons rfl (.refl _) (upOb_cons rfl (.refl _) (upOb_cons rfl (.refl _) (upOb_tl rfl (by repeat first | exact Tn.here | refine Tn.cons rfl ?_) rfl)))), (upOut_cons rfl (upT_cons (.refl _) (upT_cons (.refl _) (upT_cons (.refl _) (upT_cons (.refl _) (upT_cons (.refl _) upT_nil))))) (upOut_cons rfl (upT_cons (.refl _) (upT_cons (.refl _) upT_nil)) (upOut_cons rfl upT_nil upOut_nil))), (cl3 rfl (wi_cons rfl (wi_cons rfl (wi_cons rfl (wi_tl rfl (by repeat first | exact Tn.here | refine Tn.cons rfl ?_) (fun _ => rfl) nob)))) rfl)⟩)
      · skip
        refine Safe.condN rfl hc5734 ?_
        repeat (first | refine Safe.seq ?_ | refine Safe.skip ?_ | with_reducible refine thenQ.n ?_ | with_reducible refine blockQ.n ?_)
        refine Safe.exit ?_
        repeat (first | with_reducible refine thenQ.e ?_ | with_reducible refine blockQ.x rfl ?_ | with_reducible refine blockQ.y rfl ?_)
        replace h := inr_out h hr5733
        repeat (first | refine Safe.seq ?_ | refine Safe.skip ?_ | with_reducible refine thenQ.n ?_ | with_reducible refine blockQ.n ?_)
        refine Safe.region ?_
        refine SafeOps.quiet0 E_good rfl rfl rfl (v := V.int .i64 (-1)) (.fn rfl) ?_
        refine SafeOps.nil ?_
        repeat (first | refine Safe.seq ?_ | refine Safe.skip ?_ | with_reducible refine thenQ.n ?_ | with_reducible refine blockQ.n ?_)
        refine Safe.ret ?_
        repeat (first | with_reducible refine thenQ.r ?_ | with_reducible refine blockQ.r ?_)
        refine inQ.gen (vs := [V.int .i64 (-1)]) (v := V.int .i64 (-1)) (.inr rfl) rfl (.tmp (v := V.int .i64 (-1)) rfl .nil) rfl ?_
        exact SafeOps.got (HJ5110 (-1, v12_202_5731, vm_5732) h) (.cov ⟨rfl, rfl, (upT_cons (.refl _) (upT_cons (.refl _) (upT_cons (.refl _) upT_nil))), (upOb_cons rfl (.refl _) (upOb_cons rfl (.refl _) (upOb_cons rfl (.refl _) (upOb_tl rfl (by repeat first | exact Tn.here | refine Tn.cons rfl ?_) rfl)))), (upOut_cons rfl upT_nil upOut_nil), (cl3 rfl (wi_cons rfl (wi_cons rfl (wi_cons rfl (wi_tl rfl (by repeat first | exact Tn.here | refine Tn.cons rfl ?_) (fun _ => rfl) nob)))) rfl)⟩)
end Go.Proofs.YtpkegoikocfchaaDoor
