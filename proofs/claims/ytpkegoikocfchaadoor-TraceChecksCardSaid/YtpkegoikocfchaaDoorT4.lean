/- Helper lemmas for the claim's theorem: an abstract machine over the model, proved sound; no condition beyond each lemma's own. -/
import Derived.Test.YtpkegoikocfchaaDoorT3
set_option linter.unusedVariables false
set_option linter.unusedSimpArgs false
set_option linter.unnecessarySimpa false
set_option linter.unusedSectionVars false
namespace Go.Proofs.YtpkegoikocfchaaDoor
open Go Go.AM
set_option maxRecDepth 100000
set_option maxHeartbeats 1000000
set_option linter.unusedVariables false
set_option linter.unusedSimpArgs false
noncomputable def go_trace_Tasks_s43 (v194 : List Int) : ((List api_Task) × Int × (List (Int × trace_seen))) → Option (((List api_Task) × Int × (List (Int × trace_seen))) ⊕ ((List api_Task) × Int))
 | (v195, v196, v197) =>
  if (decide (v196 < (v194.length : Int))) = true then
   if 0 ≤ v196 ∧ v196 < (v194.length : Int) then
    mcase (mget v197 (gt v194 v196))
     (
      none)
     (fun e198 =>
      if few (v195 ++ [e198.Task]).length then
       nextO (v195 ++ [e198.Task], IntKind.i64.wrap (v196 + 1), mput v197 (gt v194 v196) e198)
      else none)
   else none
  else
   inrO (
    some (v195, 0))

noncomputable def go_trace_Tasks_j42 (a199 : List api_Event) (v194 : List Int) (v200 : Int) (v201 : List (Int × trace_seen)) : Option ((List api_Task) × Int) :=
 if (decide (v200 < (a199.length : Int))) = true then
  some ([], 2)
 else
  whileO (go_trace_Tasks_s43 v194) ([], 0, v201)

noncomputable def go_trace_Tasks_j41 (a199 : List api_Event) (v202 : Int) (v194 : List Int) (v203 : List (Int × trace_seen)) : Option ((List api_Task) × Int) :=
 if (decide (v202 < 0)) = true then
  go_trace_Tasks_j42 a199 v194 (a199.length : Int) v203
 else
  go_trace_Tasks_j42 a199 v194 v202 v203

noncomputable def go_trace_Tasks_j62 (a199 : List api_Event) (v204 : Int) (v205 : Bool) (v206 : List Int) (v207 : List (Int × trace_seen)) : Option ((Int × (List Int) × (List (Int × trace_seen))) ⊕ ((List api_Task) × Int)) :=
 if (!v205) = true then
  inrO (
   go_trace_Tasks_j41 a199 v204 v206 v207)
 else
  nextO (IntKind.i64.wrap (v204 + 1), v206, v207)

noncomputable def go_trace_Tasks_j63 (a199 : List api_Event) (v204 : Int) (v208 : Bool) (v209 : List Int) (v210 : List (Int × trace_seen)) : Option ((Int × (List Int) × (List (Int × trace_seen))) ⊕ ((List api_Task) × Int)) :=
 go_trace_Tasks_j62 a199 v204 v208 v209 v210

noncomputable def go_trace_Tasks_s58 (a211 : List (List api_Instr)) (a199 : List api_Event) : (Int × (List Int) × (List (Int × trace_seen))) → Option ((Int × (List Int) × (List (Int × trace_seen))) ⊕ ((List api_Task) × Int))
 | (v204, v212, v213) =>
  if (decide (v204 < (a199.length : Int))) = true then
   if 0 ≤ v204 ∧ v204 < (a199.length : Int) then
    mcase (mget v213 ((gt a199 v204).Id))
     (
      (go_life_New ((gt a199 v204).Id) 0 ((gt a199 v204).A)).bind fun (x214, x215) =>
      if (x215 != 0) = true then
       go_trace_Tasks_j63 a199 v204 false v212 v213
      else
       if (((gt a199 v204).Kind) != 1) = true then
        go_trace_Tasks_j63 a199 v204 false v212 v213
       else
        if (decide (((gt a199 v204).A) ≥ (a211.length : Int))) = true then
         go_trace_Tasks_j63 a199 v204 false v212 v213
        else
         if few (v212 ++ [(gt a199 v204).Id]).length then
          go_trace_Tasks_j63 a199 v204 true (v212 ++ [(gt a199 v204).Id]) (mput v213 ((gt a199 v204).Id) (trace_seen.mk x214 (gt a199 v204)))
         else none)
     (fun e216 =>
      if (((gt a199 v204).Kind) == 2) = true then
       if 0 ≤ e216.Task.Prog ∧ e216.Task.Prog < (a211.length : Int) then
        (go_step_Next e216.Task (gt a211 e216.Task.Prog)).bind fun (x217, x218) =>
        if ((((x218 != 0) || (e216.Task.State != 1)) || (x217.Op != ((gt a199 v204).A))) || ((e216.last.Kind == 2) && (e216.last.A == 9))) = true then
         go_trace_Tasks_j62 a199 v204 false v212 (mput v213 ((gt a199 v204).Id) (trace_seen.mk e216.Task (gt a199 v204)))
        else
         (go_life_Move e216.Task 2).bind fun (x219, x220) =>
         if (x220 != 0) = true then
          go_trace_Tasks_j62 a199 v204 false v212 (mput v213 ((gt a199 v204).Id) (trace_seen.mk e216.Task (gt a199 v204)))
         else
          (go_step_Do x219 (gt a211 e216.Task.Prog)).bind fun (x221, x222, x223) =>
          if (x223 != 0) = true then
           go_trace_Tasks_j62 a199 v204 false v212 (mput v213 ((gt a199 v204).Id) (trace_seen.mk e216.Task (gt a199 v204)))
          else
           (go_life_Move x221 1).bind fun (x224, x225) =>
           go_trace_Tasks_j62 a199 v204 (x225 == 0) v212 (mput v213 ((gt a199 v204).Id) (trace_seen.mk x224 (gt a199 v204)))
       else none
      else
       if (((gt a199 v204).Kind) == 3) = true then
        if (e216.Task.State == 1) = true then
         if (e216.last.Kind == 2) = true then
          if (((gt a199 v204).A) != 0) = true then
           if (((gt a199 v204).A) == (go_trace_Held e216.last.A)) = true then
            go_trace_Tasks_j62 a199 v204 (((gt a199 v204).A) == (go_trace_Held e216.last.A)) v212 (mput v213 ((gt a199 v204).Id) (trace_seen.mk (api_Task.mk e216.Task.Id e216.Task.Tenant e216.Task.Prog e216.Task.Pc e216.Task.Unit e216.Task.Keeps ((gt a199 v204).A) e216.Task.Ran) (gt a199 v204)))
           else
            go_trace_Tasks_j62 a199 v204 (((gt a199 v204).A) == (go_trace_Held e216.last.A)) v212 (mput v213 ((gt a199 v204).Id) (trace_seen.mk e216.Task (gt a199 v204)))
          else
           go_trace_Tasks_j62 a199 v204 false v212 (mput v213 ((gt a199 v204).Id) (trace_seen.mk e216.Task (gt a199 v204)))
         else
          go_trace_Tasks_j62 a199 v204 false v212 (mput v213 ((gt a199 v204).Id) (trace_seen.mk e216.Task (gt a199 v204)))
        else
         go_trace_Tasks_j62 a199 v204 false v212 (mput v213 ((gt a199 v204).Id) (trace_seen.mk e216.Task (gt a199 v204)))
       else
        if (((gt a199 v204).Kind) == 4) = true then
         if ((go_life_Waits e216.Task.State) && (((gt a199 v204).A) == 0)) = true then
          go_trace_Tasks_j62 a199 v204 ((go_life_Waits e216.Task.State) && (((gt a199 v204).A) == 0)) v212 (mput v213 ((gt a199 v204).Id) (trace_seen.mk (api_Task.mk e216.Task.Id e216.Task.Tenant e216.Task.Prog e216.Task.Pc e216.Task.Unit e216.Task.Keeps 1 e216.Task.Ran) (gt a199 v204)))
         else
          go_trace_Tasks_j62 a199 v204 ((go_life_Waits e216.Task.State) && (((gt a199 v204).A) == 0)) v212 (mput v213 ((gt a199 v204).Id) (trace_seen.mk e216.Task (gt a199 v204)))
        else
         if (((gt a199 v204).Kind) == 5) = true then
          if ((((e216.Task.State == 1) && (e216.last.Kind == 2)) && (e216.last.A == 9)) && (((gt a199 v204).A) == 0)) = true then
           go_trace_Tasks_j62 a199 v204 ((((e216.Task.State == 1) && (e216.last.Kind == 2)) && (e216.last.A == 9)) && (((gt a199 v204).A) == 0)) v212 (mput v213 ((gt a199 v204).Id) (trace_seen.mk (api_Task.mk e216.Task.Id e216.Task.Tenant e216.Task.Prog e216.Task.Pc e216.Task.Unit e216.Task.Keeps 7 e216.Task.Ran) (gt a199 v204)))
          else
           go_trace_Tasks_j62 a199 v204 ((((e216.Task.State == 1) && (e216.last.Kind == 2)) && (e216.last.A == 9)) && (((gt a199 v204).A) == 0)) v212 (mput v213 ((gt a199 v204).Id) (trace_seen.mk e216.Task (gt a199 v204)))
         else
          if (((gt a199 v204).Kind) == 6) = true then
           if ((e216.Task.State != 7) && (((gt a199 v204).A) == 0)) = true then
            go_trace_Tasks_j62 a199 v204 ((e216.Task.State != 7) && (((gt a199 v204).A) == 0)) v212 (mput v213 ((gt a199 v204).Id) (trace_seen.mk (api_Task.mk e216.Task.Id e216.Task.Tenant e216.Task.Prog e216.Task.Pc e216.Task.Unit e216.Task.Keeps 7 e216.Task.Ran) (gt a199 v204)))
           else
            go_trace_Tasks_j62 a199 v204 ((e216.Task.State != 7) && (((gt a199 v204).A) == 0)) v212 (mput v213 ((gt a199 v204).Id) (trace_seen.mk e216.Task (gt a199 v204)))
          else
           go_trace_Tasks_j62 a199 v204 false v212 (mput v213 ((gt a199 v204).Id) (trace_seen.mk e216.Task (gt a199 v204))))
   else none
  else
   inrO (
    go_trace_Tasks_j41 a199 (-1) v212 v213)

noncomputable def go_trace_Tasks (a211 : List (List api_Instr)) (a199 : List api_Event) : Option ((List api_Task) × Int) :=
 (go_code_CheckAll a211).bind fun x226 =>
 if ((x226 != 0) || (decide ((a199.length : Int) > 65536))) = true then
  some ([], 1)
 else
  whileO (go_trace_Tasks_s58 a211 a199) (0, [], [])

theorem go_trace_Tasks_sc (a211 : List (List api_Instr)) (a199 : List api_Event) (r : (List api_Task) × Int) (h : go_trace_Tasks a211 a199 = some r) : SC Tryd.prog gl 15 [V.sl 1 (rws (fun l => [V.sl 3 (rws api_Instr.cells l)]) a211), V.sl 3 (rws api_Event.cells a199)] (V.tup [V.own 11 (rws api_Task.cells r.1), I r.2]) := by
 rw [go_trace_Tasks] at h
 refine SC.of E_good Tryd.func15 rfl (fun _ _ => Tryd.call15 _ _) rfl ?_
 repeat first|apply sq|apply sk|with_reducible first|apply tn|apply bn
 refine Safe.region ?_
 refine Qf E_good ?_
 refine Qf E_good ?_
 refine SafeOps.nil ?_
 repeat first|apply sq|apply sk|with_reducible first|apply tn|apply bn
 refine Safe.region ?_
 refine Qf E_good ?_
 refine Qf E_good ?_
 refine SafeOps.inline E_good rfl rfl rfl rfl rfl Tryd.func25 rfl (fun _ _ => Tryd.call25 _ _) rfl ?_
 repeat first|apply sq|apply sk|with_reducible first|apply tn|apply bn
 refine Safe.region ?_
 refine Qf E_good ?_
 refine Qf E_good ?_
 refine Qf E_good ?_
 refine SafeOps.nil ?_
 repeat first|apply sq|apply sk|with_reducible first|apply tn|apply bn
 refine Safe.region ?_
 refine Qf E_good ?_
 refine bindG h ?_
 intro x226 he22706 h
 refine Q0 E_good rfl (v := I x226) (.callP rfl rfl (go_code_CheckAll_sc a211 _ he22706) rfl) ?_
 refine Q0 E_good rfl (v := V.bool (x226 != 0)) (.fn rfl) ?_
 refine Qf E_good ?_
 refine SafeOps.bjoin 4 16 (b := ((x226 != 0) || (decide ((a199.length : Int) > 65536)))) (b1 := true) (b0 := decide ((a199.length : Int) > 65536)) (fun hc22707 K => ?_) (fun hc22707 K => ?_) bj_or ?_
 ·skip
  refine sF hc22707 ?_
  refine sF hc22707 ?_
  refine sF hc22707 ?_
  refine Q0 E_good rfl (v := V.bool true) (.pickK rfl hc22707 rfl) ?_
  exact SafeOps.drop' 4 rfl rfl rfl K
 ·skip
  refine qF E_good hc22707 (.fn rfl) ?_
  refine qF E_good hc22707 (v := I (a199.length : Int)) (.fnE rfl lenE) ?_
  refine qF E_good hc22707 (v := V.bool (decide ((a199.length : Int) > 65536))) (.fn rfl) ?_
  refine Q0 E_good rfl (v := V.bool (decide ((a199.length : Int) > 65536))) (.pickK rfl hc22707 rfl) ?_
  exact SafeOps.drop' 4 rfl rfl rfl K
 refine SafeOps.nil ?_
 repeat first|apply sq|apply sk|with_reducible first|apply tn|apply bn
 refine ifG h (fun hc22708 h => ?_) (fun hc22708 h => ?_)
 ·skip
  refine Safe.condK rfl hc22708 ?_
  repeat first|apply sq|apply sk|with_reducible first|apply tn|apply bn
  refine Safe.region ?_
  refine Qf E_good ?_
  refine Qf E_good ?_
  refine Qf E_good ?_
  refine SafeOps.nil ?_
  repeat first|apply sq|apply sk|with_reducible first|apply tn|apply bn
  refine Safe.ret ?_
  repeat (first | with_reducible refine thenQ.r ?_ | with_reducible refine blockQ.r ?_)
  refine inQ.gen (vs := [V.nilp, I 0, I 1]) (v := V.tup [V.nilp, I 0, I 1]) (.inr rfl) rfl (.tmp (v := V.nilp) rfl (.tmp (v := I 0) rfl (.tmp (v := I 1) rfl .nil))) rfl ?_
  refine Qf E_good ?_
  refine Qf E_good ?_
  refine Qf E_good ?_
  refine Qf E_good ?_
  refine Qf E_good ?_
  refine Qf E_good ?_
  refine Qf E_good ?_
  refine SafeOps.nil ?_
  repeat first|apply sq|apply sk|with_reducible first|apply tn|apply bn
  refine Safe.block ?_
  repeat first|apply sq|apply sk|with_reducible first|apply tn|apply bn
  refine Safe.region ?_
  refine Qf E_good ?_
  refine Q0 E_good rfl (v := V.bool true) (.fn rfl) ?_
  refine Qf E_good ?_
  refine SafeOps.nil ?_
  repeat first|apply sq|apply sk|with_reducible first|apply tn|apply bn
  refine Safe.condK rfl rfl ?_
  repeat first|apply sq|apply sk|with_reducible first|apply tn|apply bn
  refine Safe.region ?_
  refine Qf E_good ?_
  refine Qf E_good ?_
  refine Qf E_good ?_
  refine SafeOps.nil ?_
  repeat first|apply sq|apply sk|with_reducible first|apply tn|apply bn
  refine Safe.ret ?_
  repeat (first | with_reducible refine thenQ.r ?_ | with_reducible refine blockQ.r ?_)
  obtain rfl := Option.some.inj h
  exact retQ.gen (vs := [V.nils, I 1]) rfl (.tmp rfl (.tmp rfl .nil)) (by exact (.tup (.cons (.nils _) (.cons (.free rfl) .nil)))) (by simp) (.inr rfl)
 ·skip
  refine Safe.condN rfl hc22708 ?_
  repeat first|apply sq|apply sk|with_reducible first|apply tn|apply bn
  refine Safe.region ?_
  refine Qf E_good ?_
  refine SafeOps.quiet1 E_good rfl rfl rfl .mkMap rfl ?_
  refine Q0 E_good rfl (v := V.agg [V.sl 1 (rws (fun l => [V.sl 3 (rws api_Instr.cells l)]) a211), V.mapr [14, 18], V.nils]) (.fn rfl) ?_
  refine SafeOps.quiet1 E_good rfl rfl rfl (.box rfl rfl) rfl ?_
  refine SafeOps.quiet1 E_good rfl rfl rfl (.alloc rfl rfl) rfl ?_
  refine SafeOps.store (z := Obj.box [V.ptr [14, 20] 0 0]) E_good rfl rfl rfl rfl rfl rfl rfl (.boxM (c := 1) rfl rfl (Nat.le_of_ble_eq_true rfl) rfl) ?_
  refine SafeOps.nil ?_
  repeat first|apply sq|apply sk|with_reducible first|apply tn|apply bn
  refine Safe.toPm [14, 18] rfl ?_
  refine Safe.gets (τ := ⟨Tryd.f25.ntmps, [(1, V.sl 3 (rws api_Event.cells a199)), (7, V.ptr [14, 7] 0 0)], ([14, 7], Obj.box [V.ptr [14, 20] 0 0]) :: ([14, 20], Obj.box [V.sl 1 (rws (fun l => [V.sl 3 (rws api_Instr.cells l)]) a211), V.mapr [14, 18], V.nils]) :: (pmo [14, 18] (fun n : Int => I n) trace_seen.cells none []), [(Tryd.f15.ntmps, [(1, V.sl 3 (rws api_Event.cells a199)), (4, V.nils)])], [14]⟩) (.cov ⟨rfl, rfl, (ut (ut upT_nil)), (uo (uo (uo upOb_nil))), (upOut_cons rfl (ut (ut upT_nil)) upOut_nil), (cl3 rfl (wi_cons rfl (wi_cons rfl (wi_tl rfl (by repeat first | exact Tn.here | refine Tn.cons rfl ?_) (fun _ => rfl) nob))) rfl)⟩) ?_
  repeat first|apply sq|apply sk|with_reducible first|apply tn|apply bn
  refine Safe.region ?_
  refine Qf E_good ?_
  refine Q0 E_good rfl (v := V.fn 33 [V.ptr [14, 7] 0 0]) (.fn rfl) ?_
  refine SafeOps.joinT 1 (fun ((v202, v194, v203) : Int × (List Int) × (List (Int × trace_seen))) => go_trace_Tasks_j41 a199 v202 v194 v203 = some r) (fun ((v202, v194, v203) : Int × (List Int) × (List (Int × trace_seen))) => ⟨Tryd.f25.ntmps, [(1, V.sl 3 (rws api_Event.cells a199)), (7, V.ptr [14, 7] 0 0), (23, I v202)], ([14, 7], Obj.box [V.ptr [14, 20] 0 0]) :: ([14, 20], Obj.box [V.sl 1 (rws (fun l => [V.sl 3 (rws api_Instr.cells l)]) a211), V.mapr [14, 18], V.ref [7000, 114, 14, 20, 2] 0 (rws (fun n => [I n]) v194).length]) :: ([7000, 114, 14, 20, 2], Obj.rows 1 (rws (fun n => [I n]) v194) false) :: (pmo [14, 18] (fun n : Int => I n) trace_seen.cells none v203), [(Tryd.f15.ntmps, [(1, V.sl 3 (rws api_Event.cells a199)), (4, V.nils)])], [14]⟩) ?_ (fun HJ23676 => ?_)
  ·rintro ⟨v202, v194, v203⟩ h
   replace h : go_trace_Tasks_j41 a199 v202 v194 v203 = some r := h
   rw [go_trace_Tasks_j41] at h
   refine Qf E_good ?_
   refine SafeOps.nil ?_
   repeat first|apply sq|apply sk|with_reducible first|apply tn|apply bn
   refine Safe.region ?_
   refine Qf E_good ?_
   refine Q0 E_good rfl (v := V.bool (decide (v202 < 0))) (.fn rfl) ?_
   refine SafeOps.nil ?_
   repeat first|apply sq|apply sk|with_reducible first|apply tn|apply bn
   refine Safe.joinT (fun ((v200, v201) : Int × (List (Int × trace_seen))) => go_trace_Tasks_j42 a199 v194 v200 v201 = some r) (fun ((v200, v201) : Int × (List (Int × trace_seen))) => ⟨Tryd.f25.ntmps, [(7, V.ptr [14, 7] 0 0), (8, I v200)], ([14, 7], Obj.box [V.ptr [14, 20] 0 0]) :: ([14, 20], Obj.box [V.sl 1 (rws (fun l => [V.sl 3 (rws api_Instr.cells l)]) a211), V.mapr [14, 18], V.ref [7000, 114, 14, 20, 2] 0 (rws (fun n => [I n]) v194).length]) :: ([7000, 114, 14, 20, 2], Obj.rows 1 (rws (fun n => [I n]) v194) false) :: (pmo [14, 18] (fun n : Int => I n) trace_seen.cells none v201), [(Tryd.f15.ntmps, [(1, V.sl 3 (rws api_Event.cells a199)), (4, V.nils)])], [14]⟩) ?_ (fun HJ23679 => ?_)
   ·rintro ⟨v200, v201⟩ h
    replace h : go_trace_Tasks_j42 a199 v194 v200 v201 = some r := h
    rw [go_trace_Tasks_j42] at h
    repeat first|apply sq|apply sk|with_reducible first|apply tn|apply bn
    refine Safe.region ?_
    refine Q0 E_good rfl (v := V.ptr [14, 20] 0 0) (.load rfl rfl (.box rfl rfl) rfl) ?_
    refine Qf E_good ?_
    refine Qf E_good ?_
    refine Qf E_good ?_
    refine Qf E_good ?_
    refine SafeOps.nil ?_
    repeat first|apply sq|apply sk|with_reducible first|apply tn|apply bn
    refine Safe.ret ?_
    repeat (first | with_reducible refine thenQ.r ?_ | with_reducible refine blockQ.r ?_)
    refine inQ.gen (vs := [V.ptr [14, 20] 0 0, I v200, I 0]) (v := V.tup [V.ptr [14, 20] 0 0, I v200, I 0]) (.inr rfl) rfl (.tmp (v := V.ptr [14, 20] 0 0) rfl (.tmp (v := I v200) rfl (.tmp (v := I 0) rfl .nil))) rfl ?_
    refine Qf E_good ?_
    refine Qf E_good ?_
    refine Qf E_good ?_
    refine Qf E_good ?_
    refine Qf E_good ?_
    refine Qf E_good ?_
    refine Qf E_good ?_
    refine SafeOps.nil ?_
    repeat first|apply sq|apply sk|with_reducible first|apply tn|apply bn
    refine Safe.block ?_
    repeat first|apply sq|apply sk|with_reducible first|apply tn|apply bn
    refine Safe.region ?_
    refine Qf E_good ?_
    refine Q0 E_good rfl (v := V.bool false) (.fn rfl) ?_
    refine Qf E_good ?_
    refine SafeOps.nil ?_
    repeat first|apply sq|apply sk|with_reducible first|apply tn|apply bn
    refine Safe.condN rfl rfl ?_
    repeat first|apply sq|apply sk|with_reducible first|apply tn|apply bn
    refine Safe.region ?_
    refine Qf E_good ?_
    refine Qf E_good ?_
    refine Q0 E_good rfl (v := I (a199.length : Int)) (.fnE rfl lenE) ?_
    refine Q0 E_good rfl (v := V.bool (decide (v200 < (a199.length : Int)))) (.fn rfl) ?_
    refine Qf E_good ?_
    refine SafeOps.nil ?_
    repeat first|apply sq|apply sk|with_reducible first|apply tn|apply bn
    refine ifG h (fun hc23681 h => ?_) (fun hc23681 h => ?_)
    ·skip
     refine Safe.condK rfl hc23681 ?_
     repeat first|apply sq|apply sk|with_reducible first|apply tn|apply bn
     refine Safe.region ?_
     refine Qf E_good ?_
     refine Qf E_good ?_
     refine SafeOps.nil ?_
     repeat first|apply sq|apply sk|with_reducible first|apply tn|apply bn
     refine Safe.ret ?_
     repeat (first | with_reducible refine thenQ.r ?_ | with_reducible refine blockQ.r ?_)
     obtain rfl := Option.some.inj h
     exact retQ.gen (vs := [V.nils, I 2]) rfl (.tmp rfl (.tmp rfl .nil)) (by exact (.tup (.cons (.nils _) (.cons (.free rfl) .nil)))) (by simp) (.inr rfl)
    ·skip
     refine Safe.condN rfl hc23681 ?_
     repeat first|apply sq|apply sk|with_reducible first|apply tn|apply bn
     refine Safe.region ?_
     refine Qf E_good ?_
     refine Q0 E_good rfl (v := V.ptr [14, 20] 0 0) (.fn rfl) ?_
     refine Q0 E_good rfl (v := V.ptr [14, 20] 0 2) (.fn rfl) ?_
     refine Q0 E_good rfl (v := V.ref [7000, 114, 14, 20, 2] 0 (rws (fun n => [I n]) v194).length) (.load rfl rfl (.box rfl rfl) rfl) ?_
     refine Q0 E_good rfl (v := I (v194.length : Int)) (.fnE rfl lenE) ?_
     refine Qf E_good ?_
     refine SafeOps.nil ?_
     repeat first|apply sq|apply sk|with_reducible first|apply tn|apply bn
     refine Safe.block ?_
     repeat first|apply sq|apply sk|with_reducible first|apply tn|apply bn
     refine Safe.loopW (fun ((v195, v196, v197) : (List api_Task) × Int × (List (Int × trace_seen))) => ⟨Tryd.f15.ntmps, [(4, V.ref [7000, 118, 4] 0 (rws api_Task.cells v195).length), (6, V.ptr [14, 20] 0 0), (30, V.ref [7000, 114, 14, 20, 2] 0 (rws (fun n => [I n]) v194).length), (31, I (v194.length : Int)), (32, I v196)], ([14, 20], Obj.box [V.sl 1 (rws (fun l => [V.sl 3 (rws api_Instr.cells l)]) a211), V.mapr [14, 18], V.ref [7000, 114, 14, 20, 2] 0 (rws (fun n => [I n]) v194).length]) :: ([7000, 114, 14, 20, 2], Obj.rows 1 (rws (fun n => [I n]) v194) false) :: ([7000, 118, 4], Obj.rows 11 (rws api_Task.cells v195) false) :: (pmo [14, 18] (fun n : Int => I n) trace_seen.cells none v197), [], []⟩) h (.empty [7000, 118, 4] 11 (fo1 (by repeat first|exact .here|refine .cons rfl ?_)) (.cov ⟨rfl, rfl, (upT_cons (.nilref _) (ut (ut (ut (ut upT_nil))))), (uo (uo (uo (upOb_tl rfl (by repeat first | exact Tn.here | refine Tn.cons rfl ?_) rfl)))), upOut_nil, (cl3 rfl (wi_cons rfl (wi_cons rfl (wi_cons rfl (wi_tl rfl (by repeat first | exact Tn.here | refine Tn.cons rfl ?_) (fun _ => rfl) nob)))) rfl)⟩)) ?_
     rintro ⟨v195, v196, v197⟩ ohr23699 h hr23699
     replace h : go_trace_Tasks_s43 v194 (v195, v196, v197) = some ohr23699 := h
     rw [go_trace_Tasks_s43] at h
     repeat first|apply sq|apply sk|with_reducible first|apply tn|apply bn
     refine Safe.region ?_
     refine Q0 E_good rfl (v := V.bool (decide (v196 < (v194.length : Int)))) (.fn rfl) ?_
     refine SafeOps.nil ?_
     repeat first|apply sq|apply sk|with_reducible first|apply tn|apply bn
     refine ifG h (fun hc23700 h => ?_) (fun hc23700 h => ?_)
     ·skip
      refine Safe.condK rfl hc23700 ?_
      repeat first|apply sq|apply sk|with_reducible first|apply tn|apply bn
      refine Safe.block ?_
      repeat first|apply sq|apply sk|with_reducible first|apply tn|apply bn
      refine Safe.region ?_
      refine okG h (fun hb23701 h => ?_)
      refine Q0 E_good rfl (v := V.ptr [7000, 114, 14, 20, 2] (0 + Int.toNat v196) 0) (.idxRefM (f := (fun n => [I n])) (xs := v194) rfl rfl rfl rfl rfl rfl hb23701) ?_
      refine Q0 E_good rfl (v := I (gt v194 v196)) (.load rfl rfl (.rowsM (f := (fun n => [I n])) (xs := v194) hb23701 rfl rfl) rfl) ?_
      refine Qf E_good ?_
      refine SafeOps.nil ?_
      repeat first|apply sq|apply sk|with_reducible first|apply tn|apply bn
      refine Safe.region ?_
      refine Qf E_good ?_
      refine Qf E_good ?_
      refine Q0 E_good rfl (v := V.ptr [14, 20] 0 0) (.fn rfl) ?_
      refine Q0 E_good rfl (v := V.ptr [14, 20] 0 1) (.fn rfl) ?_
      refine Q0 E_good rfl (v := V.mapr [14, 18]) (.load rfl rfl (.box rfl rfl) rfl) ?_
      refine Qf E_good ?_
      refine mcaseG h (fun hm23702 h => ?_) (fun e198 hm23702 h => ?_)
      ·skip
       refine SafeOps.lookP0 (M := [14, 18]) (fun n : Int => I n) v197 (gt v194 v196) E_good (keyI .i64) hm23702 rfl rfl rfl rfl rfl rfl rfl rfl rfl rfl rfl rfl rfl ?_
       cases h
      ·skip
       refine SafeOps.lookP1 (M := [14, 18]) (fun n : Int => I n) trace_seen.cells v197 (gt v194 v196) e198 [42, 1] E_good (keyI .i64) hm23702 rfl rfl rfl rfl rfl rfl rfl rfl rfl rfl rfl rfl rfl rfl rfl rfl (by decide) (fun _ _ _ => rfl) (by repeat first | exact Tg.here | apply Tg.cons rfl rfl) rfl rfl ?_
       refine Q0 E_good rfl (v := V.ptr [42, 1] 0 0) (.fn rfl) ?_
       refine Q0 E_good rfl (v := V.ptr [42, 1] 0 0) (.fn rfl) ?_
       refine Q0 E_good rfl (v := V.agg [I e198.Task.Id, I e198.Task.Tenant, I e198.Task.Prog, I e198.Task.Pc, I e198.Task.Unit, I e198.Task.Keeps.a0, I e198.Task.Keeps.a1, I e198.Task.Keeps.a2, I e198.Task.Keeps.a3, I e198.Task.State, I e198.Task.Ran]) (.load rfl rfl (.box rfl rfl) rfl) ?_
       refine SafeOps.quiet1 E_good rfl rfl rfl (.litM (f := api_Task.cells) (xs := [e198.Task]) rfl rfl (by decide) rfl rfl rfl rfl rfl) (fr1 (by repeat first|exact .here|refine .cons rfl ?_)) ?_
       refine okG h (fun hb23704 h => ?_)
       refine SafeOps.appendM api_Task.cells (xs := v195) (ys := [e198.Task]) E_good rfl rfl rfl rfl rfl rfl rfl rfl (fo1 (by repeat first|exact .here|refine .cons rfl ?_)) (.own rfl) (.own rfl) (fun _ => rfl) hb23704 ?_
       refine Qf E_good ?_
       refine SafeOps.gets (τ := ⟨Tryd.f15.ntmps, [(4, V.ref [47] 0 (rws api_Task.cells (v195 ++ [e198.Task])).length), (6, V.ptr [14, 20] 0 0), (30, V.ref [7000, 114, 14, 20, 2] 0 (rws (fun n => [I n]) v194).length), (31, I (v194.length : Int)), (32, I v196)], ([14, 20], Obj.box [V.sl 1 (rws (fun l => [V.sl 3 (rws api_Instr.cells l)]) a211), V.mapr [14, 18], V.ref [7000, 114, 14, 20, 2] 0 (rws (fun n => [I n]) v194).length]) :: ([42, 1], Obj.box [I e198.Task.Id, I e198.Task.Tenant, I e198.Task.Prog, I e198.Task.Pc, I e198.Task.Unit, I e198.Task.Keeps.a0, I e198.Task.Keeps.a1, I e198.Task.Keeps.a2, I e198.Task.Keeps.a3, I e198.Task.State, I e198.Task.Ran, I e198.last.Kind, I e198.last.Id, I e198.last.A]) :: ([46], Obj.rows 11 (rws api_Task.cells [e198.Task]) false) :: ([47], Obj.rows 11 (rws api_Task.cells (v195 ++ [e198.Task])) false) :: ([7000, 114, 14, 20, 2], Obj.rows 1 (rws (fun n => [I n]) v194) false) :: (pmo [14, 18] (fun n : Int => I n) trace_seen.cells (some (mix (gt v194 v196) v197, [42, 1])) (mput v197 (gt v194 v196) e198)), [], []⟩) (.cov ⟨rfl, rfl, (ut (ut (ut (ut (ut upT_nil))))), (uo (uo (uo (uo (uo (upOb_tl rfl (by repeat first | exact Tn.here | refine Tn.cons rfl ?_) rfl)))))), upOut_nil, (cl3 rfl (wi_cons rfl (wi_cons rfl (wi_cons rfl (wi_cons rfl (wi_cons rfl (wi_tl rfl (by repeat first | exact Tn.here | refine Tn.cons rfl ?_) (fun _ => rfl) (sob rfl))))))) rfl)⟩) ?_
       refine SafeOps.giveP (M := [14, 18]) (fun n : Int => I n) trace_seen.cells v197 (gt v194 v196) e198 e198 [42, 1] rfl rfl rfl rfl rfl (fun _ _ _ => rfl) (by repeat first | exact Tg.here | apply Tg.drop rfl rfl | apply Tg.cons rfl rfl) rfl rfl ?_
       refine SafeOps.nil ?_
       repeat first|apply sq|apply sk|with_reducible first|apply tn|apply bn
       refine Safe.region ?_
       refine Q0 E_good rfl (v := I (IntKind.i64.wrap (v196 + 1))) (.fn rfl) ?_
       refine Qf E_good ?_
       refine SafeOps.nil ?_
       repeat first|apply sq|apply sk|with_reducible first|apply tn|apply bn
       exact ⟨_, next_out h, (.renp (M := [14, 18]) (fun n : Int => I n) trace_seen.cells none (mput v197 (gt v194 v196) e198) [47] [7000, 118, 4] rfl rfl rfl rfl rfl (fun _ _ _ => rfl) (fun _ _ e => by cases e) (by repeat first | exact Tp.here | refine Tp.cons rfl ?_) (.cov ⟨rfl, rfl, (ut (ut (ut (ut (ut upT_nil))))), (uo (uo (uo (upOb_tl rfl (by repeat first | exact Tn.here | refine Tn.cons rfl ?_) rfl)))), upOut_nil, (cl3 rfl (wi_cons rfl (wi_cons rfl (wi_cons rfl (wi_tl rfl (by repeat first | exact Tn.here | refine Tn.cons rfl ?_) (fun _ => rfl) nob)))) rfl)⟩))⟩
     ·skip
      refine Safe.condN rfl hc23700 ?_
      repeat first|apply sq|apply sk|with_reducible first|apply tn|apply bn
      refine Safe.exit ?_
      repeat (first | with_reducible refine thenQ.e ?_ | with_reducible refine blockQ.x rfl ?_ | with_reducible refine blockQ.y rfl ?_)
      replace h := inr_out h hr23699
      repeat first|apply sq|apply sk|with_reducible first|apply tn|apply bn
      refine Safe.region ?_
      refine Qf E_good ?_
      refine Qf E_good ?_
      refine Qf E_good ?_
      refine SafeOps.nil ?_
      repeat first|apply sq|apply sk|with_reducible first|apply tn|apply bn
      refine Safe.ret ?_
      repeat (first | with_reducible refine thenQ.r ?_ | with_reducible refine blockQ.r ?_)
      obtain rfl := Option.some.inj h
      exact retQ.gen (vs := [V.ref [7000, 118, 4] 0 (rws api_Task.cells v195).length, I 0]) rfl (.tmp rfl (.tmp rfl .nil)) (by exact (.tup (.cons (.own rfl rfl) (.cons (.free rfl) .nil)))) (by simp) (.inr rfl)
   ·skip
    refine ifG h (fun hc23705 h => ?_) (fun hc23705 h => ?_)
    ·skip
     refine Safe.condK rfl hc23705 ?_
     repeat first|apply sq|apply sk|with_reducible first|apply tn|apply bn
     refine Safe.region ?_
     refine Qf E_good ?_
     refine Q0 E_good rfl (v := I (a199.length : Int)) (.fnE rfl lenE) ?_
     refine Qf E_good ?_
     refine SafeOps.nil ?_
     repeat (first | refine Safe.skip ?_ | with_reducible refine thenQ.n ?_ | with_reducible refine blockQ.n ?_)
     exact Safe.got (HJ23679 ((a199.length : Int), v203) h) (.cov ⟨rfl, rfl, (ut (ut upT_nil)), (uo (uo (uo (upOb_tl rfl (by repeat first | exact Tn.here | refine Tn.cons rfl ?_) rfl)))), (upOut_cons rfl (ut (ut upT_nil)) upOut_nil), (cl3 rfl (wi_cons rfl (wi_cons rfl (wi_cons rfl (wi_tl rfl (by repeat first | exact Tn.here | refine Tn.cons rfl ?_) (fun _ => rfl) nob)))) rfl)⟩)
    ·skip
     refine Safe.condN rfl hc23705 ?_
     repeat (first | refine Safe.skip ?_ | with_reducible refine thenQ.n ?_ | with_reducible refine blockQ.n ?_)
     exact Safe.got (HJ23679 (v202, v203) h) (.cov ⟨rfl, rfl, (ut (ut upT_nil)), (uo (uo (uo (upOb_tl rfl (by repeat first | exact Tn.here | refine Tn.cons rfl ?_) rfl)))), (upOut_cons rfl (ut (ut upT_nil)) upOut_nil), (cl3 rfl (wi_cons rfl (wi_cons rfl (wi_cons rfl (wi_tl rfl (by repeat first | exact Tn.here | refine Tn.cons rfl ?_) (fun _ => rfl) nob)))) rfl)⟩)
  ·skip
   refine SafeOps.inline E_good rfl rfl rfl rfl rfl Tryd.func32 rfl (fun _ _ => Tryd.call32 _ _) rfl ?_
   repeat first|apply sq|apply sk|with_reducible first|apply tn|apply bn
   refine Safe.region ?_
   refine Qf E_good ?_
   refine SafeOps.nil ?_
   repeat first|apply sq|apply sk|with_reducible first|apply tn|apply bn
   refine Safe.region ?_
   refine Qf E_good ?_
   refine Q0 E_good rfl (v := I (a199.length : Int)) (.fnE rfl lenE) ?_
   refine Qf E_good ?_
   refine SafeOps.nil ?_
   repeat first|apply sq|apply sk|with_reducible first|apply tn|apply bn
   refine Safe.block ?_
   repeat first|apply sq|apply sk|with_reducible first|apply tn|apply bn
   refine Safe.loopW (fun ((v204, v212, v213) : Int × (List Int) × (List (Int × trace_seen))) => ⟨Tryd.f32.ntmps, [(0, V.sl 3 (rws api_Event.cells a199)), (1, V.fn 33 [V.ptr [14, 7] 0 0]), (7, I (a199.length : Int)), (8, I v204)], ([14, 7], Obj.box [V.ptr [14, 20] 0 0]) :: ([14, 20], Obj.box [V.sl 1 (rws (fun l => [V.sl 3 (rws api_Instr.cells l)]) a211), V.mapr [14, 18], V.ref [7000, 114, 14, 20, 2] 0 (rws (fun n => [I n]) v212).length]) :: ([7000, 114, 14, 20, 2], Obj.rows 1 (rws (fun n => [I n]) v212) false) :: (pmo [14, 18] (fun n : Int => I n) trace_seen.cells none v213), [(Tryd.f25.ntmps, [(1, V.sl 3 (rws api_Event.cells a199)), (7, V.ptr [14, 7] 0 0)]), (Tryd.f15.ntmps, [(1, V.sl 3 (rws api_Event.cells a199)), (4, V.nils)])], [14, 23]⟩) h (.empty [7000, 114, 14, 20, 2] 1 (fo1 (by repeat first|exact .here|refine .cons rfl ?_)) (.cov ⟨rfl, rfl, (ut (ut (ut (ut upT_nil)))), (uo (upOb_cons rfl (.box (.cons (.refl _) (.cons (.refl _) (.cons (.nilref _) .nil)))) (uo (upOb_tl rfl (by repeat first | exact Tn.here | refine Tn.cons rfl ?_) rfl)))), (upOut_cons rfl (ut (ut upT_nil)) (upOut_cons rfl (ut (ut upT_nil)) upOut_nil)), (cl3 rfl (wi_cons rfl (wi_cons rfl (wi_cons rfl (wi_tl rfl (by repeat first | exact Tn.here | refine Tn.cons rfl ?_) (fun _ => rfl) nob)))) rfl)⟩)) ?_
   rintro ⟨v204, v212, v213⟩ ohr24324 h hr24324
   replace h : go_trace_Tasks_s58 a211 a199 (v204, v212, v213) = some ohr24324 := h
   rw [go_trace_Tasks_s58] at h
   repeat first|apply sq|apply sk|with_reducible first|apply tn|apply bn
   refine Safe.region ?_
   refine Q0 E_good rfl (v := V.bool (decide (v204 < (a199.length : Int)))) (.fn rfl) ?_
   refine SafeOps.nil ?_
   repeat first|apply sq|apply sk|with_reducible first|apply tn|apply bn
   refine ifG h (fun hc24325 h => ?_) (fun hc24325 h => ?_)
   ·skip
    refine Safe.condK rfl hc24325 ?_
    repeat first|apply sq|apply sk|with_reducible first|apply tn|apply bn
    refine Safe.block ?_
    repeat first|apply sq|apply sk|with_reducible first|apply tn|apply bn
    refine Safe.region ?_
    refine Qf E_good ?_
    refine Qf E_good ?_
    refine SafeOps.nil ?_
    repeat first|apply sq|apply sk|with_reducible first|apply tn|apply bn
    refine Safe.region ?_
    refine Qf E_good ?_
    refine Qf E_good ?_
    refine Qf E_good ?_
    refine okG h (fun hb24326 h => ?_)
    refine Q0 E_good rfl (v := V.spt 3 (rws api_Event.cells a199) (Int.toNat v204) 0) (.idxSlM (f := api_Event.cells) rfl rfl rfl rfl rfl hb24326) ?_
    refine Q0 E_good rfl (v := V.agg [I ((gt a199 v204).Kind), I ((gt a199 v204).Id), I ((gt a199 v204).A)]) (.load rfl rfl (.sptM (f := api_Event.cells) hb24326 rfl) rfl) ?_
    refine SafeOps.inline E_good rfl rfl rfl rfl rfl Tryd.func33 rfl (fun _ _ => Tryd.call33 _ _) rfl ?_
    repeat first|apply sq|apply sk|with_reducible first|apply tn|apply bn
    refine Safe.region ?_
    refine SafeOps.quiet1 E_good rfl rfl rfl (.box rfl rfl) (fr1 (by repeat first|exact .here|refine .cons rfl ?_)) ?_
    refine Qf E_good ?_
    refine SafeOps.nil ?_
    repeat first|apply sq|apply sk|with_reducible first|apply tn|apply bn
    refine Safe.region ?_
    refine Q0 E_good rfl (v := V.ptr [14, 20] 0 0) (.load rfl rfl (.box rfl rfl) rfl) ?_
    refine Q0 E_good rfl (v := V.agg [I ((gt a199 v204).Kind), I ((gt a199 v204).Id), I ((gt a199 v204).A)]) (.load rfl rfl (.box rfl rfl) rfl) ?_
    refine SafeOps.joinT 1 (fun ((v205, v206, v207) : Bool × (List Int) × (List (Int × trace_seen))) => go_trace_Tasks_j62 a199 v204 v205 v206 v207 = some ohr24324) (fun ((v205, v206, v207) : Bool × (List Int) × (List (Int × trace_seen))) => ⟨Tryd.f33.ntmps, [(6, V.bool v205)], ([14, 7], Obj.box [V.ptr [14, 20] 0 0]) :: ([14, 20], Obj.box [V.sl 1 (rws (fun l => [V.sl 3 (rws api_Instr.cells l)]) a211), V.mapr [14, 18], V.ref [7000, 114, 14, 20, 2] 0 (rws (fun n => [I n]) v206).length]) :: ([7000, 114, 14, 20, 2], Obj.rows 1 (rws (fun n => [I n]) v206) false) :: (pmo [14, 18] (fun n : Int => I n) trace_seen.cells none v207), [(Tryd.f32.ntmps, [(0, V.sl 3 (rws api_Event.cells a199)), (1, V.fn 33 [V.ptr [14, 7] 0 0]), (5, I v204), (7, I (a199.length : Int)), (8, I v204)]), (Tryd.f25.ntmps, [(1, V.sl 3 (rws api_Event.cells a199)), (7, V.ptr [14, 7] 0 0)]), (Tryd.f15.ntmps, [(1, V.sl 3 (rws api_Event.cells a199)), (4, V.nils)])], [14, 23, 16]⟩) ?_ (fun HJ24668 => ?_)
    ·rintro ⟨v205, v206, v207⟩ h
     replace h : go_trace_Tasks_j62 a199 v204 v205 v206 v207 = some ohr24324 := h
     rw [go_trace_Tasks_j62] at h
     refine Q0 E_good rfl (v := V.bool (!v205)) (.fn rfl) ?_
     refine Qf E_good ?_
     refine SafeOps.nil ?_
     repeat first|apply sq|apply sk|with_reducible first|apply tn|apply bn
     refine Safe.ret ?_
     repeat (first | with_reducible refine thenQ.r ?_ | with_reducible refine blockQ.r ?_)
     refine inQ.gen (vs := [V.bool (!v205)]) (v := V.bool (!v205)) (.inr rfl) rfl (.tmp (v := V.bool (!v205)) rfl .nil) rfl ?_
     refine SafeOps.nil ?_
     repeat first|apply sq|apply sk|with_reducible first|apply tn|apply bn
     refine ifG h (fun hc24669 h => ?_) (fun hc24669 h => ?_)
     ·skip
      refine Safe.condK rfl hc24669 ?_
      repeat first|apply sq|apply sk|with_reducible first|apply tn|apply bn
      refine Safe.region ?_
      refine Qf E_good ?_
      refine Qf E_good ?_
      refine SafeOps.nil ?_
      repeat first|apply sq|apply sk|with_reducible first|apply tn|apply bn
      refine Safe.ret ?_
      repeat (first | with_reducible refine thenQ.r ?_ | with_reducible refine blockQ.r ?_)
      refine inQ.gen (vs := [I v204]) (v := I v204) (.inr rfl) rfl (.tmp (v := I v204) rfl .nil) rfl ?_
      replace h := inr_out h hr24324
      exact SafeOps.got (HJ23676 (v204, v206, v207) h) (.cov ⟨rfl, rfl, (ut (ut (ut upT_nil))), (uo (uo (uo (upOb_tl rfl (by repeat first | exact Tn.here | refine Tn.cons rfl ?_) rfl)))), (upOut_cons rfl (ut (ut upT_nil)) upOut_nil), (cl3 rfl (wi_cons rfl (wi_cons rfl (wi_cons rfl (wi_tl rfl (by repeat first | exact Tn.here | refine Tn.cons rfl ?_) (fun _ => rfl) nob)))) rfl)⟩)
     ·skip
      refine Safe.condN rfl hc24669 ?_
      repeat first|apply sq|apply sk|with_reducible first|apply tn|apply bn
      refine Safe.region ?_
      refine Q0 E_good rfl (v := I (IntKind.i64.wrap (v204 + 1))) (.fn rfl) ?_
      refine Qf E_good ?_
      refine SafeOps.nil ?_
      repeat first|apply sq|apply sk|with_reducible first|apply tn|apply bn
      exact ⟨_, next_out h, (.cov ⟨rfl, rfl, (ut (ut (ut (ut upT_nil)))), (uo (uo (uo (upOb_tl rfl (by repeat first | exact Tn.here | refine Tn.cons rfl ?_) rfl)))), (upOut_cons rfl (ut (ut upT_nil)) (upOut_cons rfl (ut (ut upT_nil)) upOut_nil)), (cl3 rfl (wi_cons rfl (wi_cons rfl (wi_cons rfl (wi_tl rfl (by repeat first | exact Tn.here | refine Tn.cons rfl ?_) (fun _ => rfl) nob)))) rfl)⟩)⟩
    ·skip
     refine SafeOps.inline E_good rfl rfl rfl rfl rfl Tryd.func34 rfl (fun _ _ => Tryd.call34 _ _) rfl ?_
     repeat first|apply sq|apply sk|with_reducible first|apply tn|apply bn
     refine Safe.region ?_
     refine SafeOps.quiet1 E_good rfl rfl rfl (.box rfl rfl) (fr1 (by repeat first|exact .here|refine .cons rfl ?_)) ?_
     refine Qf E_good ?_
     refine SafeOps.nil ?_
     repeat first|apply sq|apply sk|with_reducible first|apply tn|apply bn
     refine Safe.regionD (n := 12) [] [6] E_good mixed rfl ?_
     refine DT 0 [] rfl rfl (fun _ hz => (.fn rfl)) ?_
     refine DT 1 [] rfl rfl (v := V.ptr [14, 20] 0 0) (fun _ hz => (.fn rfl)) ?_
     refine DT 2 [] rfl rfl (v := V.ptr [14, 20] 0 1) (fun _ hz => (.fn rfl)) ?_
     refine DT 3 [] rfl rfl (v := V.mapr [14, 18]) (fun _ hz => (.load rfl rfl (.box (hz _ _ rfl rfl) rfl) rfl)) ?_
     refine DT 4 [] rfl rfl (v := V.ptr [14, 23, 16, 6, 3] 0 1) (fun _ hz => (.fn rfl)) ?_
     refine DT 5 [] rfl rfl (v := I ((gt a199 v204).Id)) (fun _ hz => (.load rfl rfl (.box (hz _ _ rfl rfl) rfl) rfl)) ?_
     refine DAny.onlyS (i := 6) rfl (by kernel_rfl) rfl ?_
     refine mcaseG h (fun hm24670 h => ?_) (fun e216 hm24670 h => ?_)
     ·skip
      refine SafeOps.lookP0 (M := [14, 18]) (fun n : Int => I n) v213 ((gt a199 v204).Id) E_good (keyI .i64) hm24670 rfl rfl rfl rfl rfl rfl rfl rfl rfl rfl rfl rfl rfl ?_
      refine SafeOps.nil ⟨rfl, ?_⟩
      refine DT 7 [] rfl rfl (fun _ hz => (.fn rfl)) ?_
      refine DT 8 [] rfl rfl (fun _ hz => (.fn rfl)) ?_
      refine DT 9 [] rfl rfl (fun _ hz => (.fn rfl)) ?_
      refine DT 10 [] rfl rfl (fun _ hz => (.fn rfl)) ?_
      refine DT 11 [] rfl rfl (fun _ hz => (.fn rfl)) ?_
      refine DAny.nil (by kernel_rfl) ?_
      repeat first|apply sq|apply sk|with_reducible first|apply tn|apply bn
      refine Safe.region ?_
      refine Qf E_good ?_
      refine Q0 E_good rfl (v := V.bool true) (.fn rfl) ?_
      refine SafeOps.nil ?_
      repeat first|apply sq|apply sk|with_reducible first|apply tn|apply bn
      refine Safe.condK rfl rfl ?_
      repeat first|apply sq|apply sk|with_reducible first|apply tn|apply bn
      refine Safe.region ?_
      refine Qf E_good ?_
      refine Q0 E_good rfl (v := V.agg [I ((gt a199 v204).Kind), I ((gt a199 v204).Id), I ((gt a199 v204).A)]) (.load rfl rfl (.box rfl rfl) rfl) ?_
      refine SafeOps.joinT 1 (fun ((v208, v209, v210) : Bool × (List Int) × (List (Int × trace_seen))) => go_trace_Tasks_j63 a199 v204 v208 v209 v210 = some ohr24324) (fun ((v208, v209, v210) : Bool × (List Int) × (List (Int × trace_seen))) => ⟨Tryd.f34.ntmps, [(24, V.bool v208)], ([14, 7], Obj.box [V.ptr [14, 20] 0 0]) :: ([14, 20], Obj.box [V.sl 1 (rws (fun l => [V.sl 3 (rws api_Instr.cells l)]) a211), V.mapr [14, 18], V.ref [7000, 114, 14, 20, 2] 0 (rws (fun n => [I n]) v209).length]) :: ([7000, 114, 14, 20, 2], Obj.rows 1 (rws (fun n => [I n]) v209) false) :: (pmo [14, 18] (fun n : Int => I n) trace_seen.cells none v210), [(Tryd.f33.ntmps, []), (Tryd.f32.ntmps, [(0, V.sl 3 (rws api_Event.cells a199)), (1, V.fn 33 [V.ptr [14, 7] 0 0]), (5, I v204), (7, I (a199.length : Int)), (8, I v204)]), (Tryd.f25.ntmps, [(1, V.sl 3 (rws api_Event.cells a199)), (7, V.ptr [14, 7] 0 0)]), (Tryd.f15.ntmps, [(1, V.sl 3 (rws api_Event.cells a199)), (4, V.nils)])], [14, 23, 16, 6]⟩) ?_ (fun HJ24682 => ?_)
      ·rintro ⟨v208, v209, v210⟩ h
       replace h : go_trace_Tasks_j63 a199 v204 v208 v209 v210 = some ohr24324 := h
       rw [go_trace_Tasks_j63] at h
       refine Qf E_good ?_
       refine SafeOps.nil ?_
       repeat first|apply sq|apply sk|with_reducible first|apply tn|apply bn
       refine Safe.ret ?_
       repeat (first | with_reducible refine thenQ.r ?_ | with_reducible refine blockQ.r ?_)
       refine inQ.gen (vs := [V.bool v208]) (v := V.bool v208) (.inr rfl) rfl (.tmp (v := V.bool v208) rfl .nil) rfl ?_
       exact SafeOps.got (HJ24668 (v208, v209, v210) h) (.cov ⟨rfl, rfl, (ut upT_nil), (uo (uo (uo (upOb_tl rfl (by repeat first | exact Tn.here | refine Tn.cons rfl ?_) rfl)))), (upOut_cons rfl (ut (ut (ut (ut (ut upT_nil))))) (upOut_cons rfl (ut (ut upT_nil)) (upOut_cons rfl (ut (ut upT_nil)) upOut_nil))), (cl3 rfl (wi_cons rfl (wi_cons rfl (wi_cons rfl (wi_tl rfl (by repeat first | exact Tn.here | refine Tn.cons rfl ?_) (fun _ => rfl) nob)))) rfl)⟩)
      ·skip
       refine SafeOps.inline E_good rfl rfl rfl rfl rfl Tryd.func43 rfl (fun _ _ => Tryd.call43 _ _) rfl ?_
       repeat first|apply sq|apply sk|with_reducible first|apply tn|apply bn
       refine Safe.region ?_
       refine SafeOps.quiet1 E_good rfl rfl rfl (.box rfl rfl) (fr1 (by repeat first|exact .here|refine .cons rfl ?_)) ?_
       refine Qf E_good ?_
       refine SafeOps.nil ?_
       repeat first|apply sq|apply sk|with_reducible first|apply tn|apply bn
       refine Safe.region ?_
       refine Q0 E_good rfl (v := V.ptr [14, 23, 16, 6, 24, 3] 0 1) (.fn rfl) ?_
       refine Q0 E_good rfl (v := I ((gt a199 v204).Id)) (.load rfl rfl (.box rfl rfl) rfl) ?_
       refine Q0 E_good rfl (v := V.ptr [14, 23, 16, 6, 24, 3] 0 2) (.fn rfl) ?_
       refine Q0 E_good rfl (v := I ((gt a199 v204).A)) (.load rfl rfl (.box rfl rfl) rfl) ?_
       refine bindG h ?_
       rintro ⟨x214, x215⟩ he24685 h
       refine Q0 E_good rfl (v := V.tup [V.agg [I x214.Id, I x214.Tenant, I x214.Prog, I x214.Pc, I x214.Unit, I x214.Keeps.a0, I x214.Keeps.a1, I x214.Keeps.a2, I x214.Keeps.a3, I x214.State, I x214.Ran], I x215]) (.callP rfl rfl (go_life_New_sc ((gt a199 v204).Id) 0 ((gt a199 v204).A) _ he24685) rfl) ?_
       refine Qf E_good ?_
       refine Qf E_good ?_
       refine Qf E_good ?_
       refine SafeOps.quiet1 E_good rfl rfl rfl (.alloc rfl rfl) (fr1 (by repeat first|exact .here|refine .cons rfl ?_)) ?_
       refine SafeOps.store (z := Obj.box [I x214.Id, I x214.Tenant, I x214.Prog, I x214.Pc, I x214.Unit, I x214.Keeps.a0, I x214.Keeps.a1, I x214.Keeps.a2, I x214.Keeps.a3, I x214.State, I x214.Ran]) E_good rfl rfl rfl rfl rfl rfl rfl (.boxM (c := 11) rfl rfl (Nat.le_of_ble_eq_true rfl) rfl) ?_
       refine Qf E_good ?_
       refine SafeOps.nil ?_
       repeat first|apply sq|apply sk|with_reducible first|apply tn|apply bn
       refine Safe.regionD (n := 17) [] [] E_good mixed rfl ?_
       refine DT 0 [] rfl rfl (fun _ hz => (.fn rfl)) ?_
       refine DT 1 [] rfl rfl (v := V.bool (x215 != 0)) (fun _ hz => (.fn rfl)) ?_
       refine DT 2 [] rfl rfl (fun _ hz => (.fn rfl)) ?_
       refine ifG h (fun hc24686 h => ?_) (fun hc24686 h => ?_)
       ·skip
        refine DAny.takeSkip (i := 3) rfl (by kernel_rfl) [] (by kernel_rfl) (by kernel_rfl) (by kernel_rfl) (congrArg (fun b => some (!b)) hc24686) rfl rfl ?_
        refine DAny.takeSkip (i := 4) rfl (by kernel_rfl) [] (by kernel_rfl) (by kernel_rfl) (by kernel_rfl) (congrArg (fun b => some (!b)) hc24686) rfl rfl ?_
        refine DAny.takeSkip (i := 5) rfl (by kernel_rfl) [] (by kernel_rfl) (by kernel_rfl) (by kernel_rfl) (congrArg (fun b => some (!b)) hc24686) rfl rfl ?_
        refine DT 6 [] rfl rfl (v := V.bool true) (fun _ hz => (.pickK rfl hc24686 rfl)) ?_
        refine DT 7 [] rfl rfl (fun _ hz => (.fn rfl)) ?_
        refine DAny.takeSkip (i := 8) rfl (by kernel_rfl) [] (by kernel_rfl) (by kernel_rfl) (by kernel_rfl) rfl rfl rfl ?_
        refine DAny.takeSkip (i := 9) rfl (by kernel_rfl) [] (by kernel_rfl) (by kernel_rfl) (by kernel_rfl) rfl rfl rfl ?_
        refine DAny.takeSkip (i := 10) rfl (by kernel_rfl) [] (by kernel_rfl) (by kernel_rfl) (by kernel_rfl) rfl rfl rfl ?_
        refine DAny.takeSkip (i := 11) rfl (by kernel_rfl) [] (by kernel_rfl) (by kernel_rfl) (by kernel_rfl) rfl rfl rfl ?_
        refine DAny.takeSkip (i := 12) rfl (by kernel_rfl) [] (by kernel_rfl) (by kernel_rfl) (by kernel_rfl) rfl rfl rfl ?_
        refine DAny.takeSkip (i := 13) rfl (by kernel_rfl) [] (by kernel_rfl) (by kernel_rfl) (by kernel_rfl) rfl rfl rfl ?_
        refine DAny.takeSkip (i := 14) rfl (by kernel_rfl) [] (by kernel_rfl) (by kernel_rfl) (by kernel_rfl) rfl rfl rfl ?_
        refine DAny.takeSkip (i := 15) rfl (by kernel_rfl) [] (by kernel_rfl) (by kernel_rfl) (by kernel_rfl) rfl rfl rfl ?_
        refine DT 16 [] rfl rfl (v := V.bool true) (fun _ hz => (.pickK rfl rfl rfl)) ?_
        refine DAny.nil (by kernel_rfl) ?_
        repeat first|apply sq|apply sk|with_reducible first|apply tn|apply bn
        refine Safe.condK rfl rfl ?_
        repeat first|apply sq|apply sk|with_reducible first|apply tn|apply bn
        refine Safe.region ?_
        refine Qf E_good ?_
        refine SafeOps.nil ?_
        repeat first|apply sq|apply sk|with_reducible first|apply tn|apply bn
        refine Safe.ret ?_
        repeat (first | with_reducible refine thenQ.r ?_ | with_reducible refine blockQ.r ?_)
        refine inQ.gen (vs := [V.bool false]) (v := V.bool false) (.inr rfl) rfl (.tmp (v := V.bool false) rfl .nil) rfl ?_
        exact SafeOps.got (HJ24682 (false, v212, v213) h) (.cov ⟨rfl, rfl, (ut upT_nil), (uo (uo (uo (upOb_tl rfl (by repeat first | exact Tn.here | refine Tn.cons rfl ?_) rfl)))), (upOut_cons rfl upT_nil (upOut_cons rfl (ut (ut (ut (ut (ut upT_nil))))) (upOut_cons rfl (ut (ut upT_nil)) (upOut_cons rfl (ut (ut upT_nil)) upOut_nil)))), (cl3 rfl (wi_cons rfl (wi_cons rfl (wi_cons rfl (wi_tl rfl (by repeat first | exact Tn.here | refine Tn.cons rfl ?_) (fun _ => rfl) nob)))) rfl)⟩)
       ·skip
        refine DAny.take (i := 3) rfl (by kernel_rfl) [] (by kernel_rfl) (by kernel_rfl) (by kernel_rfl) (congrArg (fun b => some (!b)) hc24686) rfl rfl (v := V.ptr [14, 23, 16, 6, 24, 3] 0 0) (fun _ hz => (.fn rfl)) ?_
        refine DAny.take (i := 4) rfl (by kernel_rfl) [] (by kernel_rfl) (by kernel_rfl) (by kernel_rfl) (congrArg (fun b => some (!b)) hc24686) rfl rfl (v := I ((gt a199 v204).Kind)) (fun _ hz => (.load rfl rfl (.box (hz _ _ rfl rfl) rfl) rfl)) ?_
        refine DAny.take (i := 5) rfl (by kernel_rfl) [] (by kernel_rfl) (by kernel_rfl) (by kernel_rfl) (congrArg (fun b => some (!b)) hc24686) rfl rfl (v := V.bool (((gt a199 v204).Kind) != 1)) (fun _ hz => (.fn rfl)) ?_
        refine DT 6 [] rfl rfl (v := V.bool (((gt a199 v204).Kind) != 1)) (fun _ hz => (.pickK rfl hc24686 rfl)) ?_
        refine DT 7 [] rfl rfl (fun _ hz => (.fn rfl)) ?_
        refine ifG h (fun hc24687 h => ?_) (fun hc24687 h => ?_)
        ·skip
         refine DAny.takeSkip (i := 8) rfl (by kernel_rfl) [] (by kernel_rfl) (by kernel_rfl) (by kernel_rfl) (congrArg (fun b => some (!b)) hc24687) rfl rfl ?_
         refine DAny.takeSkip (i := 9) rfl (by kernel_rfl) [] (by kernel_rfl) (by kernel_rfl) (by kernel_rfl) (congrArg (fun b => some (!b)) hc24687) rfl rfl ?_
         refine DAny.takeSkip (i := 10) rfl (by kernel_rfl) [] (by kernel_rfl) (by kernel_rfl) (by kernel_rfl) (congrArg (fun b => some (!b)) hc24687) rfl rfl ?_
         refine DAny.takeSkip (i := 11) rfl (by kernel_rfl) [] (by kernel_rfl) (by kernel_rfl) (by kernel_rfl) (congrArg (fun b => some (!b)) hc24687) rfl rfl ?_
         refine DAny.takeSkip (i := 12) rfl (by kernel_rfl) [] (by kernel_rfl) (by kernel_rfl) (by kernel_rfl) (congrArg (fun b => some (!b)) hc24687) rfl rfl ?_
         refine DAny.takeSkip (i := 13) rfl (by kernel_rfl) [] (by kernel_rfl) (by kernel_rfl) (by kernel_rfl) (congrArg (fun b => some (!b)) hc24687) rfl rfl ?_
         refine DAny.takeSkip (i := 14) rfl (by kernel_rfl) [] (by kernel_rfl) (by kernel_rfl) (by kernel_rfl) (congrArg (fun b => some (!b)) hc24687) rfl rfl ?_
         refine DAny.takeSkip (i := 15) rfl (by kernel_rfl) [] (by kernel_rfl) (by kernel_rfl) (by kernel_rfl) (congrArg (fun b => some (!b)) hc24687) rfl rfl ?_
         refine DT 16 [] rfl rfl (v := V.bool true) (fun _ hz => (.pickK rfl hc24687 rfl)) ?_
         refine DAny.nil (by kernel_rfl) ?_
         repeat first|apply sq|apply sk|with_reducible first|apply tn|apply bn
         refine Safe.condK rfl rfl ?_
         repeat first|apply sq|apply sk|with_reducible first|apply tn|apply bn
         refine Safe.region ?_
         refine Qf E_good ?_
         refine SafeOps.nil ?_
         repeat first|apply sq|apply sk|with_reducible first|apply tn|apply bn
         refine Safe.ret ?_
         repeat (first | with_reducible refine thenQ.r ?_ | with_reducible refine blockQ.r ?_)
         refine inQ.gen (vs := [V.bool false]) (v := V.bool false) (.inr rfl) rfl (.tmp (v := V.bool false) rfl .nil) rfl ?_
         exact SafeOps.got (HJ24682 (false, v212, v213) h) (.cov ⟨rfl, rfl, (ut upT_nil), (uo (uo (uo (upOb_tl rfl (by repeat first | exact Tn.here | refine Tn.cons rfl ?_) rfl)))), (upOut_cons rfl upT_nil (upOut_cons rfl (ut (ut (ut (ut (ut upT_nil))))) (upOut_cons rfl (ut (ut upT_nil)) (upOut_cons rfl (ut (ut upT_nil)) upOut_nil)))), (cl3 rfl (wi_cons rfl (wi_cons rfl (wi_cons rfl (wi_tl rfl (by repeat first | exact Tn.here | refine Tn.cons rfl ?_) (fun _ => rfl) nob)))) rfl)⟩)
        ·skip
         refine DAny.take (i := 8) rfl (by kernel_rfl) [] (by kernel_rfl) (by kernel_rfl) (by kernel_rfl) (congrArg (fun b => some (!b)) hc24687) rfl rfl (v := V.ptr [14, 23, 16, 6, 24, 3] 0 2) (fun _ hz => (.fn rfl)) ?_
         refine DAny.take (i := 9) rfl (by kernel_rfl) [] (by kernel_rfl) (by kernel_rfl) (by kernel_rfl) (congrArg (fun b => some (!b)) hc24687) rfl rfl (v := I ((gt a199 v204).A)) (fun _ hz => (.load rfl rfl (.box (hz _ _ rfl rfl) rfl) rfl)) ?_
         refine DAny.take (i := 10) rfl (by kernel_rfl) [] (by kernel_rfl) (by kernel_rfl) (by kernel_rfl) (congrArg (fun b => some (!b)) hc24687) rfl rfl (fun _ hz => (.fn rfl)) ?_
         refine DAny.take (i := 11) rfl (by kernel_rfl) [] (by kernel_rfl) (by kernel_rfl) (by kernel_rfl) (congrArg (fun b => some (!b)) hc24687) rfl rfl (v := V.ptr [14, 20] 0 0) (fun _ hz => (.fn rfl)) ?_
         refine DAny.take (i := 12) rfl (by kernel_rfl) [] (by kernel_rfl) (by kernel_rfl) (by kernel_rfl) (congrArg (fun b => some (!b)) hc24687) rfl rfl (v := V.ptr [14, 20] 0 0) (fun _ hz => (.fn rfl)) ?_
         refine DAny.take (i := 13) rfl (by kernel_rfl) [] (by kernel_rfl) (by kernel_rfl) (by kernel_rfl) (congrArg (fun b => some (!b)) hc24687) rfl rfl (v := V.sl 1 (rws (fun l => [V.sl 3 (rws api_Instr.cells l)]) a211)) (fun _ hz => (.load rfl rfl (.box (hz _ _ rfl rfl) rfl) rfl)) ?_
         refine DAny.take (i := 14) rfl (by kernel_rfl) [] (by kernel_rfl) (by kernel_rfl) (by kernel_rfl) (congrArg (fun b => some (!b)) hc24687) rfl rfl (v := I (a211.length : Int)) (fun _ hz => (.fnE rfl lenE)) ?_
         refine DAny.take (i := 15) rfl (by kernel_rfl) [] (by kernel_rfl) (by kernel_rfl) (by kernel_rfl) (congrArg (fun b => some (!b)) hc24687) rfl rfl (v := V.bool (decide (((gt a199 v204).A) ≥ (a211.length : Int)))) (fun _ hz => (.fn rfl)) ?_
         refine DT 16 [] rfl rfl (v := V.bool (decide (((gt a199 v204).A) ≥ (a211.length : Int)))) (fun _ hz => (.pickK rfl hc24687 rfl)) ?_
         refine DAny.nil (by kernel_rfl) ?_
         repeat first|apply sq|apply sk|with_reducible first|apply tn|apply bn
         refine ifG h (fun hc24688 h => ?_) (fun hc24688 h => ?_)
         ·skip
          refine Safe.condK rfl hc24688 ?_
          repeat first|apply sq|apply sk|with_reducible first|apply tn|apply bn
          refine Safe.region ?_
          refine Qf E_good ?_
          refine SafeOps.nil ?_
          repeat first|apply sq|apply sk|with_reducible first|apply tn|apply bn
          refine Safe.ret ?_
          repeat (first | with_reducible refine thenQ.r ?_ | with_reducible refine blockQ.r ?_)
          refine inQ.gen (vs := [V.bool false]) (v := V.bool false) (.inr rfl) rfl (.tmp (v := V.bool false) rfl .nil) rfl ?_
          exact SafeOps.got (HJ24682 (false, v212, v213) h) (.cov ⟨rfl, rfl, (ut upT_nil), (uo (uo (uo (upOb_tl rfl (by repeat first | exact Tn.here | refine Tn.cons rfl ?_) rfl)))), (upOut_cons rfl upT_nil (upOut_cons rfl (ut (ut (ut (ut (ut upT_nil))))) (upOut_cons rfl (ut (ut upT_nil)) (upOut_cons rfl (ut (ut upT_nil)) upOut_nil)))), (cl3 rfl (wi_cons rfl (wi_cons rfl (wi_cons rfl (wi_tl rfl (by repeat first | exact Tn.here | refine Tn.cons rfl ?_) (fun _ => rfl) nob)))) rfl)⟩)
         ·skip
          refine Safe.condN rfl hc24688 ?_
          repeat first|apply sq|apply sk|with_reducible first|apply tn|apply bn
          refine Safe.regionD (n := 11) [] [10] E_good mixed rfl ?_
          refine DT 0 [] rfl rfl (fun _ hz => (.fn rfl)) ?_
          refine DT 1 [] rfl rfl (v := V.ptr [14, 20] 0 0) (fun _ hz => (.fn rfl)) ?_
          refine DT 2 [] rfl rfl (v := V.ptr [14, 20] 0 1) (fun _ hz => (.fn rfl)) ?_
          refine DT 3 [] rfl rfl (v := V.mapr [14, 18]) (fun _ hz => (.load rfl rfl (.box (hz _ _ rfl rfl) rfl) rfl)) ?_
          refine DT 4 [] rfl rfl (v := V.ptr [14, 23, 16, 6, 24, 3] 0 1) (fun _ hz => (.fn rfl)) ?_
          refine DT 5 [] rfl rfl (v := I ((gt a199 v204).Id)) (fun _ hz => (.load rfl rfl (.box (hz _ _ rfl rfl) rfl) rfl)) ?_
          refine DT 6 [] rfl rfl (v := V.agg [I x214.Id, I x214.Tenant, I x214.Prog, I x214.Pc, I x214.Unit, I x214.Keeps.a0, I x214.Keeps.a1, I x214.Keeps.a2, I x214.Keeps.a3, I x214.State, I x214.Ran]) (fun _ hz => (.load rfl rfl (.box (hz _ _ rfl rfl) rfl) rfl)) ?_
          refine DT 7 [] rfl rfl (v := V.agg [I ((gt a199 v204).Kind), I ((gt a199 v204).Id), I ((gt a199 v204).A)]) (fun _ hz => (.load rfl rfl (.box (hz _ _ rfl rfl) rfl) rfl)) ?_
          refine DT 8 [] rfl rfl (v := V.agg [I x214.Id, I x214.Tenant, I x214.Prog, I x214.Pc, I x214.Unit, I x214.Keeps.a0, I x214.Keeps.a1, I x214.Keeps.a2, I x214.Keeps.a3, I x214.State, I x214.Ran, I ((gt a199 v204).Kind), I ((gt a199 v204).Id), I ((gt a199 v204).A)]) (fun _ hz => (.fn rfl)) ?_
          refine DAny.only (i := 9) rfl (by kernel_rfl) (.quiet rfl rfl rfl (.box rfl rfl) (fr1 (by repeat first|exact .here|refine .cons rfl ?_)) ?_)
          refine DAny.onlyS (i := 10) rfl (by kernel_rfl) rfl ?_
          refine SafeOps.putP (M := [14, 18]) (fun n : Int => I n) trace_seen.cells v213 ((gt a199 v204).Id) (trace_seen.mk x214 (gt a199 v204)) [14, 23, 16, 6, 24, 41] E_good (keyI .i64) hm24670 rfl (.inl rfl) rfl rfl rfl rfl rfl rfl rfl rfl rfl (by repeat first | exact Tt.here | apply Tt.cons) rfl ?_
          refine SafeOps.nil ⟨rfl, ?_⟩
          refine DAny.nil (by kernel_rfl) ?_
          repeat first|apply sq|apply sk|with_reducible first|apply tn|apply bn
          refine Safe.gets (τ := ⟨Tryd.f43.ntmps, [(0, V.ptr [14, 20] 0 0), (3, V.ptr [14, 23, 16, 6, 24, 3] 0 0)], ([14, 7], Obj.box [V.ptr [14, 20] 0 0]) :: ([14, 20], Obj.box [V.sl 1 (rws (fun l => [V.sl 3 (rws api_Instr.cells l)]) a211), V.mapr [14, 18], V.ref [7000, 114, 14, 20, 2] 0 (rws (fun n => [I n]) v212).length]) :: ([14, 23, 16, 2], Obj.box [I ((gt a199 v204).Kind), I ((gt a199 v204).Id), I ((gt a199 v204).A)]) :: ([14, 23, 16, 6, 3], Obj.box [I ((gt a199 v204).Kind), I ((gt a199 v204).Id), I ((gt a199 v204).A)]) :: ([14, 23, 16, 6, 24, 3], Obj.box [I ((gt a199 v204).Kind), I ((gt a199 v204).Id), I ((gt a199 v204).A)]) :: ([14, 23, 16, 6, 24, 5], Obj.box [I x214.Id, I x214.Tenant, I x214.Prog, I x214.Pc, I x214.Unit, I x214.Keeps.a0, I x214.Keeps.a1, I x214.Keeps.a2, I x214.Keeps.a3, I x214.State, I x214.Ran]) :: ([14, 23, 16, 6, 24, 41], Obj.box [I x214.Id, I x214.Tenant, I x214.Prog, I x214.Pc, I x214.Unit, I x214.Keeps.a0, I x214.Keeps.a1, I x214.Keeps.a2, I x214.Keeps.a3, I x214.State, I x214.Ran, I ((gt a199 v204).Kind), I ((gt a199 v204).Id), I ((gt a199 v204).A)]) :: ([7000, 114, 14, 20, 2], Obj.rows 1 (rws (fun n => [I n]) v212) false) :: (pmo [14, 18] (fun n : Int => I n) trace_seen.cells (some (mix ((gt a199 v204).Id) v213, [14, 23, 16, 6, 24, 41])) (mput v213 ((gt a199 v204).Id) (trace_seen.mk x214 (gt a199 v204)))), [(Tryd.f34.ntmps, []), (Tryd.f33.ntmps, []), (Tryd.f32.ntmps, [(0, V.sl 3 (rws api_Event.cells a199)), (1, V.fn 33 [V.ptr [14, 7] 0 0]), (5, I v204), (7, I (a199.length : Int)), (8, I v204)]), (Tryd.f25.ntmps, [(1, V.sl 3 (rws api_Event.cells a199)), (7, V.ptr [14, 7] 0 0)]), (Tryd.f15.ntmps, [(1, V.sl 3 (rws api_Event.cells a199)), (4, V.nils)])], [14, 23, 16, 6, 24]⟩) (.cov ⟨rfl, rfl, (ut (ut upT_nil)), (uo (uo (uo (uo (uo (uo (uo (uo (upOb_tl rfl (by repeat first | exact Tn.here | refine Tn.cons rfl ?_) rfl))))))))), (upOut_cons rfl upT_nil (upOut_cons rfl upT_nil (upOut_cons rfl (ut (ut (ut (ut (ut upT_nil))))) (upOut_cons rfl (ut (ut upT_nil)) (upOut_cons rfl (ut (ut upT_nil)) upOut_nil))))), (cl3 rfl (wi_cons rfl (wi_cons rfl (wi_cons rfl (wi_cons rfl (wi_cons rfl (wi_cons rfl (wi_cons rfl (wi_cons rfl (wi_tl rfl (by repeat first | exact Tn.here | refine Tn.cons rfl ?_) (fun _ => rfl) (sob rfl)))))))))) rfl)⟩) ?_
          refine Safe.giveP (M := [14, 18]) (fun n : Int => I n) trace_seen.cells v213 ((gt a199 v204).Id) (trace_seen.mk x214 (gt a199 v204)) (trace_seen.mk x214 (gt a199 v204)) [14, 23, 16, 6, 24, 41] rfl rfl rfl rfl rfl (fun _ _ _ => rfl) (by repeat first | exact Tg.here | apply Tg.drop rfl rfl | apply Tg.cons rfl rfl) rfl rfl ?_
          repeat first|apply sq|apply sk|with_reducible first|apply tn|apply bn
          refine Safe.regionD (n := 12) [(8, [7000, 114, 12, 20, 2]), (8, [7000, 114, 14, 20, 2]), (11, [12, 20]), (11, [14, 20])] [] E_good mixed rfl ?_
          refine DT 0 [[12, 20], [14, 20], [7000, 114, 12, 20, 2], [7000, 114, 14, 20, 2]] rfl rfl (fun _ hz => (.fn rfl)) ?_
          refine DT 1 [[12, 20], [14, 20], [7000, 114, 12, 20, 2], [7000, 114, 14, 20, 2]] rfl rfl (fun _ hz => (.fn rfl)) ?_
          refine DT 2 [[12, 20], [14, 20], [7000, 114, 12, 20, 2], [7000, 114, 14, 20, 2]] rfl rfl (v := V.ptr [14, 20] 0 0) (fun _ hz => (.fn rfl)) ?_
          refine DT 3 [[12, 20], [14, 20], [7000, 114, 12, 20, 2], [7000, 114, 14, 20, 2]] rfl rfl (v := V.ptr [14, 20] 0 2) (fun _ hz => (.fn rfl)) ?_
          refine DT 4 [[12, 20], [7000, 114, 12, 20, 2], [7000, 114, 14, 20, 2]] rfl rfl (v := V.ref [7000, 114, 14, 20, 2] 0 (rws (fun n => [I n]) v212).length) (fun _ hz => (.load rfl rfl (.box (hz _ _ rfl rfl) rfl) rfl)) ?_
          refine DT 5 [[12, 20], [14, 20], [7000, 114, 12, 20, 2], [7000, 114, 14, 20, 2]] rfl rfl (v := V.ptr [14, 23, 16, 6, 24, 3] 0 1) (fun _ hz => (.fn rfl)) ?_
          refine DT 6 [[12, 20], [14, 20], [7000, 114, 12, 20, 2], [7000, 114, 14, 20, 2]] rfl rfl (v := I ((gt a199 v204).Id)) (fun _ hz => (.load rfl rfl (.box (hz _ _ rfl rfl) rfl) rfl)) ?_
          refine DAny.only (i := 7) rfl (by kernel_rfl) (.quiet rfl rfl rfl (.litM (f := (fun n => [I n])) (xs := [(gt a199 v204).Id]) rfl rfl (by decide) rfl rfl rfl rfl rfl) (fr1 (by repeat first|exact .here|refine .cons rfl ?_)) ?_)
          refine okG h (fun hb24689 h => ?_)
          refine DAny.only (i := 8) rfl (by kernel_rfl) (.appendM (fun n => [I n]) (xs := v212) (ys := [(gt a199 v204).Id]) rfl rfl rfl rfl rfl rfl rfl rfl (fo1 (by repeat first|exact .here|refine .cons rfl ?_)) (.own rfl) (.own rfl) (fun _ => rfl) hb24689 rfl ?_)
          refine DT 9 [[12, 20], [14, 20], [7000, 114, 12, 20, 2], [7000, 114, 14, 20, 2]] rfl rfl (v := V.ptr [14, 20] 0 0) (fun _ hz => (.fn rfl)) ?_
          refine DT 10 [[12, 20], [14, 20], [7000, 114, 12, 20, 2], [7000, 114, 14, 20, 2]] rfl rfl (v := V.ptr [14, 20] 0 2) (fun _ hz => (.fn rfl)) ?_
          refine DAny.only (i := 11) rfl (by kernel_rfl) (.store (z := Obj.box [V.sl 1 (rws (fun l => [V.sl 3 (rws api_Instr.cells l)]) a211), V.mapr [14, 18], V.ref [14, 23, 16, 6, 24, 50] 0 (rws (fun n => [I n]) (v212 ++ [(gt a199 v204).Id])).length]) rfl rfl rfl rfl rfl rfl rfl (.boxM (c := 3) rfl rfl (Nat.le_of_ble_eq_true rfl) rfl) rfl ?_)
          refine DAny.nil (by kernel_rfl) ?_
          repeat first|apply sq|apply sk|with_reducible first|apply tn|apply bn
          refine Safe.region ?_
          refine Qf E_good ?_
          refine SafeOps.nil ?_
          repeat first|apply sq|apply sk|with_reducible first|apply tn|apply bn
          refine Safe.ret ?_
          repeat (first | with_reducible refine thenQ.r ?_ | with_reducible refine blockQ.r ?_)
          refine inQ.gen (vs := [V.bool true]) (v := V.bool true) (.inr rfl) rfl (.tmp (v := V.bool true) rfl .nil) rfl ?_
          exact SafeOps.got (HJ24682 (true, v212 ++ [(gt a199 v204).Id], mput v213 ((gt a199 v204).Id) (trace_seen.mk x214 (gt a199 v204))) h) (.renp (M := [14, 18]) (fun n : Int => I n) trace_seen.cells none (mput v213 ((gt a199 v204).Id) (trace_seen.mk x214 (gt a199 v204))) [14, 23, 16, 6, 24, 50] [7000, 114, 14, 20, 2] rfl rfl rfl rfl rfl (fun _ _ _ => rfl) (fun _ _ e => by cases e) (by repeat first | exact Tp.here | refine Tp.cons rfl ?_) (.cov ⟨rfl, rfl, (ut upT_nil), (uo (uo (uo (upOb_tl rfl (by repeat first | exact Tn.here | refine Tn.cons rfl ?_) rfl)))), (upOut_cons rfl upT_nil (upOut_cons rfl (ut (ut (ut (ut (ut upT_nil))))) (upOut_cons rfl (ut (ut upT_nil)) (upOut_cons rfl (ut (ut upT_nil)) upOut_nil)))), (cl3 rfl (wi_cons rfl (wi_cons rfl (wi_cons rfl (wi_tl rfl (by repeat first | exact Tn.here | refine Tn.cons rfl ?_) (fun _ => rfl) nob)))) rfl)⟩))
     ·skip
      refine SafeOps.lookP1 (M := [14, 18]) (fun n : Int => I n) trace_seen.cells v213 ((gt a199 v204).Id) e216 [14, 23, 16, 6, 17, 1] E_good (keyI .i64) hm24670 rfl rfl rfl rfl rfl rfl rfl rfl rfl rfl rfl rfl rfl rfl rfl rfl (by decide) (fun _ _ _ => rfl) (by repeat first | exact Tg.here | apply Tg.cons rfl rfl) rfl rfl ?_
      refine SafeOps.nil ⟨rfl, ?_⟩
      refine DT 7 [] rfl rfl (fun _ hz => (.fn rfl)) ?_
      refine DT 8 [] rfl rfl (fun _ hz => (.fn rfl)) ?_
      refine DT 9 [] rfl rfl (fun _ hz => (.fn rfl)) ?_
      refine DT 10 [] rfl rfl (fun _ hz => (.fn rfl)) ?_
      refine DT 11 [] rfl rfl (fun _ hz => (.fn rfl)) ?_
      refine DAny.nil (by kernel_rfl) ?_
      repeat first|apply sq|apply sk|with_reducible first|apply tn|apply bn
      refine Safe.region ?_
      refine Qf E_good ?_
      refine Q0 E_good rfl (v := V.bool false) (.fn rfl) ?_
      refine SafeOps.nil ?_
      repeat first|apply sq|apply sk|with_reducible first|apply tn|apply bn
      refine Safe.condN rfl rfl ?_
      repeat first|apply sq|apply sk|with_reducible first|apply tn|apply bn
      refine Safe.regionD (n := 14) [] [] E_good mixed rfl ?_
      refine DT 0 [] rfl rfl (fun _ hz => (.fn rfl)) ?_
      refine DT 1 [] rfl rfl (v := V.ptr [14, 23, 16, 6, 17, 1] 0 0) (fun _ hz => (.fn rfl)) ?_
      refine DT 2 [] rfl rfl (v := V.ptr [14, 23, 16, 6, 17, 1] 0 0) (fun _ hz => (.fn rfl)) ?_
      refine DT 3 [] rfl rfl (v := V.ptr [14, 23, 16, 6, 17, 1] 0 9) (fun _ hz => (.fn rfl)) ?_
      refine DT 4 [] rfl rfl (v := I e216.Task.State) (fun _ hz => (.load rfl rfl (.box (hz _ _ rfl rfl) rfl) rfl)) ?_
      refine DT 5 [] rfl rfl (v := V.bool (e216.Task.State == 1)) (fun _ hz => (.fn rfl)) ?_
      refine DT 6 [] rfl rfl (fun _ hz => (.fn rfl)) ?_
      refine DT 7 [] rfl rfl (v := V.ptr [14, 23, 16, 6, 17, 1] 0 0) (fun _ hz => (.fn rfl)) ?_
      refine DT 8 [] rfl rfl (v := V.ptr [14, 23, 16, 6, 17, 1] 0 11) (fun _ hz => (.fn rfl)) ?_
      refine DT 9 [] rfl rfl (v := V.ptr [14, 23, 16, 6, 17, 1] 0 11) (fun _ hz => (.fn rfl)) ?_
      refine DT 10 [] rfl rfl (v := I e216.last.Kind) (fun _ hz => (.load rfl rfl (.box (hz _ _ rfl rfl) rfl) rfl)) ?_
      refine DT 11 [] rfl rfl (v := V.bool (e216.last.Kind == 2)) (fun _ hz => (.fn rfl)) ?_
      refine DT 12 [] rfl rfl (fun _ hz => (.fn rfl)) ?_
      refine DT 13 [] rfl rfl (fun _ hz => (.fn rfl)) ?_
      refine DAny.nil (by kernel_rfl) ?_
      repeat first|apply sq|apply sk|with_reducible first|apply tn|apply bn
      refine Safe.region ?_
      refine Qf E_good ?_
      refine SafeOps.nil ?_
      repeat first|apply sq|apply sk|with_reducible first|apply tn|apply bn
      refine Safe.region ?_
      refine Q0 E_good rfl (v := V.ptr [14, 23, 16, 6, 3] 0 0) (.fn rfl) ?_
      refine Q0 E_good rfl (v := I ((gt a199 v204).Kind)) (.load rfl rfl (.box rfl rfl) rfl) ?_
      refine SafeOps.nil ?_
      repeat first|apply sq|apply sk|with_reducible first|apply tn|apply bn
      refine Safe.block ?_
      repeat first|apply sq|apply sk|with_reducible first|apply tn|apply bn
      refine Safe.region ?_
      refine Q0 E_good rfl (v := V.bool (((gt a199 v204).Kind) == 2)) (.fn rfl) ?_
      refine Qf E_good ?_
      refine SafeOps.nil ?_
      repeat first|apply sq|apply sk|with_reducible first|apply tn|apply bn
      refine ifG h (fun hc24773 h => ?_) (fun hc24773 h => ?_)
      ·skip
       refine Safe.condK rfl hc24773 ?_
       repeat first|apply sq|apply sk|with_reducible first|apply tn|apply bn
       refine Safe.region ?_
       refine Qf E_good ?_
       refine Qf E_good ?_
       refine Q0 E_good rfl (v := V.ptr [14, 23, 16, 6, 3] 0 2) (.fn rfl) ?_
       refine Q0 E_good rfl (v := I ((gt a199 v204).A)) (.load rfl rfl (.box rfl rfl) rfl) ?_
       refine SafeOps.inline E_good rfl rfl rfl rfl rfl Tryd.func44 rfl (fun _ _ => Tryd.call44 _ _) rfl ?_
       repeat first|apply sq|apply sk|with_reducible first|apply tn|apply bn
       refine Safe.region ?_
       refine Qf E_good ?_
       refine SafeOps.nil ?_
       repeat first|apply sq|apply sk|with_reducible first|apply tn|apply bn
       refine Safe.regionD (n := 12) [] [] E_good mixed rfl ?_
       refine DT 0 [] rfl rfl (fun _ hz => (.fn rfl)) ?_
       refine DT 1 [] rfl rfl (v := V.ptr [14, 20] 0 0) (fun _ hz => (.fn rfl)) ?_
       refine DT 2 [] rfl rfl (v := V.ptr [14, 20] 0 0) (fun _ hz => (.fn rfl)) ?_
       refine DT 3 [] rfl rfl (v := V.sl 1 (rws (fun l => [V.sl 3 (rws api_Instr.cells l)]) a211)) (fun _ hz => (.load rfl rfl (.box (hz _ _ rfl rfl) rfl) rfl)) ?_
       refine DT 4 [] rfl rfl (fun _ hz => (.fn rfl)) ?_
       refine DT 5 [] rfl rfl (v := V.ptr [14, 23, 16, 6, 17, 1] 0 0) (fun _ hz => (.fn rfl)) ?_
       refine DT 6 [] rfl rfl (v := V.ptr [14, 23, 16, 6, 17, 1] 0 0) (fun _ hz => (.fn rfl)) ?_
       refine DT 7 [] rfl rfl (v := V.ptr [14, 23, 16, 6, 17, 1] 0 2) (fun _ hz => (.fn rfl)) ?_
       refine DT 8 [] rfl rfl (v := I e216.Task.Prog) (fun _ hz => (.load rfl rfl (.box (hz _ _ rfl rfl) rfl) rfl)) ?_
       refine okG h (fun hb24807 h => ?_)
       refine DT 9 [] rfl rfl (v := V.spt 1 (rws (fun l => [V.sl 3 (rws api_Instr.cells l)]) a211) (Int.toNat e216.Task.Prog) 0) (fun _ hz => (.idxSlM (f := (fun l => [V.sl 3 (rws api_Instr.cells l)])) rfl rfl rfl rfl rfl hb24807)) ?_
       refine DT 10 [] rfl rfl (v := V.sl 3 (rws api_Instr.cells (gt a211 e216.Task.Prog))) (fun _ hz => (.load rfl rfl (.sptM (f := (fun l => [V.sl 3 (rws api_Instr.cells l)])) hb24807 rfl) rfl)) ?_
       refine DT 11 [] rfl rfl (fun _ hz => (.fn rfl)) ?_
       refine DAny.nil (by kernel_rfl) ?_
       repeat first|apply sq|apply sk|with_reducible first|apply tn|apply bn
       refine Safe.region ?_
       refine Qf E_good ?_
       refine Q0 E_good rfl (v := V.ptr [14, 23, 16, 6, 17, 1] 0 0) (.fn rfl) ?_
       refine Q0 E_good rfl (v := V.ptr [14, 23, 16, 6, 17, 1] 0 0) (.fn rfl) ?_
       refine Q0 E_good rfl (v := V.agg [I e216.Task.Id, I e216.Task.Tenant, I e216.Task.Prog, I e216.Task.Pc, I e216.Task.Unit, I e216.Task.Keeps.a0, I e216.Task.Keeps.a1, I e216.Task.Keeps.a2, I e216.Task.Keeps.a3, I e216.Task.State, I e216.Task.Ran]) (.load rfl rfl (.box rfl rfl) rfl) ?_
       refine Qf E_good ?_
       refine bindG h ?_
       rintro ⟨x217, x218⟩ he24810 h
       refine Q0 E_good rfl (v := V.tup [V.agg [I x217.Op, I x217.A, I x217.B], I x218]) (.callP rfl rfl (go_step_Next_sc e216.Task (gt a211 e216.Task.Prog) _ he24810) rfl) ?_
       refine Qf E_good ?_
       refine Qf E_good ?_
       refine Qf E_good ?_
       refine SafeOps.quiet1 E_good rfl rfl rfl (.alloc rfl rfl) (fr1 (by repeat first|exact .here|refine .cons rfl ?_)) ?_
       refine SafeOps.store (z := Obj.box [I x217.Op, I x217.A, I x217.B]) E_good rfl rfl rfl rfl rfl rfl rfl (.boxM (c := 3) rfl rfl (Nat.le_of_ble_eq_true rfl) rfl) ?_
       refine Qf E_good ?_
       refine SafeOps.nil ?_
       repeat first|apply sq|apply sk|with_reducible first|apply tn|apply bn
       refine Safe.region ?_
       refine Qf E_good ?_
       refine Q0 E_good rfl (v := V.bool (x218 != 0)) (.fn rfl) ?_
       refine Qf E_good ?_
       refine SafeOps.bjoin 7 40 (b := ((x218 != 0) || (e216.Task.State != 1))) (b1 := true) (b0 := (e216.Task.State != 1)) (fun hc24811 K => ?_) (fun hc24811 K => ?_) bj_or ?_
       ·skip
        refine sF hc24811 ?_
        refine sF hc24811 ?_
        refine sF hc24811 ?_
        refine sF hc24811 ?_
        refine sF hc24811 ?_
        refine sF hc24811 ?_
        refine Q0 E_good rfl (v := V.bool true) (.pickK rfl hc24811 rfl) ?_
        exact SafeOps.drop' 7 rfl rfl rfl K
       ·skip
        refine qF E_good hc24811 (.fn rfl) ?_
        refine qF E_good hc24811 (v := V.ptr [14, 23, 16, 6, 17, 1] 0 0) (.fn rfl) ?_
        refine qF E_good hc24811 (v := V.ptr [14, 23, 16, 6, 17, 1] 0 0) (.fn rfl) ?_
        refine qF E_good hc24811 (v := V.ptr [14, 23, 16, 6, 17, 1] 0 9) (.fn rfl) ?_
        refine qF E_good hc24811 (v := I e216.Task.State) (.load rfl rfl (.box rfl rfl) rfl) ?_
        refine qF E_good hc24811 (v := V.bool (e216.Task.State != 1)) (.fn rfl) ?_
        refine Q0 E_good rfl (v := V.bool (e216.Task.State != 1)) (.pickK rfl hc24811 rfl) ?_
        exact SafeOps.drop' 7 rfl rfl rfl K
       refine Qf E_good ?_
       refine SafeOps.bjoin 5 46 (b := (((x218 != 0) || (e216.Task.State != 1)) || (x217.Op != ((gt a199 v204).A)))) (b1 := true) (b0 := (x217.Op != ((gt a199 v204).A))) (fun hc24812 K => ?_) (fun hc24812 K => ?_) bj_or ?_
       ·skip
        refine sF hc24812 ?_
        refine sF hc24812 ?_
        refine sF hc24812 ?_
        refine sF hc24812 ?_
        refine Q0 E_good rfl (v := V.bool true) (.pickK rfl hc24812 rfl) ?_
        exact SafeOps.drop' 5 rfl rfl rfl K
       ·skip
        refine qF E_good hc24812 (v := V.ptr [14, 23, 16, 6, 45, 8] 0 0) (.fn rfl) ?_
        refine qF E_good hc24812 (v := I x217.Op) (.load rfl rfl (.box rfl rfl) rfl) ?_
        refine qF E_good hc24812 (.fn rfl) ?_
        refine qF E_good hc24812 (v := V.bool (x217.Op != ((gt a199 v204).A))) (.fn rfl) ?_
        refine Q0 E_good rfl (v := V.bool (x217.Op != ((gt a199 v204).A))) (.pickK rfl hc24812 rfl) ?_
        exact SafeOps.drop' 5 rfl rfl rfl K
       refine Qf E_good ?_
       refine SafeOps.bjoin 15 62 (b := ((((x218 != 0) || (e216.Task.State != 1)) || (x217.Op != ((gt a199 v204).A))) || ((e216.last.Kind == 2) && (e216.last.A == 9)))) (b1 := true) (b0 := ((e216.last.Kind == 2) && (e216.last.A == 9))) (fun hc24813 K => ?_) (fun hc24813 K => ?_) bj_or ?_
       ·skip
        refine sF hc24813 ?_
        refine sF hc24813 ?_
        refine sF hc24813 ?_
        refine sF hc24813 ?_
        refine sF hc24813 ?_
        refine sF hc24813 ?_
        refine sF hc24813 ?_
        refine SafeOps.skip rfl rfl rfl ?_
        refine SafeOps.skip rfl rfl rfl ?_
        refine SafeOps.skip rfl rfl rfl ?_
        refine SafeOps.skip rfl rfl rfl ?_
        refine SafeOps.skip rfl rfl rfl ?_
        refine SafeOps.skip rfl rfl rfl ?_
        refine sF hc24813 ?_
        refine Q0 E_good rfl (v := V.bool true) (.pickK rfl hc24813 rfl) ?_
        exact SafeOps.drop' 15 rfl rfl rfl K
       ·skip
        refine qF E_good hc24813 (.fn rfl) ?_
        refine qF E_good hc24813 (v := V.ptr [14, 23, 16, 6, 17, 1] 0 0) (.fn rfl) ?_
        refine qF E_good hc24813 (v := V.ptr [14, 23, 16, 6, 17, 1] 0 11) (.fn rfl) ?_
        refine qF E_good hc24813 (v := V.ptr [14, 23, 16, 6, 17, 1] 0 11) (.fn rfl) ?_
        refine qF E_good hc24813 (v := I e216.last.Kind) (.load rfl rfl (.box rfl rfl) rfl) ?_
        refine qF E_good hc24813 (v := V.bool (e216.last.Kind == 2)) (.fn rfl) ?_
        refine qF E_good hc24813 (.fn rfl) ?_
        refine SafeOps.bjoin 7 61 (b := ((e216.last.Kind == 2) && (e216.last.A == 9))) (b1 := (e216.last.A == 9)) (b0 := false) (fun hc24814 K => ?_) (fun hc24814 K => ?_) bj_and ?_
        ·skip
         refine qT E_good hc24814 (.fn rfl) ?_
         refine qT E_good hc24814 (v := V.ptr [14, 23, 16, 6, 17, 1] 0 0) (.fn rfl) ?_
         refine qT E_good hc24814 (v := V.ptr [14, 23, 16, 6, 17, 1] 0 11) (.fn rfl) ?_
         refine qT E_good hc24814 (v := V.ptr [14, 23, 16, 6, 17, 1] 0 13) (.fn rfl) ?_
         refine qT E_good hc24814 (v := I e216.last.A) (.load rfl rfl (.box rfl rfl) rfl) ?_
         refine qT E_good hc24814 (v := V.bool (e216.last.A == 9)) (.fn rfl) ?_
         refine qF E_good hc24813 (v := V.bool (e216.last.A == 9)) (.pickK rfl hc24814 rfl) ?_
         exact SafeOps.drop' 7 rfl rfl rfl K
        ·skip
         refine sT hc24814 ?_
         refine sT hc24814 ?_
         refine sT hc24814 ?_
         refine sT hc24814 ?_
         refine sT hc24814 ?_
         refine sT hc24814 ?_
         refine qF E_good hc24813 (v := V.bool false) (.pickK rfl hc24814 rfl) ?_
         exact SafeOps.drop' 7 rfl rfl rfl K
        refine Q0 E_good rfl (v := V.bool ((e216.last.Kind == 2) && (e216.last.A == 9))) (.pickK rfl hc24813 rfl) ?_
        exact SafeOps.drop' 9 rfl rfl rfl K
       refine SafeOps.nil ?_
       repeat first|apply sq|apply sk|with_reducible first|apply tn|apply bn
       refine ifG h (fun hc24815 h => ?_) (fun hc24815 h => ?_)
       ·skip
        refine Safe.condK rfl hc24815 ?_
        repeat first|apply sq|apply sk|with_reducible first|apply tn|apply bn
        refine Safe.region ?_
        refine Qf E_good ?_
        refine SafeOps.nil ?_
        repeat first|apply sq|apply sk|with_reducible first|apply tn|apply bn
        refine Safe.ret ?_
        repeat (first | with_reducible refine thenQ.r ?_ | with_reducible refine blockQ.r ?_)
        refine inQ.gen (vs := [V.bool false]) (v := V.bool false) (.inr rfl) rfl (.tmp (v := V.bool false) rfl .nil) rfl ?_
        refine Qf E_good ?_
        refine SafeOps.nil ?_
        repeat first|apply sq|apply sk|with_reducible first|apply tn|apply bn
        refine Safe.region ?_
        refine Qf E_good ?_
        refine Q0 E_good rfl (v := V.agg [I ((gt a199 v204).Kind), I ((gt a199 v204).Id), I ((gt a199 v204).A)]) (.load rfl rfl (.box rfl rfl) rfl) ?_
        refine Q0 E_good rfl (v := V.ptr [14, 23, 16, 6, 17, 1] 0 0) (.fn rfl) ?_
        refine Q0 E_good rfl (v := V.ptr [14, 23, 16, 6, 17, 1] 0 11) (.fn rfl) ?_
        refine SafeOps.store (z := Obj.box [I e216.Task.Id, I e216.Task.Tenant, I e216.Task.Prog, I e216.Task.Pc, I e216.Task.Unit, I e216.Task.Keeps.a0, I e216.Task.Keeps.a1, I e216.Task.Keeps.a2, I e216.Task.Keeps.a3, I e216.Task.State, I e216.Task.Ran, I ((gt a199 v204).Kind), I ((gt a199 v204).Id), I ((gt a199 v204).A)]) E_good rfl rfl rfl rfl rfl rfl rfl (.boxM (c := 14) rfl rfl (Nat.le_of_ble_eq_true rfl) rfl) ?_
        refine SafeOps.gets (τ := ⟨Tryd.f34.ntmps, [(9, V.bool false)], ([14, 7], Obj.box [V.ptr [14, 20] 0 0]) :: ([14, 20], Obj.box [V.sl 1 (rws (fun l => [V.sl 3 (rws api_Instr.cells l)]) a211), V.mapr [14, 18], V.ref [7000, 114, 14, 20, 2] 0 (rws (fun n => [I n]) v212).length]) :: ([14, 23, 16, 2], Obj.box [I ((gt a199 v204).Kind), I ((gt a199 v204).Id), I ((gt a199 v204).A)]) :: ([14, 23, 16, 6, 3], Obj.box [I ((gt a199 v204).Kind), I ((gt a199 v204).Id), I ((gt a199 v204).A)]) :: ([14, 23, 16, 6, 17, 1], Obj.box [I e216.Task.Id, I e216.Task.Tenant, I e216.Task.Prog, I e216.Task.Pc, I e216.Task.Unit, I e216.Task.Keeps.a0, I e216.Task.Keeps.a1, I e216.Task.Keeps.a2, I e216.Task.Keeps.a3, I e216.Task.State, I e216.Task.Ran, I ((gt a199 v204).Kind), I ((gt a199 v204).Id), I ((gt a199 v204).A)]) :: ([14, 23, 16, 6, 45, 8], Obj.box [I x217.Op, I x217.A, I x217.B]) :: ([7000, 114, 14, 20, 2], Obj.rows 1 (rws (fun n => [I n]) v212) false) :: (pmo [14, 18] (fun n : Int => I n) trace_seen.cells (some (mix ((gt a199 v204).Id) v213, [14, 23, 16, 6, 17, 1])) (mput v213 ((gt a199 v204).Id) e216)), [(Tryd.f33.ntmps, []), (Tryd.f32.ntmps, [(0, V.sl 3 (rws api_Event.cells a199)), (1, V.fn 33 [V.ptr [14, 7] 0 0]), (5, I v204), (7, I (a199.length : Int)), (8, I v204)]), (Tryd.f25.ntmps, [(1, V.sl 3 (rws api_Event.cells a199)), (7, V.ptr [14, 7] 0 0)]), (Tryd.f15.ntmps, [(1, V.sl 3 (rws api_Event.cells a199)), (4, V.nils)])], [14, 23, 16, 6]⟩) (.cov ⟨rfl, rfl, (ut upT_nil), (uo (uo (uo (uo (uo (uo (uo (upOb_tl rfl (by repeat first | exact Tn.here | refine Tn.cons rfl ?_) rfl)))))))), (upOut_cons rfl upT_nil (upOut_cons rfl (ut (ut (ut (ut (ut upT_nil))))) (upOut_cons rfl (ut (ut upT_nil)) (upOut_cons rfl (ut (ut upT_nil)) upOut_nil)))), (cl3 rfl (wi_cons rfl (wi_cons rfl (wi_cons rfl (wi_cons rfl (wi_cons rfl (wi_cons rfl (wi_cons rfl (wi_tl rfl (by repeat first | exact Tn.here | refine Tn.cons rfl ?_) (fun _ => rfl) (sob rfl))))))))) rfl)⟩) ?_
        refine SafeOps.giveP (M := [14, 18]) (fun n : Int => I n) trace_seen.cells v213 ((gt a199 v204).Id) e216 (trace_seen.mk e216.Task (gt a199 v204)) [14, 23, 16, 6, 17, 1] rfl rfl rfl rfl rfl (fun _ _ _ => rfl) (by repeat first | exact Tg.here | apply Tg.drop rfl rfl | apply Tg.cons rfl rfl) rfl rfl ?_
        refine SafeOps.nil ?_
        repeat first|apply sq|apply sk|with_reducible first|apply tn|apply bn
        refine Safe.region ?_
        refine Qf E_good ?_
        refine Qf E_good ?_
        refine SafeOps.nil ?_
        repeat first|apply sq|apply sk|with_reducible first|apply tn|apply bn
        refine Safe.ret ?_
        repeat (first | with_reducible refine thenQ.r ?_ | with_reducible refine blockQ.r ?_)
        refine inQ.gen (vs := [V.bool false]) (v := V.bool false) (.inr rfl) rfl (.tmp (v := V.bool false) rfl .nil) rfl ?_
        exact SafeOps.got (HJ24668 (false, v212, mput v213 ((gt a199 v204).Id) (trace_seen.mk e216.Task (gt a199 v204))) h) (.cov ⟨rfl, rfl, (ut upT_nil), (uo (uo (uo (upOb_tl rfl (by repeat first | exact Tn.here | refine Tn.cons rfl ?_) rfl)))), (upOut_cons rfl (ut (ut (ut (ut (ut upT_nil))))) (upOut_cons rfl (ut (ut upT_nil)) (upOut_cons rfl (ut (ut upT_nil)) upOut_nil))), (cl3 rfl (wi_cons rfl (wi_cons rfl (wi_cons rfl (wi_tl rfl (by repeat first | exact Tn.here | refine Tn.cons rfl ?_) (fun _ => rfl) nob)))) rfl)⟩)
       ·skip
        refine Safe.condN rfl hc24815 ?_
        repeat first|apply sq|apply sk|with_reducible first|apply tn|apply bn
        refine Safe.region ?_
        refine Qf E_good ?_
        refine Q0 E_good rfl (v := V.ptr [14, 23, 16, 6, 17, 1] 0 0) (.fn rfl) ?_
        refine Q0 E_good rfl (v := V.ptr [14, 23, 16, 6, 17, 1] 0 0) (.fn rfl) ?_
        refine Q0 E_good rfl (v := V.agg [I e216.Task.Id, I e216.Task.Tenant, I e216.Task.Prog, I e216.Task.Pc, I e216.Task.Unit, I e216.Task.Keeps.a0, I e216.Task.Keeps.a1, I e216.Task.Keeps.a2, I e216.Task.Keeps.a3, I e216.Task.State, I e216.Task.Ran]) (.load rfl rfl (.box rfl rfl) rfl) ?_
        refine bindG h ?_
        rintro ⟨x219, x220⟩ he24818 h
        refine Q0 E_good rfl (v := V.tup [V.agg [I x219.Id, I x219.Tenant, I x219.Prog, I x219.Pc, I x219.Unit, I x219.Keeps.a0, I x219.Keeps.a1, I x219.Keeps.a2, I x219.Keeps.a3, I x219.State, I x219.Ran], I x220]) (.callP rfl rfl (go_life_Move_sc e216.Task 2 _ he24818) rfl) ?_
        refine Qf E_good ?_
        refine Qf E_good ?_
        refine Qf E_good ?_
        refine SafeOps.quiet1 E_good rfl rfl rfl (.alloc rfl rfl) (fr1 (by repeat first|exact .here|refine .cons rfl ?_)) ?_
        refine SafeOps.store (z := Obj.box [I x219.Id, I x219.Tenant, I x219.Prog, I x219.Pc, I x219.Unit, I x219.Keeps.a0, I x219.Keeps.a1, I x219.Keeps.a2, I x219.Keeps.a3, I x219.State, I x219.Ran]) E_good rfl rfl rfl rfl rfl rfl rfl (.boxM (c := 11) rfl rfl (Nat.le_of_ble_eq_true rfl) rfl) ?_
        refine Qf E_good ?_
        refine SafeOps.nil ?_
        repeat first|apply sq|apply sk|with_reducible first|apply tn|apply bn
        refine Safe.region ?_
        refine Qf E_good ?_
        refine Q0 E_good rfl (v := V.bool (x220 != 0)) (.fn rfl) ?_
        refine SafeOps.nil ?_
        repeat first|apply sq|apply sk|with_reducible first|apply tn|apply bn
        refine ifG h (fun hc24819 h => ?_) (fun hc24819 h => ?_)
        ·skip
         refine Safe.condK rfl hc24819 ?_
         repeat first|apply sq|apply sk|with_reducible first|apply tn|apply bn
         refine Safe.region ?_
         refine Qf E_good ?_
         refine SafeOps.nil ?_
         repeat first|apply sq|apply sk|with_reducible first|apply tn|apply bn
         refine Safe.ret ?_
         repeat (first | with_reducible refine thenQ.r ?_ | with_reducible refine blockQ.r ?_)
         refine inQ.gen (vs := [V.bool false]) (v := V.bool false) (.inr rfl) rfl (.tmp (v := V.bool false) rfl .nil) rfl ?_
         refine Qf E_good ?_
         refine SafeOps.nil ?_
         repeat first|apply sq|apply sk|with_reducible first|apply tn|apply bn
         refine Safe.region ?_
         refine Qf E_good ?_
         refine Q0 E_good rfl (v := V.agg [I ((gt a199 v204).Kind), I ((gt a199 v204).Id), I ((gt a199 v204).A)]) (.load rfl rfl (.box rfl rfl) rfl) ?_
         refine Q0 E_good rfl (v := V.ptr [14, 23, 16, 6, 17, 1] 0 0) (.fn rfl) ?_
         refine Q0 E_good rfl (v := V.ptr [14, 23, 16, 6, 17, 1] 0 11) (.fn rfl) ?_
         refine SafeOps.store (z := Obj.box [I e216.Task.Id, I e216.Task.Tenant, I e216.Task.Prog, I e216.Task.Pc, I e216.Task.Unit, I e216.Task.Keeps.a0, I e216.Task.Keeps.a1, I e216.Task.Keeps.a2, I e216.Task.Keeps.a3, I e216.Task.State, I e216.Task.Ran, I ((gt a199 v204).Kind), I ((gt a199 v204).Id), I ((gt a199 v204).A)]) E_good rfl rfl rfl rfl rfl rfl rfl (.boxM (c := 14) rfl rfl (Nat.le_of_ble_eq_true rfl) rfl) ?_
         refine SafeOps.gets (τ := ⟨Tryd.f34.ntmps, [(9, V.bool false)], ([14, 7], Obj.box [V.ptr [14, 20] 0 0]) :: ([14, 20], Obj.box [V.sl 1 (rws (fun l => [V.sl 3 (rws api_Instr.cells l)]) a211), V.mapr [14, 18], V.ref [7000, 114, 14, 20, 2] 0 (rws (fun n => [I n]) v212).length]) :: ([14, 23, 16, 2], Obj.box [I ((gt a199 v204).Kind), I ((gt a199 v204).Id), I ((gt a199 v204).A)]) :: ([14, 23, 16, 6, 3], Obj.box [I ((gt a199 v204).Kind), I ((gt a199 v204).Id), I ((gt a199 v204).A)]) :: ([14, 23, 16, 6, 17, 1], Obj.box [I e216.Task.Id, I e216.Task.Tenant, I e216.Task.Prog, I e216.Task.Pc, I e216.Task.Unit, I e216.Task.Keeps.a0, I e216.Task.Keeps.a1, I e216.Task.Keeps.a2, I e216.Task.Keeps.a3, I e216.Task.State, I e216.Task.Ran, I ((gt a199 v204).Kind), I ((gt a199 v204).Id), I ((gt a199 v204).A)]) :: ([14, 23, 16, 6, 45, 8], Obj.box [I x217.Op, I x217.A, I x217.B]) :: ([14, 23, 16, 6, 45, 10], Obj.box [I x219.Id, I x219.Tenant, I x219.Prog, I x219.Pc, I x219.Unit, I x219.Keeps.a0, I x219.Keeps.a1, I x219.Keeps.a2, I x219.Keeps.a3, I x219.State, I x219.Ran]) :: ([7000, 114, 14, 20, 2], Obj.rows 1 (rws (fun n => [I n]) v212) false) :: (pmo [14, 18] (fun n : Int => I n) trace_seen.cells (some (mix ((gt a199 v204).Id) v213, [14, 23, 16, 6, 17, 1])) (mput v213 ((gt a199 v204).Id) e216)), [(Tryd.f33.ntmps, []), (Tryd.f32.ntmps, [(0, V.sl 3 (rws api_Event.cells a199)), (1, V.fn 33 [V.ptr [14, 7] 0 0]), (5, I v204), (7, I (a199.length : Int)), (8, I v204)]), (Tryd.f25.ntmps, [(1, V.sl 3 (rws api_Event.cells a199)), (7, V.ptr [14, 7] 0 0)]), (Tryd.f15.ntmps, [(1, V.sl 3 (rws api_Event.cells a199)), (4, V.nils)])], [14, 23, 16, 6]⟩) (.cov ⟨rfl, rfl, (ut upT_nil), (uo (uo (uo (uo (uo (uo (uo (uo (upOb_tl rfl (by repeat first | exact Tn.here | refine Tn.cons rfl ?_) rfl))))))))), (upOut_cons rfl upT_nil (upOut_cons rfl (ut (ut (ut (ut (ut upT_nil))))) (upOut_cons rfl (ut (ut upT_nil)) (upOut_cons rfl (ut (ut upT_nil)) upOut_nil)))), (cl3 rfl (wi_cons rfl (wi_cons rfl (wi_cons rfl (wi_cons rfl (wi_cons rfl (wi_cons rfl (wi_cons rfl (wi_cons rfl (wi_tl rfl (by repeat first | exact Tn.here | refine Tn.cons rfl ?_) (fun _ => rfl) (sob rfl)))))))))) rfl)⟩) ?_
         refine SafeOps.giveP (M := [14, 18]) (fun n : Int => I n) trace_seen.cells v213 ((gt a199 v204).Id) e216 (trace_seen.mk e216.Task (gt a199 v204)) [14, 23, 16, 6, 17, 1] rfl rfl rfl rfl rfl (fun _ _ _ => rfl) (by repeat first | exact Tg.here | apply Tg.drop rfl rfl | apply Tg.cons rfl rfl) rfl rfl ?_
         refine SafeOps.nil ?_
         repeat first|apply sq|apply sk|with_reducible first|apply tn|apply bn
         refine Safe.region ?_
         refine Qf E_good ?_
         refine Qf E_good ?_
         refine SafeOps.nil ?_
         repeat first|apply sq|apply sk|with_reducible first|apply tn|apply bn
         refine Safe.ret ?_
         repeat (first | with_reducible refine thenQ.r ?_ | with_reducible refine blockQ.r ?_)
         refine inQ.gen (vs := [V.bool false]) (v := V.bool false) (.inr rfl) rfl (.tmp (v := V.bool false) rfl .nil) rfl ?_
         exact SafeOps.got (HJ24668 (false, v212, mput v213 ((gt a199 v204).Id) (trace_seen.mk e216.Task (gt a199 v204))) h) (.cov ⟨rfl, rfl, (ut upT_nil), (uo (uo (uo (upOb_tl rfl (by repeat first | exact Tn.here | refine Tn.cons rfl ?_) rfl)))), (upOut_cons rfl (ut (ut (ut (ut (ut upT_nil))))) (upOut_cons rfl (ut (ut upT_nil)) (upOut_cons rfl (ut (ut upT_nil)) upOut_nil))), (cl3 rfl (wi_cons rfl (wi_cons rfl (wi_cons rfl (wi_tl rfl (by repeat first | exact Tn.here | refine Tn.cons rfl ?_) (fun _ => rfl) nob)))) rfl)⟩)
        ·skip
         refine Safe.condN rfl hc24819 ?_
         repeat first|apply sq|apply sk|with_reducible first|apply tn|apply bn
         refine Safe.region ?_
         refine Q0 E_good rfl (v := V.agg [I x219.Id, I x219.Tenant, I x219.Prog, I x219.Pc, I x219.Unit, I x219.Keeps.a0, I x219.Keeps.a1, I x219.Keeps.a2, I x219.Keeps.a3, I x219.State, I x219.Ran]) (.load rfl rfl (.box rfl rfl) rfl) ?_
         refine Qf E_good ?_
         refine bindG h ?_
         rintro ⟨x221, x222, x223⟩ he24823 h
         refine Q0 E_good rfl (v := V.tup [V.agg [I x221.Id, I x221.Tenant, I x221.Prog, I x221.Pc, I x221.Unit, I x221.Keeps.a0, I x221.Keeps.a1, I x221.Keeps.a2, I x221.Keeps.a3, I x221.State, I x221.Ran], V.agg [I x222.Kind, I x222.A, I x222.B], I x223]) (.callP rfl rfl (go_step_Do_sc x219 (gt a211 e216.Task.Prog) _ he24823) rfl) ?_
         refine Qf E_good ?_
         refine Qf E_good ?_
         refine Qf E_good ?_
         refine Qf E_good ?_
         refine SafeOps.store (z := Obj.box [I x221.Id, I x221.Tenant, I x221.Prog, I x221.Pc, I x221.Unit, I x221.Keeps.a0, I x221.Keeps.a1, I x221.Keeps.a2, I x221.Keeps.a3, I x221.State, I x221.Ran]) E_good rfl rfl rfl rfl rfl rfl rfl (.boxM (c := 11) rfl rfl (Nat.le_of_ble_eq_true rfl) rfl) ?_
         refine Qf E_good ?_
         refine SafeOps.nil ?_
         repeat first|apply sq|apply sk|with_reducible first|apply tn|apply bn
         refine Safe.region ?_
         refine Qf E_good ?_
         refine Q0 E_good rfl (v := V.bool (x223 != 0)) (.fn rfl) ?_
         refine SafeOps.nil ?_
         repeat first|apply sq|apply sk|with_reducible first|apply tn|apply bn
         refine ifG h (fun hc24824 h => ?_) (fun hc24824 h => ?_)
         ·skip
          refine Safe.condK rfl hc24824 ?_
          repeat first|apply sq|apply sk|with_reducible first|apply tn|apply bn
          refine Safe.region ?_
          refine Qf E_good ?_
          refine SafeOps.nil ?_
          repeat first|apply sq|apply sk|with_reducible first|apply tn|apply bn
          refine Safe.ret ?_
          repeat (first | with_reducible refine thenQ.r ?_ | with_reducible refine blockQ.r ?_)
          refine inQ.gen (vs := [V.bool false]) (v := V.bool false) (.inr rfl) rfl (.tmp (v := V.bool false) rfl .nil) rfl ?_
          refine Qf E_good ?_
          refine SafeOps.nil ?_
          repeat first|apply sq|apply sk|with_reducible first|apply tn|apply bn
          refine Safe.region ?_
          refine Qf E_good ?_
          refine Q0 E_good rfl (v := V.agg [I ((gt a199 v204).Kind), I ((gt a199 v204).Id), I ((gt a199 v204).A)]) (.load rfl rfl (.box rfl rfl) rfl) ?_
          refine Q0 E_good rfl (v := V.ptr [14, 23, 16, 6, 17, 1] 0 0) (.fn rfl) ?_
          refine Q0 E_good rfl (v := V.ptr [14, 23, 16, 6, 17, 1] 0 11) (.fn rfl) ?_
          refine SafeOps.store (z := Obj.box [I e216.Task.Id, I e216.Task.Tenant, I e216.Task.Prog, I e216.Task.Pc, I e216.Task.Unit, I e216.Task.Keeps.a0, I e216.Task.Keeps.a1, I e216.Task.Keeps.a2, I e216.Task.Keeps.a3, I e216.Task.State, I e216.Task.Ran, I ((gt a199 v204).Kind), I ((gt a199 v204).Id), I ((gt a199 v204).A)]) E_good rfl rfl rfl rfl rfl rfl rfl (.boxM (c := 14) rfl rfl (Nat.le_of_ble_eq_true rfl) rfl) ?_
          refine SafeOps.gets (τ := ⟨Tryd.f34.ntmps, [(9, V.bool false)], ([14, 7], Obj.box [V.ptr [14, 20] 0 0]) :: ([14, 20], Obj.box [V.sl 1 (rws (fun l => [V.sl 3 (rws api_Instr.cells l)]) a211), V.mapr [14, 18], V.ref [7000, 114, 14, 20, 2] 0 (rws (fun n => [I n]) v212).length]) :: ([14, 23, 16, 2], Obj.box [I ((gt a199 v204).Kind), I ((gt a199 v204).Id), I ((gt a199 v204).A)]) :: ([14, 23, 16, 6, 3], Obj.box [I ((gt a199 v204).Kind), I ((gt a199 v204).Id), I ((gt a199 v204).A)]) :: ([14, 23, 16, 6, 17, 1], Obj.box [I e216.Task.Id, I e216.Task.Tenant, I e216.Task.Prog, I e216.Task.Pc, I e216.Task.Unit, I e216.Task.Keeps.a0, I e216.Task.Keeps.a1, I e216.Task.Keeps.a2, I e216.Task.Keeps.a3, I e216.Task.State, I e216.Task.Ran, I ((gt a199 v204).Kind), I ((gt a199 v204).Id), I ((gt a199 v204).A)]) :: ([14, 23, 16, 6, 45, 8], Obj.box [I x217.Op, I x217.A, I x217.B]) :: ([14, 23, 16, 6, 45, 10], Obj.box [I x221.Id, I x221.Tenant, I x221.Prog, I x221.Pc, I x221.Unit, I x221.Keeps.a0, I x221.Keeps.a1, I x221.Keeps.a2, I x221.Keeps.a3, I x221.State, I x221.Ran]) :: ([7000, 114, 14, 20, 2], Obj.rows 1 (rws (fun n => [I n]) v212) false) :: (pmo [14, 18] (fun n : Int => I n) trace_seen.cells (some (mix ((gt a199 v204).Id) v213, [14, 23, 16, 6, 17, 1])) (mput v213 ((gt a199 v204).Id) e216)), [(Tryd.f33.ntmps, []), (Tryd.f32.ntmps, [(0, V.sl 3 (rws api_Event.cells a199)), (1, V.fn 33 [V.ptr [14, 7] 0 0]), (5, I v204), (7, I (a199.length : Int)), (8, I v204)]), (Tryd.f25.ntmps, [(1, V.sl 3 (rws api_Event.cells a199)), (7, V.ptr [14, 7] 0 0)]), (Tryd.f15.ntmps, [(1, V.sl 3 (rws api_Event.cells a199)), (4, V.nils)])], [14, 23, 16, 6]⟩) (.cov ⟨rfl, rfl, (ut upT_nil), (uo (uo (uo (uo (uo (uo (uo (uo (upOb_tl rfl (by repeat first | exact Tn.here | refine Tn.cons rfl ?_) rfl))))))))), (upOut_cons rfl upT_nil (upOut_cons rfl (ut (ut (ut (ut (ut upT_nil))))) (upOut_cons rfl (ut (ut upT_nil)) (upOut_cons rfl (ut (ut upT_nil)) upOut_nil)))), (cl3 rfl (wi_cons rfl (wi_cons rfl (wi_cons rfl (wi_cons rfl (wi_cons rfl (wi_cons rfl (wi_cons rfl (wi_cons rfl (wi_tl rfl (by repeat first | exact Tn.here | refine Tn.cons rfl ?_) (fun _ => rfl) (sob rfl)))))))))) rfl)⟩) ?_
          refine SafeOps.giveP (M := [14, 18]) (fun n : Int => I n) trace_seen.cells v213 ((gt a199 v204).Id) e216 (trace_seen.mk e216.Task (gt a199 v204)) [14, 23, 16, 6, 17, 1] rfl rfl rfl rfl rfl (fun _ _ _ => rfl) (by repeat first | exact Tg.here | apply Tg.drop rfl rfl | apply Tg.cons rfl rfl) rfl rfl ?_
          refine SafeOps.nil ?_
          repeat first|apply sq|apply sk|with_reducible first|apply tn|apply bn
          refine Safe.region ?_
          refine Qf E_good ?_
          refine Qf E_good ?_
          refine SafeOps.nil ?_
          repeat first|apply sq|apply sk|with_reducible first|apply tn|apply bn
          refine Safe.ret ?_
          repeat (first | with_reducible refine thenQ.r ?_ | with_reducible refine blockQ.r ?_)
          refine inQ.gen (vs := [V.bool false]) (v := V.bool false) (.inr rfl) rfl (.tmp (v := V.bool false) rfl .nil) rfl ?_
          exact SafeOps.got (HJ24668 (false, v212, mput v213 ((gt a199 v204).Id) (trace_seen.mk e216.Task (gt a199 v204))) h) (.cov ⟨rfl, rfl, (ut upT_nil), (uo (uo (uo (upOb_tl rfl (by repeat first | exact Tn.here | refine Tn.cons rfl ?_) rfl)))), (upOut_cons rfl (ut (ut (ut (ut (ut upT_nil))))) (upOut_cons rfl (ut (ut upT_nil)) (upOut_cons rfl (ut (ut upT_nil)) upOut_nil))), (cl3 rfl (wi_cons rfl (wi_cons rfl (wi_cons rfl (wi_tl rfl (by repeat first | exact Tn.here | refine Tn.cons rfl ?_) (fun _ => rfl) nob)))) rfl)⟩)
         ·skip
          refine Safe.condN rfl hc24824 ?_
          repeat first|apply sq|apply sk|with_reducible first|apply tn|apply bn
          refine Safe.region ?_
          refine Qf E_good ?_
          refine Q0 E_good rfl (v := V.agg [I x221.Id, I x221.Tenant, I x221.Prog, I x221.Pc, I x221.Unit, I x221.Keeps.a0, I x221.Keeps.a1, I x221.Keeps.a2, I x221.Keeps.a3, I x221.State, I x221.Ran]) (.load rfl rfl (.box rfl rfl) rfl) ?_
          refine bindG h ?_
          rintro ⟨x224, x225⟩ he24827 h
          refine Q0 E_good rfl (v := V.tup [V.agg [I x224.Id, I x224.Tenant, I x224.Prog, I x224.Pc, I x224.Unit, I x224.Keeps.a0, I x224.Keeps.a1, I x224.Keeps.a2, I x224.Keeps.a3, I x224.State, I x224.Ran], I x225]) (.callP rfl rfl (go_life_Move_sc x221 1 _ he24827) rfl) ?_
          refine Qf E_good ?_
          refine Qf E_good ?_
          refine Qf E_good ?_
          refine Q0 E_good rfl (v := V.ptr [14, 23, 16, 6, 17, 1] 0 0) (.fn rfl) ?_
          refine Q0 E_good rfl (v := V.ptr [14, 23, 16, 6, 17, 1] 0 0) (.fn rfl) ?_
          refine SafeOps.store (z := Obj.box [I x224.Id, I x224.Tenant, I x224.Prog, I x224.Pc, I x224.Unit, I x224.Keeps.a0, I x224.Keeps.a1, I x224.Keeps.a2, I x224.Keeps.a3, I x224.State, I x224.Ran, I e216.last.Kind, I e216.last.Id, I e216.last.A]) E_good rfl rfl rfl rfl rfl rfl rfl (.boxM (c := 14) rfl rfl (Nat.le_of_ble_eq_true rfl) rfl) ?_
          refine Qf E_good ?_
          refine SafeOps.nil ?_
          repeat first|apply sq|apply sk|with_reducible first|apply tn|apply bn
          refine Safe.region ?_
          refine Qf E_good ?_
          refine Q0 E_good rfl (v := V.bool (x225 == 0)) (.fn rfl) ?_
          refine Qf E_good ?_
          refine SafeOps.nil ?_
          repeat first|apply sq|apply sk|with_reducible first|apply tn|apply bn
          refine Safe.ret ?_
          repeat (first | with_reducible refine thenQ.r ?_ | with_reducible refine blockQ.r ?_)
          refine inQ.gen (vs := [V.bool (x225 == 0)]) (v := V.bool (x225 == 0)) (.inr rfl) rfl (.tmp (v := V.bool (x225 == 0)) rfl .nil) rfl ?_
          refine Qf E_good ?_
          refine SafeOps.nil ?_
          repeat first|apply sq|apply sk|with_reducible first|apply tn|apply bn
          refine Safe.region ?_
          refine Qf E_good ?_
          refine Q0 E_good rfl (v := V.agg [I ((gt a199 v204).Kind), I ((gt a199 v204).Id), I ((gt a199 v204).A)]) (.load rfl rfl (.box rfl rfl) rfl) ?_
          refine Q0 E_good rfl (v := V.ptr [14, 23, 16, 6, 17, 1] 0 0) (.fn rfl) ?_
          refine Q0 E_good rfl (v := V.ptr [14, 23, 16, 6, 17, 1] 0 11) (.fn rfl) ?_
          refine SafeOps.store (z := Obj.box [I x224.Id, I x224.Tenant, I x224.Prog, I x224.Pc, I x224.Unit, I x224.Keeps.a0, I x224.Keeps.a1, I x224.Keeps.a2, I x224.Keeps.a3, I x224.State, I x224.Ran, I ((gt a199 v204).Kind), I ((gt a199 v204).Id), I ((gt a199 v204).A)]) E_good rfl rfl rfl rfl rfl rfl rfl (.boxM (c := 14) rfl rfl (Nat.le_of_ble_eq_true rfl) rfl) ?_
          refine SafeOps.gets (τ := ⟨Tryd.f34.ntmps, [(9, V.bool (x225 == 0))], ([14, 7], Obj.box [V.ptr [14, 20] 0 0]) :: ([14, 20], Obj.box [V.sl 1 (rws (fun l => [V.sl 3 (rws api_Instr.cells l)]) a211), V.mapr [14, 18], V.ref [7000, 114, 14, 20, 2] 0 (rws (fun n => [I n]) v212).length]) :: ([14, 23, 16, 2], Obj.box [I ((gt a199 v204).Kind), I ((gt a199 v204).Id), I ((gt a199 v204).A)]) :: ([14, 23, 16, 6, 3], Obj.box [I ((gt a199 v204).Kind), I ((gt a199 v204).Id), I ((gt a199 v204).A)]) :: ([14, 23, 16, 6, 17, 1], Obj.box [I x224.Id, I x224.Tenant, I x224.Prog, I x224.Pc, I x224.Unit, I x224.Keeps.a0, I x224.Keeps.a1, I x224.Keeps.a2, I x224.Keeps.a3, I x224.State, I x224.Ran, I ((gt a199 v204).Kind), I ((gt a199 v204).Id), I ((gt a199 v204).A)]) :: ([14, 23, 16, 6, 45, 8], Obj.box [I x217.Op, I x217.A, I x217.B]) :: ([14, 23, 16, 6, 45, 10], Obj.box [I x221.Id, I x221.Tenant, I x221.Prog, I x221.Pc, I x221.Unit, I x221.Keeps.a0, I x221.Keeps.a1, I x221.Keeps.a2, I x221.Keeps.a3, I x221.State, I x221.Ran]) :: ([7000, 114, 14, 20, 2], Obj.rows 1 (rws (fun n => [I n]) v212) false) :: (pmo [14, 18] (fun n : Int => I n) trace_seen.cells (some (mix ((gt a199 v204).Id) v213, [14, 23, 16, 6, 17, 1])) (mput v213 ((gt a199 v204).Id) e216)), [(Tryd.f33.ntmps, []), (Tryd.f32.ntmps, [(0, V.sl 3 (rws api_Event.cells a199)), (1, V.fn 33 [V.ptr [14, 7] 0 0]), (5, I v204), (7, I (a199.length : Int)), (8, I v204)]), (Tryd.f25.ntmps, [(1, V.sl 3 (rws api_Event.cells a199)), (7, V.ptr [14, 7] 0 0)]), (Tryd.f15.ntmps, [(1, V.sl 3 (rws api_Event.cells a199)), (4, V.nils)])], [14, 23, 16, 6]⟩) (.cov ⟨rfl, rfl, (ut upT_nil), (uo (uo (uo (uo (uo (uo (uo (uo (upOb_tl rfl (by repeat first | exact Tn.here | refine Tn.cons rfl ?_) rfl))))))))), (upOut_cons rfl upT_nil (upOut_cons rfl (ut (ut (ut (ut (ut upT_nil))))) (upOut_cons rfl (ut (ut upT_nil)) (upOut_cons rfl (ut (ut upT_nil)) upOut_nil)))), (cl3 rfl (wi_cons rfl (wi_cons rfl (wi_cons rfl (wi_cons rfl (wi_cons rfl (wi_cons rfl (wi_cons rfl (wi_cons rfl (wi_tl rfl (by repeat first | exact Tn.here | refine Tn.cons rfl ?_) (fun _ => rfl) (sob rfl)))))))))) rfl)⟩) ?_
          refine SafeOps.giveP (M := [14, 18]) (fun n : Int => I n) trace_seen.cells v213 ((gt a199 v204).Id) e216 (trace_seen.mk x224 (gt a199 v204)) [14, 23, 16, 6, 17, 1] rfl rfl rfl rfl rfl (fun _ _ _ => rfl) (by repeat first | exact Tg.here | apply Tg.drop rfl rfl | apply Tg.cons rfl rfl) rfl rfl ?_
          refine SafeOps.nil ?_
          repeat first|apply sq|apply sk|with_reducible first|apply tn|apply bn
          refine Safe.region ?_
          refine Qf E_good ?_
          refine Qf E_good ?_
          refine SafeOps.nil ?_
          repeat first|apply sq|apply sk|with_reducible first|apply tn|apply bn
          refine Safe.ret ?_
          repeat (first | with_reducible refine thenQ.r ?_ | with_reducible refine blockQ.r ?_)
          refine inQ.gen (vs := [V.bool (x225 == 0)]) (v := V.bool (x225 == 0)) (.inr rfl) rfl (.tmp (v := V.bool (x225 == 0)) rfl .nil) rfl ?_
          exact SafeOps.got (HJ24668 ((x225 == 0), v212, mput v213 ((gt a199 v204).Id) (trace_seen.mk x224 (gt a199 v204))) h) (.cov ⟨rfl, rfl, (ut upT_nil), (uo (uo (uo (upOb_tl rfl (by repeat first | exact Tn.here | refine Tn.cons rfl ?_) rfl)))), (upOut_cons rfl (ut (ut (ut (ut (ut upT_nil))))) (upOut_cons rfl (ut (ut upT_nil)) (upOut_cons rfl (ut (ut upT_nil)) upOut_nil))), (cl3 rfl (wi_cons rfl (wi_cons rfl (wi_cons rfl (wi_tl rfl (by repeat first | exact Tn.here | refine Tn.cons rfl ?_) (fun _ => rfl) nob)))) rfl)⟩)
      ·skip
       refine Safe.condN rfl hc24773 ?_
       repeat first|apply sq|apply sk|with_reducible first|apply tn|apply bn
       refine Safe.region ?_
       refine Q0 E_good rfl (v := V.bool (((gt a199 v204).Kind) == 3)) (.fn rfl) ?_
       refine Qf E_good ?_
       refine SafeOps.nil ?_
       repeat first|apply sq|apply sk|with_reducible first|apply tn|apply bn
       refine ifG h (fun hc24828 h => ?_) (fun hc24828 h => ?_)
       ·skip
        refine Safe.condK rfl hc24828 ?_
        repeat first|apply sq|apply sk|with_reducible first|apply tn|apply bn
        refine Safe.regionD (n := 21) [] [] E_good mixed rfl ?_
        refine DT 0 [] rfl rfl (fun _ hz => (.fn rfl)) ?_
        refine DT 1 [] rfl rfl (fun _ hz => (.fn rfl)) ?_
        refine ifG h (fun hc24829 h => ?_) (fun hc24829 h => ?_)
        ·skip
         refine DAny.take (i := 2) rfl (by kernel_rfl) [] (by kernel_rfl) (by kernel_rfl) (by kernel_rfl) (congrArg some hc24829) rfl rfl (fun _ hz => (.fn rfl)) ?_
         refine DT 3 [] rfl rfl (v := V.bool (e216.last.Kind == 2)) (fun _ hz => (.pickK rfl hc24829 rfl)) ?_
         refine DT 4 [] rfl rfl (fun _ hz => (.fn rfl)) ?_
         refine ifG h (fun hc24830 h => ?_) (fun hc24830 h => ?_)
         ·skip
          refine DAny.take (i := 5) rfl (by kernel_rfl) [] (by kernel_rfl) (by kernel_rfl) (by kernel_rfl) (congrArg some hc24830) rfl rfl (v := V.ptr [14, 23, 16, 6, 3] 0 2) (fun _ hz => (.fn rfl)) ?_
          refine DAny.take (i := 6) rfl (by kernel_rfl) [] (by kernel_rfl) (by kernel_rfl) (by kernel_rfl) (congrArg some hc24830) rfl rfl (v := I ((gt a199 v204).A)) (fun _ hz => (.load rfl rfl (.box (hz _ _ rfl rfl) rfl) rfl)) ?_
          refine DAny.take (i := 7) rfl (by kernel_rfl) [] (by kernel_rfl) (by kernel_rfl) (by kernel_rfl) (congrArg some hc24830) rfl rfl (v := V.bool (((gt a199 v204).A) != 0)) (fun _ hz => (.fn rfl)) ?_
          refine DT 8 [] rfl rfl (v := V.bool (((gt a199 v204).A) != 0)) (fun _ hz => (.pickK rfl hc24830 rfl)) ?_
          refine DT 9 [] rfl rfl (fun _ hz => (.fn rfl)) ?_
          refine ifG h (fun hc24831 h => ?_) (fun hc24831 h => ?_)
          ·skip
           refine DAny.take (i := 10) rfl (by kernel_rfl) [] (by kernel_rfl) (by kernel_rfl) (by kernel_rfl) (congrArg some hc24831) rfl rfl (v := V.ptr [14, 23, 16, 6, 3] 0 2) (fun _ hz => (.fn rfl)) ?_
           refine DAny.take (i := 11) rfl (by kernel_rfl) [] (by kernel_rfl) (by kernel_rfl) (by kernel_rfl) (congrArg some hc24831) rfl rfl (v := I ((gt a199 v204).A)) (fun _ hz => (.load rfl rfl (.box (hz _ _ rfl rfl) rfl) rfl)) ?_
           refine DAny.take (i := 12) rfl (by kernel_rfl) [] (by kernel_rfl) (by kernel_rfl) (by kernel_rfl) (congrArg some hc24831) rfl rfl (fun _ hz => (.fn rfl)) ?_
           refine DAny.take (i := 13) rfl (by kernel_rfl) [] (by kernel_rfl) (by kernel_rfl) (by kernel_rfl) (congrArg some hc24831) rfl rfl (v := V.ptr [14, 23, 16, 6, 17, 1] 0 0) (fun _ hz => (.fn rfl)) ?_
           refine DAny.take (i := 14) rfl (by kernel_rfl) [] (by kernel_rfl) (by kernel_rfl) (by kernel_rfl) (congrArg some hc24831) rfl rfl (v := V.ptr [14, 23, 16, 6, 17, 1] 0 11) (fun _ hz => (.fn rfl)) ?_
           refine DAny.take (i := 15) rfl (by kernel_rfl) [] (by kernel_rfl) (by kernel_rfl) (by kernel_rfl) (congrArg some hc24831) rfl rfl (v := V.ptr [14, 23, 16, 6, 17, 1] 0 13) (fun _ hz => (.fn rfl)) ?_
           refine DAny.take (i := 16) rfl (by kernel_rfl) [] (by kernel_rfl) (by kernel_rfl) (by kernel_rfl) (congrArg some hc24831) rfl rfl (v := I e216.last.A) (fun _ hz => (.load rfl rfl (.box (hz _ _ rfl rfl) rfl) rfl)) ?_
           refine DAny.take (i := 17) rfl (by kernel_rfl) [] (by kernel_rfl) (by kernel_rfl) (by kernel_rfl) (congrArg some hc24831) rfl rfl (v := I (go_trace_Held e216.last.A)) (fun _ hz => (.callP rfl rfl (go_trace_Held_sc e216.last.A _ rfl) rfl)) ?_
           refine DAny.take (i := 18) rfl (by kernel_rfl) [] (by kernel_rfl) (by kernel_rfl) (by kernel_rfl) (congrArg some hc24831) rfl rfl (v := V.bool (((gt a199 v204).A) == (go_trace_Held e216.last.A))) (fun _ hz => (.fn rfl)) ?_
           refine DT 19 [] rfl rfl (v := V.bool (((gt a199 v204).A) == (go_trace_Held e216.last.A))) (fun _ hz => (.pickK rfl hc24831 rfl)) ?_
           refine DT 20 [] rfl rfl (fun _ hz => (.fn rfl)) ?_
           refine DAny.nil (by kernel_rfl) ?_
           repeat first|apply sq|apply sk|with_reducible first|apply tn|apply bn
           refine Safe.region ?_
           refine Qf E_good ?_
           refine SafeOps.nil ?_
           repeat first|apply sq|apply sk|with_reducible first|apply tn|apply bn
           refine ifG h (fun hc24832 h => ?_) (fun hc24832 h => ?_)
           ·skip
            refine Safe.condK rfl hc24832 ?_
            repeat first|apply sq|apply sk|with_reducible first|apply tn|apply bn
            refine Safe.region ?_
            refine Qf E_good ?_
            refine Q0 E_good rfl (v := V.ptr [14, 23, 16, 6, 3] 0 2) (.fn rfl) ?_
            refine Q0 E_good rfl (v := I ((gt a199 v204).A)) (.load rfl rfl (.box rfl rfl) rfl) ?_
            refine Q0 E_good rfl (v := V.ptr [14, 23, 16, 6, 17, 1] 0 0) (.fn rfl) ?_
            refine Q0 E_good rfl (v := V.ptr [14, 23, 16, 6, 17, 1] 0 0) (.fn rfl) ?_
            refine Q0 E_good rfl (v := V.ptr [14, 23, 16, 6, 17, 1] 0 9) (.fn rfl) ?_
            refine SafeOps.store (z := Obj.box [I e216.Task.Id, I e216.Task.Tenant, I e216.Task.Prog, I e216.Task.Pc, I e216.Task.Unit, I e216.Task.Keeps.a0, I e216.Task.Keeps.a1, I e216.Task.Keeps.a2, I e216.Task.Keeps.a3, I ((gt a199 v204).A), I e216.Task.Ran, I e216.last.Kind, I e216.last.Id, I e216.last.A]) E_good rfl rfl rfl rfl rfl rfl rfl (.boxM (c := 14) rfl rfl (Nat.le_of_ble_eq_true rfl) rfl) ?_
            refine SafeOps.nil ?_
            repeat first|apply sq|apply sk|with_reducible first|apply tn|apply bn
            refine Safe.region ?_
            refine Qf E_good ?_
            refine Q0 E_good rfl (v := V.agg [I ((gt a199 v204).Kind), I ((gt a199 v204).Id), I ((gt a199 v204).A)]) (.load rfl rfl (.box rfl rfl) rfl) ?_
            refine Q0 E_good rfl (v := V.ptr [14, 23, 16, 6, 17, 1] 0 0) (.fn rfl) ?_
            refine Q0 E_good rfl (v := V.ptr [14, 23, 16, 6, 17, 1] 0 11) (.fn rfl) ?_
            refine SafeOps.store (z := Obj.box [I e216.Task.Id, I e216.Task.Tenant, I e216.Task.Prog, I e216.Task.Pc, I e216.Task.Unit, I e216.Task.Keeps.a0, I e216.Task.Keeps.a1, I e216.Task.Keeps.a2, I e216.Task.Keeps.a3, I ((gt a199 v204).A), I e216.Task.Ran, I ((gt a199 v204).Kind), I ((gt a199 v204).Id), I ((gt a199 v204).A)]) E_good rfl rfl rfl rfl rfl rfl rfl (.boxM (c := 14) rfl rfl (Nat.le_of_ble_eq_true rfl) rfl) ?_
            refine SafeOps.gets (τ := ⟨Tryd.f34.ntmps, [(9, V.bool (((gt a199 v204).A) == (go_trace_Held e216.last.A)))], ([14, 7], Obj.box [V.ptr [14, 20] 0 0]) :: ([14, 20], Obj.box [V.sl 1 (rws (fun l => [V.sl 3 (rws api_Instr.cells l)]) a211), V.mapr [14, 18], V.ref [7000, 114, 14, 20, 2] 0 (rws (fun n => [I n]) v212).length]) :: ([14, 23, 16, 2], Obj.box [I ((gt a199 v204).Kind), I ((gt a199 v204).Id), I ((gt a199 v204).A)]) :: ([14, 23, 16, 6, 3], Obj.box [I ((gt a199 v204).Kind), I ((gt a199 v204).Id), I ((gt a199 v204).A)]) :: ([14, 23, 16, 6, 17, 1], Obj.box [I e216.Task.Id, I e216.Task.Tenant, I e216.Task.Prog, I e216.Task.Pc, I e216.Task.Unit, I e216.Task.Keeps.a0, I e216.Task.Keeps.a1, I e216.Task.Keeps.a2, I e216.Task.Keeps.a3, I ((gt a199 v204).A), I e216.Task.Ran, I ((gt a199 v204).Kind), I ((gt a199 v204).Id), I ((gt a199 v204).A)]) :: ([7000, 114, 14, 20, 2], Obj.rows 1 (rws (fun n => [I n]) v212) false) :: (pmo [14, 18] (fun n : Int => I n) trace_seen.cells (some (mix ((gt a199 v204).Id) v213, [14, 23, 16, 6, 17, 1])) (mput v213 ((gt a199 v204).Id) e216)), [(Tryd.f33.ntmps, []), (Tryd.f32.ntmps, [(0, V.sl 3 (rws api_Event.cells a199)), (1, V.fn 33 [V.ptr [14, 7] 0 0]), (5, I v204), (7, I (a199.length : Int)), (8, I v204)]), (Tryd.f25.ntmps, [(1, V.sl 3 (rws api_Event.cells a199)), (7, V.ptr [14, 7] 0 0)]), (Tryd.f15.ntmps, [(1, V.sl 3 (rws api_Event.cells a199)), (4, V.nils)])], [14, 23, 16, 6]⟩) (.cov ⟨rfl, rfl, (ut upT_nil), (uo (uo (uo (uo (uo (uo (upOb_tl rfl (by repeat first | exact Tn.here | refine Tn.cons rfl ?_) rfl))))))), (upOut_cons rfl upT_nil (upOut_cons rfl (ut (ut (ut (ut (ut upT_nil))))) (upOut_cons rfl (ut (ut upT_nil)) (upOut_cons rfl (ut (ut upT_nil)) upOut_nil)))), (cl3 rfl (wi_cons rfl (wi_cons rfl (wi_cons rfl (wi_cons rfl (wi_cons rfl (wi_cons rfl (wi_tl rfl (by repeat first | exact Tn.here | refine Tn.cons rfl ?_) (fun _ => rfl) (sob rfl)))))))) rfl)⟩) ?_
            refine SafeOps.giveP (M := [14, 18]) (fun n : Int => I n) trace_seen.cells v213 ((gt a199 v204).Id) e216 (trace_seen.mk (api_Task.mk e216.Task.Id e216.Task.Tenant e216.Task.Prog e216.Task.Pc e216.Task.Unit e216.Task.Keeps ((gt a199 v204).A) e216.Task.Ran) (gt a199 v204)) [14, 23, 16, 6, 17, 1] rfl rfl rfl rfl rfl (fun _ _ _ => rfl) (by repeat first | exact Tg.here | apply Tg.drop rfl rfl | apply Tg.cons rfl rfl) rfl rfl ?_
            refine SafeOps.nil ?_
            repeat first|apply sq|apply sk|with_reducible first|apply tn|apply bn
            refine Safe.region ?_
            refine Qf E_good ?_
            refine Qf E_good ?_
            refine SafeOps.nil ?_
            repeat first|apply sq|apply sk|with_reducible first|apply tn|apply bn
            refine Safe.ret ?_
            repeat (first | with_reducible refine thenQ.r ?_ | with_reducible refine blockQ.r ?_)
            refine inQ.gen (vs := [V.bool (((gt a199 v204).A) == (go_trace_Held e216.last.A))]) (v := V.bool (((gt a199 v204).A) == (go_trace_Held e216.last.A))) (.inr rfl) rfl (.tmp (v := V.bool (((gt a199 v204).A) == (go_trace_Held e216.last.A))) rfl .nil) rfl ?_
            exact SafeOps.got (HJ24668 ((((gt a199 v204).A) == (go_trace_Held e216.last.A)), v212, mput v213 ((gt a199 v204).Id) (trace_seen.mk (api_Task.mk e216.Task.Id e216.Task.Tenant e216.Task.Prog e216.Task.Pc e216.Task.Unit e216.Task.Keeps ((gt a199 v204).A) e216.Task.Ran) (gt a199 v204))) h) (.cov ⟨rfl, rfl, (ut upT_nil), (uo (uo (uo (upOb_tl rfl (by repeat first | exact Tn.here | refine Tn.cons rfl ?_) rfl)))), (upOut_cons rfl (ut (ut (ut (ut (ut upT_nil))))) (upOut_cons rfl (ut (ut upT_nil)) (upOut_cons rfl (ut (ut upT_nil)) upOut_nil))), (cl3 rfl (wi_cons rfl (wi_cons rfl (wi_cons rfl (wi_tl rfl (by repeat first | exact Tn.here | refine Tn.cons rfl ?_) (fun _ => rfl) nob)))) rfl)⟩)
           ·skip
            refine Safe.condN rfl hc24832 ?_
            repeat first|apply sq|apply sk|with_reducible first|apply tn|apply bn
            refine Safe.region ?_
            refine Qf E_good ?_
            refine Q0 E_good rfl (v := V.agg [I ((gt a199 v204).Kind), I ((gt a199 v204).Id), I ((gt a199 v204).A)]) (.load rfl rfl (.box rfl rfl) rfl) ?_
            refine Q0 E_good rfl (v := V.ptr [14, 23, 16, 6, 17, 1] 0 0) (.fn rfl) ?_
            refine Q0 E_good rfl (v := V.ptr [14, 23, 16, 6, 17, 1] 0 11) (.fn rfl) ?_
            refine SafeOps.store (z := Obj.box [I e216.Task.Id, I e216.Task.Tenant, I e216.Task.Prog, I e216.Task.Pc, I e216.Task.Unit, I e216.Task.Keeps.a0, I e216.Task.Keeps.a1, I e216.Task.Keeps.a2, I e216.Task.Keeps.a3, I e216.Task.State, I e216.Task.Ran, I ((gt a199 v204).Kind), I ((gt a199 v204).Id), I ((gt a199 v204).A)]) E_good rfl rfl rfl rfl rfl rfl rfl (.boxM (c := 14) rfl rfl (Nat.le_of_ble_eq_true rfl) rfl) ?_
            refine SafeOps.gets (τ := ⟨Tryd.f34.ntmps, [(9, V.bool (((gt a199 v204).A) == (go_trace_Held e216.last.A)))], ([14, 7], Obj.box [V.ptr [14, 20] 0 0]) :: ([14, 20], Obj.box [V.sl 1 (rws (fun l => [V.sl 3 (rws api_Instr.cells l)]) a211), V.mapr [14, 18], V.ref [7000, 114, 14, 20, 2] 0 (rws (fun n => [I n]) v212).length]) :: ([14, 23, 16, 2], Obj.box [I ((gt a199 v204).Kind), I ((gt a199 v204).Id), I ((gt a199 v204).A)]) :: ([14, 23, 16, 6, 3], Obj.box [I ((gt a199 v204).Kind), I ((gt a199 v204).Id), I ((gt a199 v204).A)]) :: ([14, 23, 16, 6, 17, 1], Obj.box [I e216.Task.Id, I e216.Task.Tenant, I e216.Task.Prog, I e216.Task.Pc, I e216.Task.Unit, I e216.Task.Keeps.a0, I e216.Task.Keeps.a1, I e216.Task.Keeps.a2, I e216.Task.Keeps.a3, I e216.Task.State, I e216.Task.Ran, I ((gt a199 v204).Kind), I ((gt a199 v204).Id), I ((gt a199 v204).A)]) :: ([7000, 114, 14, 20, 2], Obj.rows 1 (rws (fun n => [I n]) v212) false) :: (pmo [14, 18] (fun n : Int => I n) trace_seen.cells (some (mix ((gt a199 v204).Id) v213, [14, 23, 16, 6, 17, 1])) (mput v213 ((gt a199 v204).Id) e216)), [(Tryd.f33.ntmps, []), (Tryd.f32.ntmps, [(0, V.sl 3 (rws api_Event.cells a199)), (1, V.fn 33 [V.ptr [14, 7] 0 0]), (5, I v204), (7, I (a199.length : Int)), (8, I v204)]), (Tryd.f25.ntmps, [(1, V.sl 3 (rws api_Event.cells a199)), (7, V.ptr [14, 7] 0 0)]), (Tryd.f15.ntmps, [(1, V.sl 3 (rws api_Event.cells a199)), (4, V.nils)])], [14, 23, 16, 6]⟩) (.cov ⟨rfl, rfl, (ut upT_nil), (uo (uo (uo (uo (uo (uo (upOb_tl rfl (by repeat first | exact Tn.here | refine Tn.cons rfl ?_) rfl))))))), (upOut_cons rfl upT_nil (upOut_cons rfl (ut (ut (ut (ut (ut upT_nil))))) (upOut_cons rfl (ut (ut upT_nil)) (upOut_cons rfl (ut (ut upT_nil)) upOut_nil)))), (cl3 rfl (wi_cons rfl (wi_cons rfl (wi_cons rfl (wi_cons rfl (wi_cons rfl (wi_cons rfl (wi_tl rfl (by repeat first | exact Tn.here | refine Tn.cons rfl ?_) (fun _ => rfl) (sob rfl)))))))) rfl)⟩) ?_
            refine SafeOps.giveP (M := [14, 18]) (fun n : Int => I n) trace_seen.cells v213 ((gt a199 v204).Id) e216 (trace_seen.mk e216.Task (gt a199 v204)) [14, 23, 16, 6, 17, 1] rfl rfl rfl rfl rfl (fun _ _ _ => rfl) (by repeat first | exact Tg.here | apply Tg.drop rfl rfl | apply Tg.cons rfl rfl) rfl rfl ?_
            refine SafeOps.nil ?_
            repeat first|apply sq|apply sk|with_reducible first|apply tn|apply bn
            refine Safe.region ?_
            refine Qf E_good ?_
            refine Qf E_good ?_
            refine SafeOps.nil ?_
            repeat first|apply sq|apply sk|with_reducible first|apply tn|apply bn
            refine Safe.ret ?_
            repeat (first | with_reducible refine thenQ.r ?_ | with_reducible refine blockQ.r ?_)
            refine inQ.gen (vs := [V.bool (((gt a199 v204).A) == (go_trace_Held e216.last.A))]) (v := V.bool (((gt a199 v204).A) == (go_trace_Held e216.last.A))) (.inr rfl) rfl (.tmp (v := V.bool (((gt a199 v204).A) == (go_trace_Held e216.last.A))) rfl .nil) rfl ?_
            exact SafeOps.got (HJ24668 ((((gt a199 v204).A) == (go_trace_Held e216.last.A)), v212, mput v213 ((gt a199 v204).Id) (trace_seen.mk e216.Task (gt a199 v204))) h) (.cov ⟨rfl, rfl, (ut upT_nil), (uo (uo (uo (upOb_tl rfl (by repeat first | exact Tn.here | refine Tn.cons rfl ?_) rfl)))), (upOut_cons rfl (ut (ut (ut (ut (ut upT_nil))))) (upOut_cons rfl (ut (ut upT_nil)) (upOut_cons rfl (ut (ut upT_nil)) upOut_nil))), (cl3 rfl (wi_cons rfl (wi_cons rfl (wi_cons rfl (wi_tl rfl (by repeat first | exact Tn.here | refine Tn.cons rfl ?_) (fun _ => rfl) nob)))) rfl)⟩)
          ·skip
           refine DAny.takeSkip (i := 10) rfl (by kernel_rfl) [] (by kernel_rfl) (by kernel_rfl) (by kernel_rfl) (congrArg some hc24831) rfl rfl ?_
           refine DAny.takeSkip (i := 11) rfl (by kernel_rfl) [] (by kernel_rfl) (by kernel_rfl) (by kernel_rfl) (congrArg some hc24831) rfl rfl ?_
           refine DAny.takeSkip (i := 12) rfl (by kernel_rfl) [] (by kernel_rfl) (by kernel_rfl) (by kernel_rfl) (congrArg some hc24831) rfl rfl ?_
           refine DAny.takeSkip (i := 13) rfl (by kernel_rfl) [] (by kernel_rfl) (by kernel_rfl) (by kernel_rfl) (congrArg some hc24831) rfl rfl ?_
           refine DAny.takeSkip (i := 14) rfl (by kernel_rfl) [] (by kernel_rfl) (by kernel_rfl) (by kernel_rfl) (congrArg some hc24831) rfl rfl ?_
           refine DAny.takeSkip (i := 15) rfl (by kernel_rfl) [] (by kernel_rfl) (by kernel_rfl) (by kernel_rfl) (congrArg some hc24831) rfl rfl ?_
           refine DAny.takeSkip (i := 16) rfl (by kernel_rfl) [] (by kernel_rfl) (by kernel_rfl) (by kernel_rfl) (congrArg some hc24831) rfl rfl ?_
           refine DAny.takeSkip (i := 17) rfl (by kernel_rfl) [] (by kernel_rfl) (by kernel_rfl) (by kernel_rfl) (congrArg some hc24831) rfl rfl ?_
           refine DAny.takeSkip (i := 18) rfl (by kernel_rfl) [] (by kernel_rfl) (by kernel_rfl) (by kernel_rfl) (congrArg some hc24831) rfl rfl ?_
           refine DT 19 [] rfl rfl (v := V.bool false) (fun _ hz => (.pickK rfl hc24831 rfl)) ?_
           refine DT 20 [] rfl rfl (fun _ hz => (.fn rfl)) ?_
           refine DAny.nil (by kernel_rfl) ?_
           repeat first|apply sq|apply sk|with_reducible first|apply tn|apply bn
           refine Safe.region ?_
           refine Qf E_good ?_
           refine SafeOps.nil ?_
           repeat first|apply sq|apply sk|with_reducible first|apply tn|apply bn
           refine Safe.condN rfl rfl ?_
           repeat first|apply sq|apply sk|with_reducible first|apply tn|apply bn
           refine Safe.region ?_
           refine Qf E_good ?_
           refine Q0 E_good rfl (v := V.agg [I ((gt a199 v204).Kind), I ((gt a199 v204).Id), I ((gt a199 v204).A)]) (.load rfl rfl (.box rfl rfl) rfl) ?_
           refine Q0 E_good rfl (v := V.ptr [14, 23, 16, 6, 17, 1] 0 0) (.fn rfl) ?_
           refine Q0 E_good rfl (v := V.ptr [14, 23, 16, 6, 17, 1] 0 11) (.fn rfl) ?_
           refine SafeOps.store (z := Obj.box [I e216.Task.Id, I e216.Task.Tenant, I e216.Task.Prog, I e216.Task.Pc, I e216.Task.Unit, I e216.Task.Keeps.a0, I e216.Task.Keeps.a1, I e216.Task.Keeps.a2, I e216.Task.Keeps.a3, I e216.Task.State, I e216.Task.Ran, I ((gt a199 v204).Kind), I ((gt a199 v204).Id), I ((gt a199 v204).A)]) E_good rfl rfl rfl rfl rfl rfl rfl (.boxM (c := 14) rfl rfl (Nat.le_of_ble_eq_true rfl) rfl) ?_
           refine SafeOps.gets (τ := ⟨Tryd.f34.ntmps, [(9, V.bool false)], ([14, 7], Obj.box [V.ptr [14, 20] 0 0]) :: ([14, 20], Obj.box [V.sl 1 (rws (fun l => [V.sl 3 (rws api_Instr.cells l)]) a211), V.mapr [14, 18], V.ref [7000, 114, 14, 20, 2] 0 (rws (fun n => [I n]) v212).length]) :: ([14, 23, 16, 2], Obj.box [I ((gt a199 v204).Kind), I ((gt a199 v204).Id), I ((gt a199 v204).A)]) :: ([14, 23, 16, 6, 3], Obj.box [I ((gt a199 v204).Kind), I ((gt a199 v204).Id), I ((gt a199 v204).A)]) :: ([14, 23, 16, 6, 17, 1], Obj.box [I e216.Task.Id, I e216.Task.Tenant, I e216.Task.Prog, I e216.Task.Pc, I e216.Task.Unit, I e216.Task.Keeps.a0, I e216.Task.Keeps.a1, I e216.Task.Keeps.a2, I e216.Task.Keeps.a3, I e216.Task.State, I e216.Task.Ran, I ((gt a199 v204).Kind), I ((gt a199 v204).Id), I ((gt a199 v204).A)]) :: ([7000, 114, 14, 20, 2], Obj.rows 1 (rws (fun n => [I n]) v212) false) :: (pmo [14, 18] (fun n : Int => I n) trace_seen.cells (some (mix ((gt a199 v204).Id) v213, [14, 23, 16, 6, 17, 1])) (mput v213 ((gt a199 v204).Id) e216)), [(Tryd.f33.ntmps, []), (Tryd.f32.ntmps, [(0, V.sl 3 (rws api_Event.cells a199)), (1, V.fn 33 [V.ptr [14, 7] 0 0]), (5, I v204), (7, I (a199.length : Int)), (8, I v204)]), (Tryd.f25.ntmps, [(1, V.sl 3 (rws api_Event.cells a199)), (7, V.ptr [14, 7] 0 0)]), (Tryd.f15.ntmps, [(1, V.sl 3 (rws api_Event.cells a199)), (4, V.nils)])], [14, 23, 16, 6]⟩) (.cov ⟨rfl, rfl, (ut upT_nil), (uo (uo (uo (uo (uo (uo (upOb_tl rfl (by repeat first | exact Tn.here | refine Tn.cons rfl ?_) rfl))))))), (upOut_cons rfl upT_nil (upOut_cons rfl (ut (ut (ut (ut (ut upT_nil))))) (upOut_cons rfl (ut (ut upT_nil)) (upOut_cons rfl (ut (ut upT_nil)) upOut_nil)))), (cl3 rfl (wi_cons rfl (wi_cons rfl (wi_cons rfl (wi_cons rfl (wi_cons rfl (wi_cons rfl (wi_tl rfl (by repeat first | exact Tn.here | refine Tn.cons rfl ?_) (fun _ => rfl) (sob rfl)))))))) rfl)⟩) ?_
           refine SafeOps.giveP (M := [14, 18]) (fun n : Int => I n) trace_seen.cells v213 ((gt a199 v204).Id) e216 (trace_seen.mk e216.Task (gt a199 v204)) [14, 23, 16, 6, 17, 1] rfl rfl rfl rfl rfl (fun _ _ _ => rfl) (by repeat first | exact Tg.here | apply Tg.drop rfl rfl | apply Tg.cons rfl rfl) rfl rfl ?_
           refine SafeOps.nil ?_
           repeat first|apply sq|apply sk|with_reducible first|apply tn|apply bn
           refine Safe.region ?_
           refine Qf E_good ?_
           refine Qf E_good ?_
           refine SafeOps.nil ?_
           repeat first|apply sq|apply sk|with_reducible first|apply tn|apply bn
           refine Safe.ret ?_
           repeat (first | with_reducible refine thenQ.r ?_ | with_reducible refine blockQ.r ?_)
           refine inQ.gen (vs := [V.bool false]) (v := V.bool false) (.inr rfl) rfl (.tmp (v := V.bool false) rfl .nil) rfl ?_
           exact SafeOps.got (HJ24668 (false, v212, mput v213 ((gt a199 v204).Id) (trace_seen.mk e216.Task (gt a199 v204))) h) (.cov ⟨rfl, rfl, (ut upT_nil), (uo (uo (uo (upOb_tl rfl (by repeat first | exact Tn.here | refine Tn.cons rfl ?_) rfl)))), (upOut_cons rfl (ut (ut (ut (ut (ut upT_nil))))) (upOut_cons rfl (ut (ut upT_nil)) (upOut_cons rfl (ut (ut upT_nil)) upOut_nil))), (cl3 rfl (wi_cons rfl (wi_cons rfl (wi_cons rfl (wi_tl rfl (by repeat first | exact Tn.here | refine Tn.cons rfl ?_) (fun _ => rfl) nob)))) rfl)⟩)
         ·skip
          refine DAny.takeSkip (i := 5) rfl (by kernel_rfl) [] (by kernel_rfl) (by kernel_rfl) (by kernel_rfl) (congrArg some hc24830) rfl rfl ?_
          refine DAny.takeSkip (i := 6) rfl (by kernel_rfl) [] (by kernel_rfl) (by kernel_rfl) (by kernel_rfl) (congrArg some hc24830) rfl rfl ?_
          refine DAny.takeSkip (i := 7) rfl (by kernel_rfl) [] (by kernel_rfl) (by kernel_rfl) (by kernel_rfl) (congrArg some hc24830) rfl rfl ?_
          refine DT 8 [] rfl rfl (v := V.bool false) (fun _ hz => (.pickK rfl hc24830 rfl)) ?_
          refine DT 9 [] rfl rfl (fun _ hz => (.fn rfl)) ?_
          refine DAny.takeSkip (i := 10) rfl (by kernel_rfl) [] (by kernel_rfl) (by kernel_rfl) (by kernel_rfl) rfl rfl rfl ?_
          refine DAny.takeSkip (i := 11) rfl (by kernel_rfl) [] (by kernel_rfl) (by kernel_rfl) (by kernel_rfl) rfl rfl rfl ?_
          refine DAny.takeSkip (i := 12) rfl (by kernel_rfl) [] (by kernel_rfl) (by kernel_rfl) (by kernel_rfl) rfl rfl rfl ?_
          refine DAny.takeSkip (i := 13) rfl (by kernel_rfl) [] (by kernel_rfl) (by kernel_rfl) (by kernel_rfl) rfl rfl rfl ?_
          refine DAny.takeSkip (i := 14) rfl (by kernel_rfl) [] (by kernel_rfl) (by kernel_rfl) (by kernel_rfl) rfl rfl rfl ?_
          refine DAny.takeSkip (i := 15) rfl (by kernel_rfl) [] (by kernel_rfl) (by kernel_rfl) (by kernel_rfl) rfl rfl rfl ?_
          refine DAny.takeSkip (i := 16) rfl (by kernel_rfl) [] (by kernel_rfl) (by kernel_rfl) (by kernel_rfl) rfl rfl rfl ?_
          refine DAny.takeSkip (i := 17) rfl (by kernel_rfl) [] (by kernel_rfl) (by kernel_rfl) (by kernel_rfl) rfl rfl rfl ?_
          refine DAny.takeSkip (i := 18) rfl (by kernel_rfl) [] (by kernel_rfl) (by kernel_rfl) (by kernel_rfl) rfl rfl rfl ?_
          refine DT 19 [] rfl rfl (v := V.bool false) (fun _ hz => (.pickK rfl rfl rfl)) ?_
          refine DT 20 [] rfl rfl (fun _ hz => (.fn rfl)) ?_
          refine DAny.nil (by kernel_rfl) ?_
          repeat first|apply sq|apply sk|with_reducible first|apply tn|apply bn
          refine Safe.region ?_
          refine Qf E_good ?_
          refine SafeOps.nil ?_
          repeat first|apply sq|apply sk|with_reducible first|apply tn|apply bn
          refine Safe.condN rfl rfl ?_
          repeat first|apply sq|apply sk|with_reducible first|apply tn|apply bn
          refine Safe.region ?_
          refine Qf E_good ?_
          refine Q0 E_good rfl (v := V.agg [I ((gt a199 v204).Kind), I ((gt a199 v204).Id), I ((gt a199 v204).A)]) (.load rfl rfl (.box rfl rfl) rfl) ?_
          refine Q0 E_good rfl (v := V.ptr [14, 23, 16, 6, 17, 1] 0 0) (.fn rfl) ?_
          refine Q0 E_good rfl (v := V.ptr [14, 23, 16, 6, 17, 1] 0 11) (.fn rfl) ?_
          refine SafeOps.store (z := Obj.box [I e216.Task.Id, I e216.Task.Tenant, I e216.Task.Prog, I e216.Task.Pc, I e216.Task.Unit, I e216.Task.Keeps.a0, I e216.Task.Keeps.a1, I e216.Task.Keeps.a2, I e216.Task.Keeps.a3, I e216.Task.State, I e216.Task.Ran, I ((gt a199 v204).Kind), I ((gt a199 v204).Id), I ((gt a199 v204).A)]) E_good rfl rfl rfl rfl rfl rfl rfl (.boxM (c := 14) rfl rfl (Nat.le_of_ble_eq_true rfl) rfl) ?_
          refine SafeOps.gets (τ := ⟨Tryd.f34.ntmps, [(9, V.bool false)], ([14, 7], Obj.box [V.ptr [14, 20] 0 0]) :: ([14, 20], Obj.box [V.sl 1 (rws (fun l => [V.sl 3 (rws api_Instr.cells l)]) a211), V.mapr [14, 18], V.ref [7000, 114, 14, 20, 2] 0 (rws (fun n => [I n]) v212).length]) :: ([14, 23, 16, 2], Obj.box [I ((gt a199 v204).Kind), I ((gt a199 v204).Id), I ((gt a199 v204).A)]) :: ([14, 23, 16, 6, 3], Obj.box [I ((gt a199 v204).Kind), I ((gt a199 v204).Id), I ((gt a199 v204).A)]) :: ([14, 23, 16, 6, 17, 1], Obj.box [I e216.Task.Id, I e216.Task.Tenant, I e216.Task.Prog, I e216.Task.Pc, I e216.Task.Unit, I e216.Task.Keeps.a0, I e216.Task.Keeps.a1, I e216.Task.Keeps.a2, I e216.Task.Keeps.a3, I e216.Task.State, I e216.Task.Ran, I ((gt a199 v204).Kind), I ((gt a199 v204).Id), I ((gt a199 v204).A)]) :: ([7000, 114, 14, 20, 2], Obj.rows 1 (rws (fun n => [I n]) v212) false) :: (pmo [14, 18] (fun n : Int => I n) trace_seen.cells (some (mix ((gt a199 v204).Id) v213, [14, 23, 16, 6, 17, 1])) (mput v213 ((gt a199 v204).Id) e216)), [(Tryd.f33.ntmps, []), (Tryd.f32.ntmps, [(0, V.sl 3 (rws api_Event.cells a199)), (1, V.fn 33 [V.ptr [14, 7] 0 0]), (5, I v204), (7, I (a199.length : Int)), (8, I v204)]), (Tryd.f25.ntmps, [(1, V.sl 3 (rws api_Event.cells a199)), (7, V.ptr [14, 7] 0 0)]), (Tryd.f15.ntmps, [(1, V.sl 3 (rws api_Event.cells a199)), (4, V.nils)])], [14, 23, 16, 6]⟩) (.cov ⟨rfl, rfl, (ut upT_nil), (uo (uo (uo (uo (uo (uo (upOb_tl rfl (by repeat first | exact Tn.here | refine Tn.cons rfl ?_) rfl))))))), (upOut_cons rfl upT_nil (upOut_cons rfl (ut (ut (ut (ut (ut upT_nil))))) (upOut_cons rfl (ut (ut upT_nil)) (upOut_cons rfl (ut (ut upT_nil)) upOut_nil)))), (cl3 rfl (wi_cons rfl (wi_cons rfl (wi_cons rfl (wi_cons rfl (wi_cons rfl (wi_cons rfl (wi_tl rfl (by repeat first | exact Tn.here | refine Tn.cons rfl ?_) (fun _ => rfl) (sob rfl)))))))) rfl)⟩) ?_
          refine SafeOps.giveP (M := [14, 18]) (fun n : Int => I n) trace_seen.cells v213 ((gt a199 v204).Id) e216 (trace_seen.mk e216.Task (gt a199 v204)) [14, 23, 16, 6, 17, 1] rfl rfl rfl rfl rfl (fun _ _ _ => rfl) (by repeat first | exact Tg.here | apply Tg.drop rfl rfl | apply Tg.cons rfl rfl) rfl rfl ?_
          refine SafeOps.nil ?_
          repeat first|apply sq|apply sk|with_reducible first|apply tn|apply bn
          refine Safe.region ?_
          refine Qf E_good ?_
          refine Qf E_good ?_
          refine SafeOps.nil ?_
          repeat first|apply sq|apply sk|with_reducible first|apply tn|apply bn
          refine Safe.ret ?_
          repeat (first | with_reducible refine thenQ.r ?_ | with_reducible refine blockQ.r ?_)
          refine inQ.gen (vs := [V.bool false]) (v := V.bool false) (.inr rfl) rfl (.tmp (v := V.bool false) rfl .nil) rfl ?_
          exact SafeOps.got (HJ24668 (false, v212, mput v213 ((gt a199 v204).Id) (trace_seen.mk e216.Task (gt a199 v204))) h) (.cov ⟨rfl, rfl, (ut upT_nil), (uo (uo (uo (upOb_tl rfl (by repeat first | exact Tn.here | refine Tn.cons rfl ?_) rfl)))), (upOut_cons rfl (ut (ut (ut (ut (ut upT_nil))))) (upOut_cons rfl (ut (ut upT_nil)) (upOut_cons rfl (ut (ut upT_nil)) upOut_nil))), (cl3 rfl (wi_cons rfl (wi_cons rfl (wi_cons rfl (wi_tl rfl (by repeat first | exact Tn.here | refine Tn.cons rfl ?_) (fun _ => rfl) nob)))) rfl)⟩)
        ·skip
         refine DAny.takeSkip (i := 2) rfl (by kernel_rfl) [] (by kernel_rfl) (by kernel_rfl) (by kernel_rfl) (congrArg some hc24829) rfl rfl ?_
         refine DT 3 [] rfl rfl (v := V.bool false) (fun _ hz => (.pickK rfl hc24829 rfl)) ?_
         refine DT 4 [] rfl rfl (fun _ hz => (.fn rfl)) ?_
         refine DAny.takeSkip (i := 5) rfl (by kernel_rfl) [] (by kernel_rfl) (by kernel_rfl) (by kernel_rfl) rfl rfl rfl ?_
         refine DAny.takeSkip (i := 6) rfl (by kernel_rfl) [] (by kernel_rfl) (by kernel_rfl) (by kernel_rfl) rfl rfl rfl ?_
         refine DAny.takeSkip (i := 7) rfl (by kernel_rfl) [] (by kernel_rfl) (by kernel_rfl) (by kernel_rfl) rfl rfl rfl ?_
         refine DT 8 [] rfl rfl (v := V.bool false) (fun _ hz => (.pickK rfl rfl rfl)) ?_
         refine DT 9 [] rfl rfl (fun _ hz => (.fn rfl)) ?_
         refine DAny.takeSkip (i := 10) rfl (by kernel_rfl) [] (by kernel_rfl) (by kernel_rfl) (by kernel_rfl) rfl rfl rfl ?_
         refine DAny.takeSkip (i := 11) rfl (by kernel_rfl) [] (by kernel_rfl) (by kernel_rfl) (by kernel_rfl) rfl rfl rfl ?_
         refine DAny.takeSkip (i := 12) rfl (by kernel_rfl) [] (by kernel_rfl) (by kernel_rfl) (by kernel_rfl) rfl rfl rfl ?_
         refine DAny.takeSkip (i := 13) rfl (by kernel_rfl) [] (by kernel_rfl) (by kernel_rfl) (by kernel_rfl) rfl rfl rfl ?_
         refine DAny.takeSkip (i := 14) rfl (by kernel_rfl) [] (by kernel_rfl) (by kernel_rfl) (by kernel_rfl) rfl rfl rfl ?_
         refine DAny.takeSkip (i := 15) rfl (by kernel_rfl) [] (by kernel_rfl) (by kernel_rfl) (by kernel_rfl) rfl rfl rfl ?_
         refine DAny.takeSkip (i := 16) rfl (by kernel_rfl) [] (by kernel_rfl) (by kernel_rfl) (by kernel_rfl) rfl rfl rfl ?_
         refine DAny.takeSkip (i := 17) rfl (by kernel_rfl) [] (by kernel_rfl) (by kernel_rfl) (by kernel_rfl) rfl rfl rfl ?_
         refine DAny.takeSkip (i := 18) rfl (by kernel_rfl) [] (by kernel_rfl) (by kernel_rfl) (by kernel_rfl) rfl rfl rfl ?_
         refine DT 19 [] rfl rfl (v := V.bool false) (fun _ hz => (.pickK rfl rfl rfl)) ?_
         refine DT 20 [] rfl rfl (fun _ hz => (.fn rfl)) ?_
         refine DAny.nil (by kernel_rfl) ?_
         repeat first|apply sq|apply sk|with_reducible first|apply tn|apply bn
         refine Safe.region ?_
         refine Qf E_good ?_
         refine SafeOps.nil ?_
         repeat first|apply sq|apply sk|with_reducible first|apply tn|apply bn
         refine Safe.condN rfl rfl ?_
         repeat first|apply sq|apply sk|with_reducible first|apply tn|apply bn
         refine Safe.region ?_
         refine Qf E_good ?_
         refine Q0 E_good rfl (v := V.agg [I ((gt a199 v204).Kind), I ((gt a199 v204).Id), I ((gt a199 v204).A)]) (.load rfl rfl (.box rfl rfl) rfl) ?_
         refine Q0 E_good rfl (v := V.ptr [14, 23, 16, 6, 17, 1] 0 0) (.fn rfl) ?_
         refine Q0 E_good rfl (v := V.ptr [14, 23, 16, 6, 17, 1] 0 11) (.fn rfl) ?_
         refine SafeOps.store (z := Obj.box [I e216.Task.Id, I e216.Task.Tenant, I e216.Task.Prog, I e216.Task.Pc, I e216.Task.Unit, I e216.Task.Keeps.a0, I e216.Task.Keeps.a1, I e216.Task.Keeps.a2, I e216.Task.Keeps.a3, I e216.Task.State, I e216.Task.Ran, I ((gt a199 v204).Kind), I ((gt a199 v204).Id), I ((gt a199 v204).A)]) E_good rfl rfl rfl rfl rfl rfl rfl (.boxM (c := 14) rfl rfl (Nat.le_of_ble_eq_true rfl) rfl) ?_
         refine SafeOps.gets (τ := ⟨Tryd.f34.ntmps, [(9, V.bool false)], ([14, 7], Obj.box [V.ptr [14, 20] 0 0]) :: ([14, 20], Obj.box [V.sl 1 (rws (fun l => [V.sl 3 (rws api_Instr.cells l)]) a211), V.mapr [14, 18], V.ref [7000, 114, 14, 20, 2] 0 (rws (fun n => [I n]) v212).length]) :: ([14, 23, 16, 2], Obj.box [I ((gt a199 v204).Kind), I ((gt a199 v204).Id), I ((gt a199 v204).A)]) :: ([14, 23, 16, 6, 3], Obj.box [I ((gt a199 v204).Kind), I ((gt a199 v204).Id), I ((gt a199 v204).A)]) :: ([14, 23, 16, 6, 17, 1], Obj.box [I e216.Task.Id, I e216.Task.Tenant, I e216.Task.Prog, I e216.Task.Pc, I e216.Task.Unit, I e216.Task.Keeps.a0, I e216.Task.Keeps.a1, I e216.Task.Keeps.a2, I e216.Task.Keeps.a3, I e216.Task.State, I e216.Task.Ran, I ((gt a199 v204).Kind), I ((gt a199 v204).Id), I ((gt a199 v204).A)]) :: ([7000, 114, 14, 20, 2], Obj.rows 1 (rws (fun n => [I n]) v212) false) :: (pmo [14, 18] (fun n : Int => I n) trace_seen.cells (some (mix ((gt a199 v204).Id) v213, [14, 23, 16, 6, 17, 1])) (mput v213 ((gt a199 v204).Id) e216)), [(Tryd.f33.ntmps, []), (Tryd.f32.ntmps, [(0, V.sl 3 (rws api_Event.cells a199)), (1, V.fn 33 [V.ptr [14, 7] 0 0]), (5, I v204), (7, I (a199.length : Int)), (8, I v204)]), (Tryd.f25.ntmps, [(1, V.sl 3 (rws api_Event.cells a199)), (7, V.ptr [14, 7] 0 0)]), (Tryd.f15.ntmps, [(1, V.sl 3 (rws api_Event.cells a199)), (4, V.nils)])], [14, 23, 16, 6]⟩) (.cov ⟨rfl, rfl, (ut upT_nil), (uo (uo (uo (uo (uo (uo (upOb_tl rfl (by repeat first | exact Tn.here | refine Tn.cons rfl ?_) rfl))))))), (upOut_cons rfl upT_nil (upOut_cons rfl (ut (ut (ut (ut (ut upT_nil))))) (upOut_cons rfl (ut (ut upT_nil)) (upOut_cons rfl (ut (ut upT_nil)) upOut_nil)))), (cl3 rfl (wi_cons rfl (wi_cons rfl (wi_cons rfl (wi_cons rfl (wi_cons rfl (wi_cons rfl (wi_tl rfl (by repeat first | exact Tn.here | refine Tn.cons rfl ?_) (fun _ => rfl) (sob rfl)))))))) rfl)⟩) ?_
         refine SafeOps.giveP (M := [14, 18]) (fun n : Int => I n) trace_seen.cells v213 ((gt a199 v204).Id) e216 (trace_seen.mk e216.Task (gt a199 v204)) [14, 23, 16, 6, 17, 1] rfl rfl rfl rfl rfl (fun _ _ _ => rfl) (by repeat first | exact Tg.here | apply Tg.drop rfl rfl | apply Tg.cons rfl rfl) rfl rfl ?_
         refine SafeOps.nil ?_
         repeat first|apply sq|apply sk|with_reducible first|apply tn|apply bn
         refine Safe.region ?_
         refine Qf E_good ?_
         refine Qf E_good ?_
         refine SafeOps.nil ?_
         repeat first|apply sq|apply sk|with_reducible first|apply tn|apply bn
         refine Safe.ret ?_
         repeat (first | with_reducible refine thenQ.r ?_ | with_reducible refine blockQ.r ?_)
         refine inQ.gen (vs := [V.bool false]) (v := V.bool false) (.inr rfl) rfl (.tmp (v := V.bool false) rfl .nil) rfl ?_
         exact SafeOps.got (HJ24668 (false, v212, mput v213 ((gt a199 v204).Id) (trace_seen.mk e216.Task (gt a199 v204))) h) (.cov ⟨rfl, rfl, (ut upT_nil), (uo (uo (uo (upOb_tl rfl (by repeat first | exact Tn.here | refine Tn.cons rfl ?_) rfl)))), (upOut_cons rfl (ut (ut (ut (ut (ut upT_nil))))) (upOut_cons rfl (ut (ut upT_nil)) (upOut_cons rfl (ut (ut upT_nil)) upOut_nil))), (cl3 rfl (wi_cons rfl (wi_cons rfl (wi_cons rfl (wi_tl rfl (by repeat first | exact Tn.here | refine Tn.cons rfl ?_) (fun _ => rfl) nob)))) rfl)⟩)
       ·skip
        refine Safe.condN rfl hc24828 ?_
        repeat first|apply sq|apply sk|with_reducible first|apply tn|apply bn
        refine Safe.region ?_
        refine Q0 E_good rfl (v := V.bool (((gt a199 v204).Kind) == 4)) (.fn rfl) ?_
        refine Qf E_good ?_
        refine SafeOps.nil ?_
        repeat first|apply sq|apply sk|with_reducible first|apply tn|apply bn
        refine ifG h (fun hc24833 h => ?_) (fun hc24833 h => ?_)
        ·skip
         refine Safe.condK rfl hc24833 ?_
         repeat first|apply sq|apply sk|with_reducible first|apply tn|apply bn
         refine Safe.region ?_
         refine Qf E_good ?_
         refine Q0 E_good rfl (v := V.ptr [14, 23, 16, 6, 17, 1] 0 0) (.fn rfl) ?_
         refine Q0 E_good rfl (v := V.ptr [14, 23, 16, 6, 17, 1] 0 0) (.fn rfl) ?_
         refine Q0 E_good rfl (v := V.ptr [14, 23, 16, 6, 17, 1] 0 9) (.fn rfl) ?_
         refine Q0 E_good rfl (v := I e216.Task.State) (.load rfl rfl (.box rfl rfl) rfl) ?_
         refine Q0 E_good rfl (v := V.bool (go_life_Waits e216.Task.State)) (.callP rfl rfl (go_life_Waits_sc e216.Task.State _ rfl) rfl) ?_
         refine Qf E_good ?_
         refine SafeOps.bjoin 4 87 (b := ((go_life_Waits e216.Task.State) && (((gt a199 v204).A) == 0))) (b1 := (((gt a199 v204).A) == 0)) (b0 := false) (fun hc24834 K => ?_) (fun hc24834 K => ?_) bj_and ?_
         ·skip
          refine qT E_good hc24834 (v := V.ptr [14, 23, 16, 6, 3] 0 2) (.fn rfl) ?_
          refine qT E_good hc24834 (v := I ((gt a199 v204).A)) (.load rfl rfl (.box rfl rfl) rfl) ?_
          refine qT E_good hc24834 (v := V.bool (((gt a199 v204).A) == 0)) (.fn rfl) ?_
          refine Q0 E_good rfl (v := V.bool (((gt a199 v204).A) == 0)) (.pickK rfl hc24834 rfl) ?_
          exact SafeOps.drop' 4 rfl rfl rfl K
         ·skip
          refine sT hc24834 ?_
          refine sT hc24834 ?_
          refine sT hc24834 ?_
          refine Q0 E_good rfl (v := V.bool false) (.pickK rfl hc24834 rfl) ?_
          exact SafeOps.drop' 4 rfl rfl rfl K
         refine Qf E_good ?_
         refine SafeOps.nil ?_
         repeat first|apply sq|apply sk|with_reducible first|apply tn|apply bn
         refine Safe.region ?_
         refine Qf E_good ?_
         refine SafeOps.nil ?_
         repeat first|apply sq|apply sk|with_reducible first|apply tn|apply bn
         refine ifG h (fun hc24835 h => ?_) (fun hc24835 h => ?_)
         ·skip
          refine Safe.condK rfl hc24835 ?_
          repeat first|apply sq|apply sk|with_reducible first|apply tn|apply bn
          refine Safe.region ?_
          refine Qf E_good ?_
          refine Q0 E_good rfl (v := V.ptr [14, 23, 16, 6, 17, 1] 0 0) (.fn rfl) ?_
          refine Q0 E_good rfl (v := V.ptr [14, 23, 16, 6, 17, 1] 0 0) (.fn rfl) ?_
          refine Q0 E_good rfl (v := V.ptr [14, 23, 16, 6, 17, 1] 0 9) (.fn rfl) ?_
          refine SafeOps.store (z := Obj.box [I e216.Task.Id, I e216.Task.Tenant, I e216.Task.Prog, I e216.Task.Pc, I e216.Task.Unit, I e216.Task.Keeps.a0, I e216.Task.Keeps.a1, I e216.Task.Keeps.a2, I e216.Task.Keeps.a3, I 1, I e216.Task.Ran, I e216.last.Kind, I e216.last.Id, I e216.last.A]) E_good rfl rfl rfl rfl rfl rfl rfl (.boxM (c := 14) rfl rfl (Nat.le_of_ble_eq_true rfl) rfl) ?_
          refine SafeOps.nil ?_
          repeat first|apply sq|apply sk|with_reducible first|apply tn|apply bn
          refine Safe.region ?_
          refine Qf E_good ?_
          refine Q0 E_good rfl (v := V.agg [I ((gt a199 v204).Kind), I ((gt a199 v204).Id), I ((gt a199 v204).A)]) (.load rfl rfl (.box rfl rfl) rfl) ?_
          refine Q0 E_good rfl (v := V.ptr [14, 23, 16, 6, 17, 1] 0 0) (.fn rfl) ?_
          refine Q0 E_good rfl (v := V.ptr [14, 23, 16, 6, 17, 1] 0 11) (.fn rfl) ?_
          refine SafeOps.store (z := Obj.box [I e216.Task.Id, I e216.Task.Tenant, I e216.Task.Prog, I e216.Task.Pc, I e216.Task.Unit, I e216.Task.Keeps.a0, I e216.Task.Keeps.a1, I e216.Task.Keeps.a2, I e216.Task.Keeps.a3, I 1, I e216.Task.Ran, I ((gt a199 v204).Kind), I ((gt a199 v204).Id), I ((gt a199 v204).A)]) E_good rfl rfl rfl rfl rfl rfl rfl (.boxM (c := 14) rfl rfl (Nat.le_of_ble_eq_true rfl) rfl) ?_
          refine SafeOps.gets (τ := ⟨Tryd.f34.ntmps, [(9, V.bool ((go_life_Waits e216.Task.State) && (((gt a199 v204).A) == 0)))], ([14, 7], Obj.box [V.ptr [14, 20] 0 0]) :: ([14, 20], Obj.box [V.sl 1 (rws (fun l => [V.sl 3 (rws api_Instr.cells l)]) a211), V.mapr [14, 18], V.ref [7000, 114, 14, 20, 2] 0 (rws (fun n => [I n]) v212).length]) :: ([14, 23, 16, 2], Obj.box [I ((gt a199 v204).Kind), I ((gt a199 v204).Id), I ((gt a199 v204).A)]) :: ([14, 23, 16, 6, 3], Obj.box [I ((gt a199 v204).Kind), I ((gt a199 v204).Id), I ((gt a199 v204).A)]) :: ([14, 23, 16, 6, 17, 1], Obj.box [I e216.Task.Id, I e216.Task.Tenant, I e216.Task.Prog, I e216.Task.Pc, I e216.Task.Unit, I e216.Task.Keeps.a0, I e216.Task.Keeps.a1, I e216.Task.Keeps.a2, I e216.Task.Keeps.a3, I 1, I e216.Task.Ran, I ((gt a199 v204).Kind), I ((gt a199 v204).Id), I ((gt a199 v204).A)]) :: ([7000, 114, 14, 20, 2], Obj.rows 1 (rws (fun n => [I n]) v212) false) :: (pmo [14, 18] (fun n : Int => I n) trace_seen.cells (some (mix ((gt a199 v204).Id) v213, [14, 23, 16, 6, 17, 1])) (mput v213 ((gt a199 v204).Id) e216)), [(Tryd.f33.ntmps, []), (Tryd.f32.ntmps, [(0, V.sl 3 (rws api_Event.cells a199)), (1, V.fn 33 [V.ptr [14, 7] 0 0]), (5, I v204), (7, I (a199.length : Int)), (8, I v204)]), (Tryd.f25.ntmps, [(1, V.sl 3 (rws api_Event.cells a199)), (7, V.ptr [14, 7] 0 0)]), (Tryd.f15.ntmps, [(1, V.sl 3 (rws api_Event.cells a199)), (4, V.nils)])], [14, 23, 16, 6]⟩) (.cov ⟨rfl, rfl, (ut upT_nil), (uo (uo (uo (uo (uo (uo (upOb_tl rfl (by repeat first | exact Tn.here | refine Tn.cons rfl ?_) rfl))))))), (upOut_cons rfl upT_nil (upOut_cons rfl (ut (ut (ut (ut (ut upT_nil))))) (upOut_cons rfl (ut (ut upT_nil)) (upOut_cons rfl (ut (ut upT_nil)) upOut_nil)))), (cl3 rfl (wi_cons rfl (wi_cons rfl (wi_cons rfl (wi_cons rfl (wi_cons rfl (wi_cons rfl (wi_tl rfl (by repeat first | exact Tn.here | refine Tn.cons rfl ?_) (fun _ => rfl) (sob rfl)))))))) rfl)⟩) ?_
          refine SafeOps.giveP (M := [14, 18]) (fun n : Int => I n) trace_seen.cells v213 ((gt a199 v204).Id) e216 (trace_seen.mk (api_Task.mk e216.Task.Id e216.Task.Tenant e216.Task.Prog e216.Task.Pc e216.Task.Unit e216.Task.Keeps 1 e216.Task.Ran) (gt a199 v204)) [14, 23, 16, 6, 17, 1] rfl rfl rfl rfl rfl (fun _ _ _ => rfl) (by repeat first | exact Tg.here | apply Tg.drop rfl rfl | apply Tg.cons rfl rfl) rfl rfl ?_
          refine SafeOps.nil ?_
          repeat first|apply sq|apply sk|with_reducible first|apply tn|apply bn
          refine Safe.region ?_
          refine Qf E_good ?_
          refine Qf E_good ?_
          refine SafeOps.nil ?_
          repeat first|apply sq|apply sk|with_reducible first|apply tn|apply bn
          refine Safe.ret ?_
          repeat (first | with_reducible refine thenQ.r ?_ | with_reducible refine blockQ.r ?_)
          refine inQ.gen (vs := [V.bool ((go_life_Waits e216.Task.State) && (((gt a199 v204).A) == 0))]) (v := V.bool ((go_life_Waits e216.Task.State) && (((gt a199 v204).A) == 0))) (.inr rfl) rfl (.tmp (v := V.bool ((go_life_Waits e216.Task.State) && (((gt a199 v204).A) == 0))) rfl .nil) rfl ?_
          exact SafeOps.got (HJ24668 (((go_life_Waits e216.Task.State) && (((gt a199 v204).A) == 0)), v212, mput v213 ((gt a199 v204).Id) (trace_seen.mk (api_Task.mk e216.Task.Id e216.Task.Tenant e216.Task.Prog e216.Task.Pc e216.Task.Unit e216.Task.Keeps 1 e216.Task.Ran) (gt a199 v204))) h) (.cov ⟨rfl, rfl, (ut upT_nil), (uo (uo (uo (upOb_tl rfl (by repeat first | exact Tn.here | refine Tn.cons rfl ?_) rfl)))), (upOut_cons rfl (ut (ut (ut (ut (ut upT_nil))))) (upOut_cons rfl (ut (ut upT_nil)) (upOut_cons rfl (ut (ut upT_nil)) upOut_nil))), (cl3 rfl (wi_cons rfl (wi_cons rfl (wi_cons rfl (wi_tl rfl (by repeat first | exact Tn.here | refine Tn.cons rfl ?_) (fun _ => rfl) nob)))) rfl)⟩)
         ·skip
          refine Safe.condN rfl hc24835 ?_
          repeat first|apply sq|apply sk|with_reducible first|apply tn|apply bn
          refine Safe.region ?_
          refine Qf E_good ?_
          refine Q0 E_good rfl (v := V.agg [I ((gt a199 v204).Kind), I ((gt a199 v204).Id), I ((gt a199 v204).A)]) (.load rfl rfl (.box rfl rfl) rfl) ?_
          refine Q0 E_good rfl (v := V.ptr [14, 23, 16, 6, 17, 1] 0 0) (.fn rfl) ?_
          refine Q0 E_good rfl (v := V.ptr [14, 23, 16, 6, 17, 1] 0 11) (.fn rfl) ?_
          refine SafeOps.store (z := Obj.box [I e216.Task.Id, I e216.Task.Tenant, I e216.Task.Prog, I e216.Task.Pc, I e216.Task.Unit, I e216.Task.Keeps.a0, I e216.Task.Keeps.a1, I e216.Task.Keeps.a2, I e216.Task.Keeps.a3, I e216.Task.State, I e216.Task.Ran, I ((gt a199 v204).Kind), I ((gt a199 v204).Id), I ((gt a199 v204).A)]) E_good rfl rfl rfl rfl rfl rfl rfl (.boxM (c := 14) rfl rfl (Nat.le_of_ble_eq_true rfl) rfl) ?_
          refine SafeOps.gets (τ := ⟨Tryd.f34.ntmps, [(9, V.bool ((go_life_Waits e216.Task.State) && (((gt a199 v204).A) == 0)))], ([14, 7], Obj.box [V.ptr [14, 20] 0 0]) :: ([14, 20], Obj.box [V.sl 1 (rws (fun l => [V.sl 3 (rws api_Instr.cells l)]) a211), V.mapr [14, 18], V.ref [7000, 114, 14, 20, 2] 0 (rws (fun n => [I n]) v212).length]) :: ([14, 23, 16, 2], Obj.box [I ((gt a199 v204).Kind), I ((gt a199 v204).Id), I ((gt a199 v204).A)]) :: ([14, 23, 16, 6, 3], Obj.box [I ((gt a199 v204).Kind), I ((gt a199 v204).Id), I ((gt a199 v204).A)]) :: ([14, 23, 16, 6, 17, 1], Obj.box [I e216.Task.Id, I e216.Task.Tenant, I e216.Task.Prog, I e216.Task.Pc, I e216.Task.Unit, I e216.Task.Keeps.a0, I e216.Task.Keeps.a1, I e216.Task.Keeps.a2, I e216.Task.Keeps.a3, I e216.Task.State, I e216.Task.Ran, I ((gt a199 v204).Kind), I ((gt a199 v204).Id), I ((gt a199 v204).A)]) :: ([7000, 114, 14, 20, 2], Obj.rows 1 (rws (fun n => [I n]) v212) false) :: (pmo [14, 18] (fun n : Int => I n) trace_seen.cells (some (mix ((gt a199 v204).Id) v213, [14, 23, 16, 6, 17, 1])) (mput v213 ((gt a199 v204).Id) e216)), [(Tryd.f33.ntmps, []), (Tryd.f32.ntmps, [(0, V.sl 3 (rws api_Event.cells a199)), (1, V.fn 33 [V.ptr [14, 7] 0 0]), (5, I v204), (7, I (a199.length : Int)), (8, I v204)]), (Tryd.f25.ntmps, [(1, V.sl 3 (rws api_Event.cells a199)), (7, V.ptr [14, 7] 0 0)]), (Tryd.f15.ntmps, [(1, V.sl 3 (rws api_Event.cells a199)), (4, V.nils)])], [14, 23, 16, 6]⟩) (.cov ⟨rfl, rfl, (ut upT_nil), (uo (uo (uo (uo (uo (uo (upOb_tl rfl (by repeat first | exact Tn.here | refine Tn.cons rfl ?_) rfl))))))), (upOut_cons rfl upT_nil (upOut_cons rfl (ut (ut (ut (ut (ut upT_nil))))) (upOut_cons rfl (ut (ut upT_nil)) (upOut_cons rfl (ut (ut upT_nil)) upOut_nil)))), (cl3 rfl (wi_cons rfl (wi_cons rfl (wi_cons rfl (wi_cons rfl (wi_cons rfl (wi_cons rfl (wi_tl rfl (by repeat first | exact Tn.here | refine Tn.cons rfl ?_) (fun _ => rfl) (sob rfl)))))))) rfl)⟩) ?_
          refine SafeOps.giveP (M := [14, 18]) (fun n : Int => I n) trace_seen.cells v213 ((gt a199 v204).Id) e216 (trace_seen.mk e216.Task (gt a199 v204)) [14, 23, 16, 6, 17, 1] rfl rfl rfl rfl rfl (fun _ _ _ => rfl) (by repeat first | exact Tg.here | apply Tg.drop rfl rfl | apply Tg.cons rfl rfl) rfl rfl ?_
          refine SafeOps.nil ?_
          repeat first|apply sq|apply sk|with_reducible first|apply tn|apply bn
          refine Safe.region ?_
          refine Qf E_good ?_
          refine Qf E_good ?_
          refine SafeOps.nil ?_
          repeat first|apply sq|apply sk|with_reducible first|apply tn|apply bn
          refine Safe.ret ?_
          repeat (first | with_reducible refine thenQ.r ?_ | with_reducible refine blockQ.r ?_)
          refine inQ.gen (vs := [V.bool ((go_life_Waits e216.Task.State) && (((gt a199 v204).A) == 0))]) (v := V.bool ((go_life_Waits e216.Task.State) && (((gt a199 v204).A) == 0))) (.inr rfl) rfl (.tmp (v := V.bool ((go_life_Waits e216.Task.State) && (((gt a199 v204).A) == 0))) rfl .nil) rfl ?_
          exact SafeOps.got (HJ24668 (((go_life_Waits e216.Task.State) && (((gt a199 v204).A) == 0)), v212, mput v213 ((gt a199 v204).Id) (trace_seen.mk e216.Task (gt a199 v204))) h) (.cov ⟨rfl, rfl, (ut upT_nil), (uo (uo (uo (upOb_tl rfl (by repeat first | exact Tn.here | refine Tn.cons rfl ?_) rfl)))), (upOut_cons rfl (ut (ut (ut (ut (ut upT_nil))))) (upOut_cons rfl (ut (ut upT_nil)) (upOut_cons rfl (ut (ut upT_nil)) upOut_nil))), (cl3 rfl (wi_cons rfl (wi_cons rfl (wi_cons rfl (wi_tl rfl (by repeat first | exact Tn.here | refine Tn.cons rfl ?_) (fun _ => rfl) nob)))) rfl)⟩)
        ·skip
         refine Safe.condN rfl hc24833 ?_
         repeat first|apply sq|apply sk|with_reducible first|apply tn|apply bn
         refine Safe.region ?_
         refine Q0 E_good rfl (v := V.bool (((gt a199 v204).Kind) == 5)) (.fn rfl) ?_
         refine Qf E_good ?_
         refine SafeOps.nil ?_
         repeat first|apply sq|apply sk|with_reducible first|apply tn|apply bn
         refine ifG h (fun hc24836 h => ?_) (fun hc24836 h => ?_)
         ·skip
          refine Safe.condK rfl hc24836 ?_
          repeat first|apply sq|apply sk|with_reducible first|apply tn|apply bn
          refine Safe.region ?_
          refine Qf E_good ?_
          refine Qf E_good ?_
          refine SafeOps.bjoin 2 98 (b := ((e216.Task.State == 1) && (e216.last.Kind == 2))) (b1 := (e216.last.Kind == 2)) (b0 := false) (fun hc24837 K => ?_) (fun hc24837 K => ?_) bj_and ?_
          ·skip
           refine qT E_good hc24837 (.fn rfl) ?_
           refine Q0 E_good rfl (v := V.bool (e216.last.Kind == 2)) (.pickK rfl hc24837 rfl) ?_
           exact SafeOps.drop' 2 rfl rfl rfl K
          ·skip
           refine sT hc24837 ?_
           refine Q0 E_good rfl (v := V.bool false) (.pickK rfl hc24837 rfl) ?_
           exact SafeOps.drop' 2 rfl rfl rfl K
          refine Qf E_good ?_
          refine SafeOps.bjoin 7 106 (b := (((e216.Task.State == 1) && (e216.last.Kind == 2)) && (e216.last.A == 9))) (b1 := (e216.last.A == 9)) (b0 := false) (fun hc24838 K => ?_) (fun hc24838 K => ?_) bj_and ?_
          ·skip
           refine qT E_good hc24838 (.fn rfl) ?_
           refine qT E_good hc24838 (v := V.ptr [14, 23, 16, 6, 17, 1] 0 0) (.fn rfl) ?_
           refine qT E_good hc24838 (v := V.ptr [14, 23, 16, 6, 17, 1] 0 11) (.fn rfl) ?_
           refine qT E_good hc24838 (v := V.ptr [14, 23, 16, 6, 17, 1] 0 13) (.fn rfl) ?_
           refine qT E_good hc24838 (v := I e216.last.A) (.load rfl rfl (.box rfl rfl) rfl) ?_
           refine qT E_good hc24838 (v := V.bool (e216.last.A == 9)) (.fn rfl) ?_
           refine Q0 E_good rfl (v := V.bool (e216.last.A == 9)) (.pickK rfl hc24838 rfl) ?_
           exact SafeOps.drop' 7 rfl rfl rfl K
          ·skip
           refine sT hc24838 ?_
           refine sT hc24838 ?_
           refine sT hc24838 ?_
           refine sT hc24838 ?_
           refine sT hc24838 ?_
           refine sT hc24838 ?_
           refine Q0 E_good rfl (v := V.bool false) (.pickK rfl hc24838 rfl) ?_
           exact SafeOps.drop' 7 rfl rfl rfl K
          refine Qf E_good ?_
          refine SafeOps.bjoin 4 111 (b := ((((e216.Task.State == 1) && (e216.last.Kind == 2)) && (e216.last.A == 9)) && (((gt a199 v204).A) == 0))) (b1 := (((gt a199 v204).A) == 0)) (b0 := false) (fun hc24839 K => ?_) (fun hc24839 K => ?_) bj_and ?_
          ·skip
           refine qT E_good hc24839 (v := V.ptr [14, 23, 16, 6, 3] 0 2) (.fn rfl) ?_
           refine qT E_good hc24839 (v := I ((gt a199 v204).A)) (.load rfl rfl (.box rfl rfl) rfl) ?_
           refine qT E_good hc24839 (v := V.bool (((gt a199 v204).A) == 0)) (.fn rfl) ?_
           refine Q0 E_good rfl (v := V.bool (((gt a199 v204).A) == 0)) (.pickK rfl hc24839 rfl) ?_
           exact SafeOps.drop' 4 rfl rfl rfl K
          ·skip
           refine sT hc24839 ?_
           refine sT hc24839 ?_
           refine sT hc24839 ?_
           refine Q0 E_good rfl (v := V.bool false) (.pickK rfl hc24839 rfl) ?_
           exact SafeOps.drop' 4 rfl rfl rfl K
          refine Qf E_good ?_
          refine SafeOps.nil ?_
          repeat first|apply sq|apply sk|with_reducible first|apply tn|apply bn
          refine Safe.region ?_
          refine Qf E_good ?_
          refine SafeOps.nil ?_
          repeat first|apply sq|apply sk|with_reducible first|apply tn|apply bn
          refine ifG h (fun hc24840 h => ?_) (fun hc24840 h => ?_)
          ·skip
           refine Safe.condK rfl hc24840 ?_
           repeat first|apply sq|apply sk|with_reducible first|apply tn|apply bn
           refine Safe.region ?_
           refine Qf E_good ?_
           refine Q0 E_good rfl (v := V.ptr [14, 23, 16, 6, 17, 1] 0 0) (.fn rfl) ?_
           refine Q0 E_good rfl (v := V.ptr [14, 23, 16, 6, 17, 1] 0 0) (.fn rfl) ?_
           refine Q0 E_good rfl (v := V.ptr [14, 23, 16, 6, 17, 1] 0 9) (.fn rfl) ?_
           refine SafeOps.store (z := Obj.box [I e216.Task.Id, I e216.Task.Tenant, I e216.Task.Prog, I e216.Task.Pc, I e216.Task.Unit, I e216.Task.Keeps.a0, I e216.Task.Keeps.a1, I e216.Task.Keeps.a2, I e216.Task.Keeps.a3, I 7, I e216.Task.Ran, I e216.last.Kind, I e216.last.Id, I e216.last.A]) E_good rfl rfl rfl rfl rfl rfl rfl (.boxM (c := 14) rfl rfl (Nat.le_of_ble_eq_true rfl) rfl) ?_
           refine SafeOps.nil ?_
           repeat first|apply sq|apply sk|with_reducible first|apply tn|apply bn
           refine Safe.region ?_
           refine Qf E_good ?_
           refine Q0 E_good rfl (v := V.agg [I ((gt a199 v204).Kind), I ((gt a199 v204).Id), I ((gt a199 v204).A)]) (.load rfl rfl (.box rfl rfl) rfl) ?_
           refine Q0 E_good rfl (v := V.ptr [14, 23, 16, 6, 17, 1] 0 0) (.fn rfl) ?_
           refine Q0 E_good rfl (v := V.ptr [14, 23, 16, 6, 17, 1] 0 11) (.fn rfl) ?_
           refine SafeOps.store (z := Obj.box [I e216.Task.Id, I e216.Task.Tenant, I e216.Task.Prog, I e216.Task.Pc, I e216.Task.Unit, I e216.Task.Keeps.a0, I e216.Task.Keeps.a1, I e216.Task.Keeps.a2, I e216.Task.Keeps.a3, I 7, I e216.Task.Ran, I ((gt a199 v204).Kind), I ((gt a199 v204).Id), I ((gt a199 v204).A)]) E_good rfl rfl rfl rfl rfl rfl rfl (.boxM (c := 14) rfl rfl (Nat.le_of_ble_eq_true rfl) rfl) ?_
           refine SafeOps.gets (τ := ⟨Tryd.f34.ntmps, [(9, V.bool ((((e216.Task.State == 1) && (e216.last.Kind == 2)) && (e216.last.A == 9)) && (((gt a199 v204).A) == 0)))], ([14, 7], Obj.box [V.ptr [14, 20] 0 0]) :: ([14, 20], Obj.box [V.sl 1 (rws (fun l => [V.sl 3 (rws api_Instr.cells l)]) a211), V.mapr [14, 18], V.ref [7000, 114, 14, 20, 2] 0 (rws (fun n => [I n]) v212).length]) :: ([14, 23, 16, 2], Obj.box [I ((gt a199 v204).Kind), I ((gt a199 v204).Id), I ((gt a199 v204).A)]) :: ([14, 23, 16, 6, 3], Obj.box [I ((gt a199 v204).Kind), I ((gt a199 v204).Id), I ((gt a199 v204).A)]) :: ([14, 23, 16, 6, 17, 1], Obj.box [I e216.Task.Id, I e216.Task.Tenant, I e216.Task.Prog, I e216.Task.Pc, I e216.Task.Unit, I e216.Task.Keeps.a0, I e216.Task.Keeps.a1, I e216.Task.Keeps.a2, I e216.Task.Keeps.a3, I 7, I e216.Task.Ran, I ((gt a199 v204).Kind), I ((gt a199 v204).Id), I ((gt a199 v204).A)]) :: ([7000, 114, 14, 20, 2], Obj.rows 1 (rws (fun n => [I n]) v212) false) :: (pmo [14, 18] (fun n : Int => I n) trace_seen.cells (some (mix ((gt a199 v204).Id) v213, [14, 23, 16, 6, 17, 1])) (mput v213 ((gt a199 v204).Id) e216)), [(Tryd.f33.ntmps, []), (Tryd.f32.ntmps, [(0, V.sl 3 (rws api_Event.cells a199)), (1, V.fn 33 [V.ptr [14, 7] 0 0]), (5, I v204), (7, I (a199.length : Int)), (8, I v204)]), (Tryd.f25.ntmps, [(1, V.sl 3 (rws api_Event.cells a199)), (7, V.ptr [14, 7] 0 0)]), (Tryd.f15.ntmps, [(1, V.sl 3 (rws api_Event.cells a199)), (4, V.nils)])], [14, 23, 16, 6]⟩) (.cov ⟨rfl, rfl, (ut upT_nil), (uo (uo (uo (uo (uo (uo (upOb_tl rfl (by repeat first | exact Tn.here | refine Tn.cons rfl ?_) rfl))))))), (upOut_cons rfl upT_nil (upOut_cons rfl (ut (ut (ut (ut (ut upT_nil))))) (upOut_cons rfl (ut (ut upT_nil)) (upOut_cons rfl (ut (ut upT_nil)) upOut_nil)))), (cl3 rfl (wi_cons rfl (wi_cons rfl (wi_cons rfl (wi_cons rfl (wi_cons rfl (wi_cons rfl (wi_tl rfl (by repeat first | exact Tn.here | refine Tn.cons rfl ?_) (fun _ => rfl) (sob rfl)))))))) rfl)⟩) ?_
           refine SafeOps.giveP (M := [14, 18]) (fun n : Int => I n) trace_seen.cells v213 ((gt a199 v204).Id) e216 (trace_seen.mk (api_Task.mk e216.Task.Id e216.Task.Tenant e216.Task.Prog e216.Task.Pc e216.Task.Unit e216.Task.Keeps 7 e216.Task.Ran) (gt a199 v204)) [14, 23, 16, 6, 17, 1] rfl rfl rfl rfl rfl (fun _ _ _ => rfl) (by repeat first | exact Tg.here | apply Tg.drop rfl rfl | apply Tg.cons rfl rfl) rfl rfl ?_
           refine SafeOps.nil ?_
           repeat first|apply sq|apply sk|with_reducible first|apply tn|apply bn
           refine Safe.region ?_
           refine Qf E_good ?_
           refine Qf E_good ?_
           refine SafeOps.nil ?_
           repeat first|apply sq|apply sk|with_reducible first|apply tn|apply bn
           refine Safe.ret ?_
           repeat (first | with_reducible refine thenQ.r ?_ | with_reducible refine blockQ.r ?_)
           refine inQ.gen (vs := [V.bool ((((e216.Task.State == 1) && (e216.last.Kind == 2)) && (e216.last.A == 9)) && (((gt a199 v204).A) == 0))]) (v := V.bool ((((e216.Task.State == 1) && (e216.last.Kind == 2)) && (e216.last.A == 9)) && (((gt a199 v204).A) == 0))) (.inr rfl) rfl (.tmp (v := V.bool ((((e216.Task.State == 1) && (e216.last.Kind == 2)) && (e216.last.A == 9)) && (((gt a199 v204).A) == 0))) rfl .nil) rfl ?_
           exact SafeOps.got (HJ24668 (((((e216.Task.State == 1) && (e216.last.Kind == 2)) && (e216.last.A == 9)) && (((gt a199 v204).A) == 0)), v212, mput v213 ((gt a199 v204).Id) (trace_seen.mk (api_Task.mk e216.Task.Id e216.Task.Tenant e216.Task.Prog e216.Task.Pc e216.Task.Unit e216.Task.Keeps 7 e216.Task.Ran) (gt a199 v204))) h) (.cov ⟨rfl, rfl, (ut upT_nil), (uo (uo (uo (upOb_tl rfl (by repeat first | exact Tn.here | refine Tn.cons rfl ?_) rfl)))), (upOut_cons rfl (ut (ut (ut (ut (ut upT_nil))))) (upOut_cons rfl (ut (ut upT_nil)) (upOut_cons rfl (ut (ut upT_nil)) upOut_nil))), (cl3 rfl (wi_cons rfl (wi_cons rfl (wi_cons rfl (wi_tl rfl (by repeat first | exact Tn.here | refine Tn.cons rfl ?_) (fun _ => rfl) nob)))) rfl)⟩)
          ·skip
           refine Safe.condN rfl hc24840 ?_
           repeat first|apply sq|apply sk|with_reducible first|apply tn|apply bn
           refine Safe.region ?_
           refine Qf E_good ?_
           refine Q0 E_good rfl (v := V.agg [I ((gt a199 v204).Kind), I ((gt a199 v204).Id), I ((gt a199 v204).A)]) (.load rfl rfl (.box rfl rfl) rfl) ?_
           refine Q0 E_good rfl (v := V.ptr [14, 23, 16, 6, 17, 1] 0 0) (.fn rfl) ?_
           refine Q0 E_good rfl (v := V.ptr [14, 23, 16, 6, 17, 1] 0 11) (.fn rfl) ?_
           refine SafeOps.store (z := Obj.box [I e216.Task.Id, I e216.Task.Tenant, I e216.Task.Prog, I e216.Task.Pc, I e216.Task.Unit, I e216.Task.Keeps.a0, I e216.Task.Keeps.a1, I e216.Task.Keeps.a2, I e216.Task.Keeps.a3, I e216.Task.State, I e216.Task.Ran, I ((gt a199 v204).Kind), I ((gt a199 v204).Id), I ((gt a199 v204).A)]) E_good rfl rfl rfl rfl rfl rfl rfl (.boxM (c := 14) rfl rfl (Nat.le_of_ble_eq_true rfl) rfl) ?_
           refine SafeOps.gets (τ := ⟨Tryd.f34.ntmps, [(9, V.bool ((((e216.Task.State == 1) && (e216.last.Kind == 2)) && (e216.last.A == 9)) && (((gt a199 v204).A) == 0)))], ([14, 7], Obj.box [V.ptr [14, 20] 0 0]) :: ([14, 20], Obj.box [V.sl 1 (rws (fun l => [V.sl 3 (rws api_Instr.cells l)]) a211), V.mapr [14, 18], V.ref [7000, 114, 14, 20, 2] 0 (rws (fun n => [I n]) v212).length]) :: ([14, 23, 16, 2], Obj.box [I ((gt a199 v204).Kind), I ((gt a199 v204).Id), I ((gt a199 v204).A)]) :: ([14, 23, 16, 6, 3], Obj.box [I ((gt a199 v204).Kind), I ((gt a199 v204).Id), I ((gt a199 v204).A)]) :: ([14, 23, 16, 6, 17, 1], Obj.box [I e216.Task.Id, I e216.Task.Tenant, I e216.Task.Prog, I e216.Task.Pc, I e216.Task.Unit, I e216.Task.Keeps.a0, I e216.Task.Keeps.a1, I e216.Task.Keeps.a2, I e216.Task.Keeps.a3, I e216.Task.State, I e216.Task.Ran, I ((gt a199 v204).Kind), I ((gt a199 v204).Id), I ((gt a199 v204).A)]) :: ([7000, 114, 14, 20, 2], Obj.rows 1 (rws (fun n => [I n]) v212) false) :: (pmo [14, 18] (fun n : Int => I n) trace_seen.cells (some (mix ((gt a199 v204).Id) v213, [14, 23, 16, 6, 17, 1])) (mput v213 ((gt a199 v204).Id) e216)), [(Tryd.f33.ntmps, []), (Tryd.f32.ntmps, [(0, V.sl 3 (rws api_Event.cells a199)), (1, V.fn 33 [V.ptr [14, 7] 0 0]), (5, I v204), (7, I (a199.length : Int)), (8, I v204)]), (Tryd.f25.ntmps, [(1, V.sl 3 (rws api_Event.cells a199)), (7, V.ptr [14, 7] 0 0)]), (Tryd.f15.ntmps, [(1, V.sl 3 (rws api_Event.cells a199)), (4, V.nils)])], [14, 23, 16, 6]⟩) (.cov ⟨rfl, rfl, (ut upT_nil), (uo (uo (uo (uo (uo (uo (upOb_tl rfl (by repeat first | exact Tn.here | refine Tn.cons rfl ?_) rfl))))))), (upOut_cons rfl upT_nil (upOut_cons rfl (ut (ut (ut (ut (ut upT_nil))))) (upOut_cons rfl (ut (ut upT_nil)) (upOut_cons rfl (ut (ut upT_nil)) upOut_nil)))), (cl3 rfl (wi_cons rfl (wi_cons rfl (wi_cons rfl (wi_cons rfl (wi_cons rfl (wi_cons rfl (wi_tl rfl (by repeat first | exact Tn.here | refine Tn.cons rfl ?_) (fun _ => rfl) (sob rfl)))))))) rfl)⟩) ?_
           refine SafeOps.giveP (M := [14, 18]) (fun n : Int => I n) trace_seen.cells v213 ((gt a199 v204).Id) e216 (trace_seen.mk e216.Task (gt a199 v204)) [14, 23, 16, 6, 17, 1] rfl rfl rfl rfl rfl (fun _ _ _ => rfl) (by repeat first | exact Tg.here | apply Tg.drop rfl rfl | apply Tg.cons rfl rfl) rfl rfl ?_
           refine SafeOps.nil ?_
           repeat first|apply sq|apply sk|with_reducible first|apply tn|apply bn
           refine Safe.region ?_
           refine Qf E_good ?_
           refine Qf E_good ?_
           refine SafeOps.nil ?_
           repeat first|apply sq|apply sk|with_reducible first|apply tn|apply bn
           refine Safe.ret ?_
           repeat (first | with_reducible refine thenQ.r ?_ | with_reducible refine blockQ.r ?_)
           refine inQ.gen (vs := [V.bool ((((e216.Task.State == 1) && (e216.last.Kind == 2)) && (e216.last.A == 9)) && (((gt a199 v204).A) == 0))]) (v := V.bool ((((e216.Task.State == 1) && (e216.last.Kind == 2)) && (e216.last.A == 9)) && (((gt a199 v204).A) == 0))) (.inr rfl) rfl (.tmp (v := V.bool ((((e216.Task.State == 1) && (e216.last.Kind == 2)) && (e216.last.A == 9)) && (((gt a199 v204).A) == 0))) rfl .nil) rfl ?_
           exact SafeOps.got (HJ24668 (((((e216.Task.State == 1) && (e216.last.Kind == 2)) && (e216.last.A == 9)) && (((gt a199 v204).A) == 0)), v212, mput v213 ((gt a199 v204).Id) (trace_seen.mk e216.Task (gt a199 v204))) h) (.cov ⟨rfl, rfl, (ut upT_nil), (uo (uo (uo (upOb_tl rfl (by repeat first | exact Tn.here | refine Tn.cons rfl ?_) rfl)))), (upOut_cons rfl (ut (ut (ut (ut (ut upT_nil))))) (upOut_cons rfl (ut (ut upT_nil)) (upOut_cons rfl (ut (ut upT_nil)) upOut_nil))), (cl3 rfl (wi_cons rfl (wi_cons rfl (wi_cons rfl (wi_tl rfl (by repeat first | exact Tn.here | refine Tn.cons rfl ?_) (fun _ => rfl) nob)))) rfl)⟩)
         ·skip
          refine Safe.condN rfl hc24836 ?_
          repeat first|apply sq|apply sk|with_reducible first|apply tn|apply bn
          refine Safe.region ?_
          refine Q0 E_good rfl (v := V.bool (((gt a199 v204).Kind) == 6)) (.fn rfl) ?_
          refine Qf E_good ?_
          refine SafeOps.nil ?_
          repeat first|apply sq|apply sk|with_reducible first|apply tn|apply bn
          refine ifG h (fun hc24841 h => ?_) (fun hc24841 h => ?_)
          ·skip
           refine Safe.condK rfl hc24841 ?_
           repeat first|apply sq|apply sk|with_reducible first|apply tn|apply bn
           refine Safe.region ?_
           refine Qf E_good ?_
           refine Q0 E_good rfl (v := V.ptr [14, 23, 16, 6, 17, 1] 0 0) (.fn rfl) ?_
           refine Q0 E_good rfl (v := V.ptr [14, 23, 16, 6, 17, 1] 0 0) (.fn rfl) ?_
           refine Q0 E_good rfl (v := V.ptr [14, 23, 16, 6, 17, 1] 0 9) (.fn rfl) ?_
           refine Q0 E_good rfl (v := I e216.Task.State) (.load rfl rfl (.box rfl rfl) rfl) ?_
           refine Q0 E_good rfl (v := V.bool (e216.Task.State != 7)) (.fn rfl) ?_
           refine Qf E_good ?_
           refine SafeOps.bjoin 4 129 (b := ((e216.Task.State != 7) && (((gt a199 v204).A) == 0))) (b1 := (((gt a199 v204).A) == 0)) (b0 := false) (fun hc24842 K => ?_) (fun hc24842 K => ?_) bj_and ?_
           ·skip
            refine qT E_good hc24842 (v := V.ptr [14, 23, 16, 6, 3] 0 2) (.fn rfl) ?_
            refine qT E_good hc24842 (v := I ((gt a199 v204).A)) (.load rfl rfl (.box rfl rfl) rfl) ?_
            refine qT E_good hc24842 (v := V.bool (((gt a199 v204).A) == 0)) (.fn rfl) ?_
            refine Q0 E_good rfl (v := V.bool (((gt a199 v204).A) == 0)) (.pickK rfl hc24842 rfl) ?_
            exact SafeOps.drop' 4 rfl rfl rfl K
           ·skip
            refine sT hc24842 ?_
            refine sT hc24842 ?_
            refine sT hc24842 ?_
            refine Q0 E_good rfl (v := V.bool false) (.pickK rfl hc24842 rfl) ?_
            exact SafeOps.drop' 4 rfl rfl rfl K
           refine Qf E_good ?_
           refine SafeOps.nil ?_
           repeat first|apply sq|apply sk|with_reducible first|apply tn|apply bn
           refine Safe.region ?_
           refine Qf E_good ?_
           refine SafeOps.nil ?_
           repeat first|apply sq|apply sk|with_reducible first|apply tn|apply bn
           refine ifG h (fun hc24843 h => ?_) (fun hc24843 h => ?_)
           ·skip
            refine Safe.condK rfl hc24843 ?_
            repeat first|apply sq|apply sk|with_reducible first|apply tn|apply bn
            refine Safe.region ?_
            refine Qf E_good ?_
            refine Q0 E_good rfl (v := V.ptr [14, 23, 16, 6, 17, 1] 0 0) (.fn rfl) ?_
            refine Q0 E_good rfl (v := V.ptr [14, 23, 16, 6, 17, 1] 0 0) (.fn rfl) ?_
            refine Q0 E_good rfl (v := V.ptr [14, 23, 16, 6, 17, 1] 0 9) (.fn rfl) ?_
            refine SafeOps.store (z := Obj.box [I e216.Task.Id, I e216.Task.Tenant, I e216.Task.Prog, I e216.Task.Pc, I e216.Task.Unit, I e216.Task.Keeps.a0, I e216.Task.Keeps.a1, I e216.Task.Keeps.a2, I e216.Task.Keeps.a3, I 7, I e216.Task.Ran, I e216.last.Kind, I e216.last.Id, I e216.last.A]) E_good rfl rfl rfl rfl rfl rfl rfl (.boxM (c := 14) rfl rfl (Nat.le_of_ble_eq_true rfl) rfl) ?_
            refine SafeOps.nil ?_
            repeat first|apply sq|apply sk|with_reducible first|apply tn|apply bn
            refine Safe.region ?_
            refine Qf E_good ?_
            refine Q0 E_good rfl (v := V.agg [I ((gt a199 v204).Kind), I ((gt a199 v204).Id), I ((gt a199 v204).A)]) (.load rfl rfl (.box rfl rfl) rfl) ?_
            refine Q0 E_good rfl (v := V.ptr [14, 23, 16, 6, 17, 1] 0 0) (.fn rfl) ?_
            refine Q0 E_good rfl (v := V.ptr [14, 23, 16, 6, 17, 1] 0 11) (.fn rfl) ?_
            refine SafeOps.store (z := Obj.box [I e216.Task.Id, I e216.Task.Tenant, I e216.Task.Prog, I e216.Task.Pc, I e216.Task.Unit, I e216.Task.Keeps.a0, I e216.Task.Keeps.a1, I e216.Task.Keeps.a2, I e216.Task.Keeps.a3, I 7, I e216.Task.Ran, I ((gt a199 v204).Kind), I ((gt a199 v204).Id), I ((gt a199 v204).A)]) E_good rfl rfl rfl rfl rfl rfl rfl (.boxM (c := 14) rfl rfl (Nat.le_of_ble_eq_true rfl) rfl) ?_
            refine SafeOps.gets (τ := ⟨Tryd.f34.ntmps, [(9, V.bool ((e216.Task.State != 7) && (((gt a199 v204).A) == 0)))], ([14, 7], Obj.box [V.ptr [14, 20] 0 0]) :: ([14, 20], Obj.box [V.sl 1 (rws (fun l => [V.sl 3 (rws api_Instr.cells l)]) a211), V.mapr [14, 18], V.ref [7000, 114, 14, 20, 2] 0 (rws (fun n => [I n]) v212).length]) :: ([14, 23, 16, 2], Obj.box [I ((gt a199 v204).Kind), I ((gt a199 v204).Id), I ((gt a199 v204).A)]) :: ([14, 23, 16, 6, 3], Obj.box [I ((gt a199 v204).Kind), I ((gt a199 v204).Id), I ((gt a199 v204).A)]) :: ([14, 23, 16, 6, 17, 1], Obj.box [I e216.Task.Id, I e216.Task.Tenant, I e216.Task.Prog, I e216.Task.Pc, I e216.Task.Unit, I e216.Task.Keeps.a0, I e216.Task.Keeps.a1, I e216.Task.Keeps.a2, I e216.Task.Keeps.a3, I 7, I e216.Task.Ran, I ((gt a199 v204).Kind), I ((gt a199 v204).Id), I ((gt a199 v204).A)]) :: ([7000, 114, 14, 20, 2], Obj.rows 1 (rws (fun n => [I n]) v212) false) :: (pmo [14, 18] (fun n : Int => I n) trace_seen.cells (some (mix ((gt a199 v204).Id) v213, [14, 23, 16, 6, 17, 1])) (mput v213 ((gt a199 v204).Id) e216)), [(Tryd.f33.ntmps, []), (Tryd.f32.ntmps, [(0, V.sl 3 (rws api_Event.cells a199)), (1, V.fn 33 [V.ptr [14, 7] 0 0]), (5, I v204), (7, I (a199.length : Int)), (8, I v204)]), (Tryd.f25.ntmps, [(1, V.sl 3 (rws api_Event.cells a199)), (7, V.ptr [14, 7] 0 0)]), (Tryd.f15.ntmps, [(1, V.sl 3 (rws api_Event.cells a199)), (4, V.nils)])], [14, 23, 16, 6]⟩) (.cov ⟨rfl, rfl, (ut upT_nil), (uo (uo (uo (uo (uo (uo (upOb_tl rfl (by repeat first | exact Tn.here | refine Tn.cons rfl ?_) rfl))))))), (upOut_cons rfl upT_nil (upOut_cons rfl (ut (ut (ut (ut (ut upT_nil))))) (upOut_cons rfl (ut (ut upT_nil)) (upOut_cons rfl (ut (ut upT_nil)) upOut_nil)))), (cl3 rfl (wi_cons rfl (wi_cons rfl (wi_cons rfl (wi_cons rfl (wi_cons rfl (wi_cons rfl (wi_tl rfl (by repeat first | exact Tn.here | refine Tn.cons rfl ?_) (fun _ => rfl) (sob rfl)))))))) rfl)⟩) ?_
            refine SafeOps.giveP (M := [14, 18]) (fun n : Int => I n) trace_seen.cells v213 ((gt a199 v204).Id) e216 (trace_seen.mk (api_Task.mk e216.Task.Id e216.Task.Tenant e216.Task.Prog e216.Task.Pc e216.Task.Unit e216.Task.Keeps 7 e216.Task.Ran) (gt a199 v204)) [14, 23, 16, 6, 17, 1] rfl rfl rfl rfl rfl (fun _ _ _ => rfl) (by repeat first | exact Tg.here | apply Tg.drop rfl rfl | apply Tg.cons rfl rfl) rfl rfl ?_
            refine SafeOps.nil ?_
            repeat first|apply sq|apply sk|with_reducible first|apply tn|apply bn
            refine Safe.region ?_
            refine Qf E_good ?_
            refine Qf E_good ?_
            refine SafeOps.nil ?_
            repeat first|apply sq|apply sk|with_reducible first|apply tn|apply bn
            refine Safe.ret ?_
            repeat (first | with_reducible refine thenQ.r ?_ | with_reducible refine blockQ.r ?_)
            refine inQ.gen (vs := [V.bool ((e216.Task.State != 7) && (((gt a199 v204).A) == 0))]) (v := V.bool ((e216.Task.State != 7) && (((gt a199 v204).A) == 0))) (.inr rfl) rfl (.tmp (v := V.bool ((e216.Task.State != 7) && (((gt a199 v204).A) == 0))) rfl .nil) rfl ?_
            exact SafeOps.got (HJ24668 (((e216.Task.State != 7) && (((gt a199 v204).A) == 0)), v212, mput v213 ((gt a199 v204).Id) (trace_seen.mk (api_Task.mk e216.Task.Id e216.Task.Tenant e216.Task.Prog e216.Task.Pc e216.Task.Unit e216.Task.Keeps 7 e216.Task.Ran) (gt a199 v204))) h) (.cov ⟨rfl, rfl, (ut upT_nil), (uo (uo (uo (upOb_tl rfl (by repeat first | exact Tn.here | refine Tn.cons rfl ?_) rfl)))), (upOut_cons rfl (ut (ut (ut (ut (ut upT_nil))))) (upOut_cons rfl (ut (ut upT_nil)) (upOut_cons rfl (ut (ut upT_nil)) upOut_nil))), (cl3 rfl (wi_cons rfl (wi_cons rfl (wi_cons rfl (wi_tl rfl (by repeat first | exact Tn.here | refine Tn.cons rfl ?_) (fun _ => rfl) nob)))) rfl)⟩)
           ·skip
            refine Safe.condN rfl hc24843 ?_
            repeat first|apply sq|apply sk|with_reducible first|apply tn|apply bn
            refine Safe.region ?_
            refine Qf E_good ?_
            refine Q0 E_good rfl (v := V.agg [I ((gt a199 v204).Kind), I ((gt a199 v204).Id), I ((gt a199 v204).A)]) (.load rfl rfl (.box rfl rfl) rfl) ?_
            refine Q0 E_good rfl (v := V.ptr [14, 23, 16, 6, 17, 1] 0 0) (.fn rfl) ?_
            refine Q0 E_good rfl (v := V.ptr [14, 23, 16, 6, 17, 1] 0 11) (.fn rfl) ?_
            refine SafeOps.store (z := Obj.box [I e216.Task.Id, I e216.Task.Tenant, I e216.Task.Prog, I e216.Task.Pc, I e216.Task.Unit, I e216.Task.Keeps.a0, I e216.Task.Keeps.a1, I e216.Task.Keeps.a2, I e216.Task.Keeps.a3, I e216.Task.State, I e216.Task.Ran, I ((gt a199 v204).Kind), I ((gt a199 v204).Id), I ((gt a199 v204).A)]) E_good rfl rfl rfl rfl rfl rfl rfl (.boxM (c := 14) rfl rfl (Nat.le_of_ble_eq_true rfl) rfl) ?_
            refine SafeOps.gets (τ := ⟨Tryd.f34.ntmps, [(9, V.bool ((e216.Task.State != 7) && (((gt a199 v204).A) == 0)))], ([14, 7], Obj.box [V.ptr [14, 20] 0 0]) :: ([14, 20], Obj.box [V.sl 1 (rws (fun l => [V.sl 3 (rws api_Instr.cells l)]) a211), V.mapr [14, 18], V.ref [7000, 114, 14, 20, 2] 0 (rws (fun n => [I n]) v212).length]) :: ([14, 23, 16, 2], Obj.box [I ((gt a199 v204).Kind), I ((gt a199 v204).Id), I ((gt a199 v204).A)]) :: ([14, 23, 16, 6, 3], Obj.box [I ((gt a199 v204).Kind), I ((gt a199 v204).Id), I ((gt a199 v204).A)]) :: ([14, 23, 16, 6, 17, 1], Obj.box [I e216.Task.Id, I e216.Task.Tenant, I e216.Task.Prog, I e216.Task.Pc, I e216.Task.Unit, I e216.Task.Keeps.a0, I e216.Task.Keeps.a1, I e216.Task.Keeps.a2, I e216.Task.Keeps.a3, I e216.Task.State, I e216.Task.Ran, I ((gt a199 v204).Kind), I ((gt a199 v204).Id), I ((gt a199 v204).A)]) :: ([7000, 114, 14, 20, 2], Obj.rows 1 (rws (fun n => [I n]) v212) false) :: (pmo [14, 18] (fun n : Int => I n) trace_seen.cells (some (mix ((gt a199 v204).Id) v213, [14, 23, 16, 6, 17, 1])) (mput v213 ((gt a199 v204).Id) e216)), [(Tryd.f33.ntmps, []), (Tryd.f32.ntmps, [(0, V.sl 3 (rws api_Event.cells a199)), (1, V.fn 33 [V.ptr [14, 7] 0 0]), (5, I v204), (7, I (a199.length : Int)), (8, I v204)]), (Tryd.f25.ntmps, [(1, V.sl 3 (rws api_Event.cells a199)), (7, V.ptr [14, 7] 0 0)]), (Tryd.f15.ntmps, [(1, V.sl 3 (rws api_Event.cells a199)), (4, V.nils)])], [14, 23, 16, 6]⟩) (.cov ⟨rfl, rfl, (ut upT_nil), (uo (uo (uo (uo (uo (uo (upOb_tl rfl (by repeat first | exact Tn.here | refine Tn.cons rfl ?_) rfl))))))), (upOut_cons rfl upT_nil (upOut_cons rfl (ut (ut (ut (ut (ut upT_nil))))) (upOut_cons rfl (ut (ut upT_nil)) (upOut_cons rfl (ut (ut upT_nil)) upOut_nil)))), (cl3 rfl (wi_cons rfl (wi_cons rfl (wi_cons rfl (wi_cons rfl (wi_cons rfl (wi_cons rfl (wi_tl rfl (by repeat first | exact Tn.here | refine Tn.cons rfl ?_) (fun _ => rfl) (sob rfl)))))))) rfl)⟩) ?_
            refine SafeOps.giveP (M := [14, 18]) (fun n : Int => I n) trace_seen.cells v213 ((gt a199 v204).Id) e216 (trace_seen.mk e216.Task (gt a199 v204)) [14, 23, 16, 6, 17, 1] rfl rfl rfl rfl rfl (fun _ _ _ => rfl) (by repeat first | exact Tg.here | apply Tg.drop rfl rfl | apply Tg.cons rfl rfl) rfl rfl ?_
            refine SafeOps.nil ?_
            repeat first|apply sq|apply sk|with_reducible first|apply tn|apply bn
            refine Safe.region ?_
            refine Qf E_good ?_
            refine Qf E_good ?_
            refine SafeOps.nil ?_
            repeat first|apply sq|apply sk|with_reducible first|apply tn|apply bn
            refine Safe.ret ?_
            repeat (first | with_reducible refine thenQ.r ?_ | with_reducible refine blockQ.r ?_)
            refine inQ.gen (vs := [V.bool ((e216.Task.State != 7) && (((gt a199 v204).A) == 0))]) (v := V.bool ((e216.Task.State != 7) && (((gt a199 v204).A) == 0))) (.inr rfl) rfl (.tmp (v := V.bool ((e216.Task.State != 7) && (((gt a199 v204).A) == 0))) rfl .nil) rfl ?_
            exact SafeOps.got (HJ24668 (((e216.Task.State != 7) && (((gt a199 v204).A) == 0)), v212, mput v213 ((gt a199 v204).Id) (trace_seen.mk e216.Task (gt a199 v204))) h) (.cov ⟨rfl, rfl, (ut upT_nil), (uo (uo (uo (upOb_tl rfl (by repeat first | exact Tn.here | refine Tn.cons rfl ?_) rfl)))), (upOut_cons rfl (ut (ut (ut (ut (ut upT_nil))))) (upOut_cons rfl (ut (ut upT_nil)) (upOut_cons rfl (ut (ut upT_nil)) upOut_nil))), (cl3 rfl (wi_cons rfl (wi_cons rfl (wi_cons rfl (wi_tl rfl (by repeat first | exact Tn.here | refine Tn.cons rfl ?_) (fun _ => rfl) nob)))) rfl)⟩)
          ·skip
           refine Safe.condN rfl hc24841 ?_
           repeat first|apply sq|apply sk|with_reducible first|apply tn|apply bn
           refine Safe.region ?_
           refine Qf E_good ?_
           refine Q0 E_good rfl (v := V.agg [I ((gt a199 v204).Kind), I ((gt a199 v204).Id), I ((gt a199 v204).A)]) (.load rfl rfl (.box rfl rfl) rfl) ?_
           refine Q0 E_good rfl (v := V.ptr [14, 23, 16, 6, 17, 1] 0 0) (.fn rfl) ?_
           refine Q0 E_good rfl (v := V.ptr [14, 23, 16, 6, 17, 1] 0 11) (.fn rfl) ?_
           refine SafeOps.store (z := Obj.box [I e216.Task.Id, I e216.Task.Tenant, I e216.Task.Prog, I e216.Task.Pc, I e216.Task.Unit, I e216.Task.Keeps.a0, I e216.Task.Keeps.a1, I e216.Task.Keeps.a2, I e216.Task.Keeps.a3, I e216.Task.State, I e216.Task.Ran, I ((gt a199 v204).Kind), I ((gt a199 v204).Id), I ((gt a199 v204).A)]) E_good rfl rfl rfl rfl rfl rfl rfl (.boxM (c := 14) rfl rfl (Nat.le_of_ble_eq_true rfl) rfl) ?_
           refine SafeOps.gets (τ := ⟨Tryd.f34.ntmps, [(9, V.bool false)], ([14, 7], Obj.box [V.ptr [14, 20] 0 0]) :: ([14, 20], Obj.box [V.sl 1 (rws (fun l => [V.sl 3 (rws api_Instr.cells l)]) a211), V.mapr [14, 18], V.ref [7000, 114, 14, 20, 2] 0 (rws (fun n => [I n]) v212).length]) :: ([14, 23, 16, 2], Obj.box [I ((gt a199 v204).Kind), I ((gt a199 v204).Id), I ((gt a199 v204).A)]) :: ([14, 23, 16, 6, 3], Obj.box [I ((gt a199 v204).Kind), I ((gt a199 v204).Id), I ((gt a199 v204).A)]) :: ([14, 23, 16, 6, 17, 1], Obj.box [I e216.Task.Id, I e216.Task.Tenant, I e216.Task.Prog, I e216.Task.Pc, I e216.Task.Unit, I e216.Task.Keeps.a0, I e216.Task.Keeps.a1, I e216.Task.Keeps.a2, I e216.Task.Keeps.a3, I e216.Task.State, I e216.Task.Ran, I ((gt a199 v204).Kind), I ((gt a199 v204).Id), I ((gt a199 v204).A)]) :: ([7000, 114, 14, 20, 2], Obj.rows 1 (rws (fun n => [I n]) v212) false) :: (pmo [14, 18] (fun n : Int => I n) trace_seen.cells (some (mix ((gt a199 v204).Id) v213, [14, 23, 16, 6, 17, 1])) (mput v213 ((gt a199 v204).Id) e216)), [(Tryd.f33.ntmps, []), (Tryd.f32.ntmps, [(0, V.sl 3 (rws api_Event.cells a199)), (1, V.fn 33 [V.ptr [14, 7] 0 0]), (5, I v204), (7, I (a199.length : Int)), (8, I v204)]), (Tryd.f25.ntmps, [(1, V.sl 3 (rws api_Event.cells a199)), (7, V.ptr [14, 7] 0 0)]), (Tryd.f15.ntmps, [(1, V.sl 3 (rws api_Event.cells a199)), (4, V.nils)])], [14, 23, 16, 6]⟩) (.cov ⟨rfl, rfl, (ut upT_nil), (uo (uo (uo (uo (uo (uo (upOb_tl rfl (by repeat first | exact Tn.here | refine Tn.cons rfl ?_) rfl))))))), (upOut_cons rfl upT_nil (upOut_cons rfl (ut (ut (ut (ut (ut upT_nil))))) (upOut_cons rfl (ut (ut upT_nil)) (upOut_cons rfl (ut (ut upT_nil)) upOut_nil)))), (cl3 rfl (wi_cons rfl (wi_cons rfl (wi_cons rfl (wi_cons rfl (wi_cons rfl (wi_cons rfl (wi_tl rfl (by repeat first | exact Tn.here | refine Tn.cons rfl ?_) (fun _ => rfl) (sob rfl)))))))) rfl)⟩) ?_
           refine SafeOps.giveP (M := [14, 18]) (fun n : Int => I n) trace_seen.cells v213 ((gt a199 v204).Id) e216 (trace_seen.mk e216.Task (gt a199 v204)) [14, 23, 16, 6, 17, 1] rfl rfl rfl rfl rfl (fun _ _ _ => rfl) (by repeat first | exact Tg.here | apply Tg.drop rfl rfl | apply Tg.cons rfl rfl) rfl rfl ?_
           refine SafeOps.nil ?_
           repeat first|apply sq|apply sk|with_reducible first|apply tn|apply bn
           refine Safe.region ?_
           refine Qf E_good ?_
           refine Qf E_good ?_
           refine SafeOps.nil ?_
           repeat first|apply sq|apply sk|with_reducible first|apply tn|apply bn
           refine Safe.ret ?_
           repeat (first | with_reducible refine thenQ.r ?_ | with_reducible refine blockQ.r ?_)
           refine inQ.gen (vs := [V.bool false]) (v := V.bool false) (.inr rfl) rfl (.tmp (v := V.bool false) rfl .nil) rfl ?_
           exact SafeOps.got (HJ24668 (false, v212, mput v213 ((gt a199 v204).Id) (trace_seen.mk e216.Task (gt a199 v204))) h) (.cov ⟨rfl, rfl, (ut upT_nil), (uo (uo (uo (upOb_tl rfl (by repeat first | exact Tn.here | refine Tn.cons rfl ?_) rfl)))), (upOut_cons rfl (ut (ut (ut (ut (ut upT_nil))))) (upOut_cons rfl (ut (ut upT_nil)) (upOut_cons rfl (ut (ut upT_nil)) upOut_nil))), (cl3 rfl (wi_cons rfl (wi_cons rfl (wi_cons rfl (wi_tl rfl (by repeat first | exact Tn.here | refine Tn.cons rfl ?_) (fun _ => rfl) nob)))) rfl)⟩)
   ·skip
    refine Safe.condN rfl hc24325 ?_
    repeat first|apply sq|apply sk|with_reducible first|apply tn|apply bn
    refine Safe.exit ?_
    repeat (first | with_reducible refine thenQ.e ?_ | with_reducible refine blockQ.x rfl ?_ | with_reducible refine blockQ.y rfl ?_)
    replace h := inr_out h hr24324
    repeat first|apply sq|apply sk|with_reducible first|apply tn|apply bn
    refine Safe.region ?_
    refine Qf E_good ?_
    refine SafeOps.nil ?_
    repeat first|apply sq|apply sk|with_reducible first|apply tn|apply bn
    refine Safe.ret ?_
    repeat (first | with_reducible refine thenQ.r ?_ | with_reducible refine blockQ.r ?_)
    refine inQ.gen (vs := [I (-1)]) (v := I (-1)) (.inr rfl) rfl (.tmp (v := I (-1)) rfl .nil) rfl ?_
    exact SafeOps.got (HJ23676 (-1, v212, v213) h) (.cov ⟨rfl, rfl, (ut (ut (ut upT_nil))), (uo (uo (uo (upOb_tl rfl (by repeat first | exact Tn.here | refine Tn.cons rfl ?_) rfl)))), (upOut_cons rfl (ut (ut upT_nil)) upOut_nil), (cl3 rfl (wi_cons rfl (wi_cons rfl (wi_cons rfl (wi_tl rfl (by repeat first | exact Tn.here | refine Tn.cons rfl ?_) (fun _ => rfl) nob)))) rfl)⟩)

noncomputable def go_ravelref18_Tasks_s1 (a227 : List (List api_Instr)) (a228 : List api_Event) : ((List api_Task) × Int) → Option (((List api_Task) × Int) ⊕ ((List api_Task) × Int))
 | (v229, v230) =>
  if (decide (v230 < (a228.length : Int))) = true then
   if 0 ≤ v230 ∧ v230 < (a228.length : Int) then
    if (((gt a228 v230).Kind) == 1) = true then
     (go_ravelref18_Of a228 ((gt a228 v230).Id)).bind fun x231 =>
     (go_ravelref18_One a227 x231).bind fun (x232, x233) =>
     if few (v229 ++ [x232]).length then
      nextO (v229 ++ [x232], IntKind.i64.wrap (v230 + 1))
     else none
    else
     nextO (v229, IntKind.i64.wrap (v230 + 1))
   else none
  else
   inrO (
    some (v229, 0))

noncomputable def go_ravelref18_Tasks (a227 : List (List api_Instr)) (a228 : List api_Event) : Option ((List api_Task) × Int) :=
 (go_ravelref18_Check a227 a228).bind fun (x234, x235) =>
 if (x235 != 0) = true then
  some ([], x235)
 else
  if (decide (x234 < (a228.length : Int))) = true then
   some ([], 2)
  else
   whileO (go_ravelref18_Tasks_s1 a227 a228) ([], 0)

theorem go_ravelref18_Tasks_sc (a227 : List (List api_Instr)) (a228 : List api_Event) (r : (List api_Task) × Int) (h : go_ravelref18_Tasks a227 a228 = some r) : SC Tryd.prog gl 16 [V.sl 1 (rws (fun l => [V.sl 3 (rws api_Instr.cells l)]) a227), V.sl 3 (rws api_Event.cells a228)] (V.tup [V.own 11 (rws api_Task.cells r.1), I r.2]) := by
 rw [go_ravelref18_Tasks] at h
 refine SC.of E_good Tryd.func16 rfl (fun _ _ => Tryd.call16 _ _) rfl ?_
 repeat first|apply sq|apply sk|with_reducible first|apply tn|apply bn
 refine Safe.region ?_
 refine Qf E_good ?_
 refine Qf E_good ?_
 refine SafeOps.nil ?_
 repeat first|apply sq|apply sk|with_reducible first|apply tn|apply bn
 refine Safe.region ?_
 refine Qf E_good ?_
 refine Qf E_good ?_
 refine bindG h ?_
 rintro ⟨x234, x235⟩ he24888 h
 refine Q0 E_good rfl (v := V.tup [I x234, I x235]) (.callP rfl rfl (go_ravelref18_Check_sc a227 a228 _ he24888) rfl) ?_
 refine Qf E_good ?_
 refine Qf E_good ?_
 refine Qf E_good ?_
 refine Qf E_good ?_
 refine Qf E_good ?_
 refine SafeOps.nil ?_
 repeat first|apply sq|apply sk|with_reducible first|apply tn|apply bn
 refine Safe.region ?_
 refine Qf E_good ?_
 refine Q0 E_good rfl (v := V.bool (x235 != 0)) (.fn rfl) ?_
 refine SafeOps.nil ?_
 repeat first|apply sq|apply sk|with_reducible first|apply tn|apply bn
 refine ifG h (fun hc24889 h => ?_) (fun hc24889 h => ?_)
 ·skip
  refine Safe.condK rfl hc24889 ?_
  repeat first|apply sq|apply sk|with_reducible first|apply tn|apply bn
  refine Safe.region ?_
  refine Qf E_good ?_
  refine Qf E_good ?_
  refine Qf E_good ?_
  refine SafeOps.nil ?_
  repeat first|apply sq|apply sk|with_reducible first|apply tn|apply bn
  refine Safe.ret ?_
  repeat (first | with_reducible refine thenQ.r ?_ | with_reducible refine blockQ.r ?_)
  obtain rfl := Option.some.inj h
  exact retQ.gen (vs := [V.nils, I x235]) rfl (.tmp rfl (.tmp rfl .nil)) (by exact (.tup (.cons (.nils _) (.cons (.free rfl) .nil)))) (by simp) (.inr rfl)
 ·skip
  refine Safe.condN rfl hc24889 ?_
  repeat first|apply sq|apply sk|with_reducible first|apply tn|apply bn
  refine Safe.region ?_
  refine Qf E_good ?_
  refine Qf E_good ?_
  refine Q0 E_good rfl (v := I (a228.length : Int)) (.fnE rfl lenE) ?_
  refine Q0 E_good rfl (v := V.bool (decide (x234 < (a228.length : Int)))) (.fn rfl) ?_
  refine SafeOps.nil ?_
  repeat first|apply sq|apply sk|with_reducible first|apply tn|apply bn
  refine ifG h (fun hc24890 h => ?_) (fun hc24890 h => ?_)
  ·skip
   refine Safe.condK rfl hc24890 ?_
   repeat first|apply sq|apply sk|with_reducible first|apply tn|apply bn
   refine Safe.region ?_
   refine Qf E_good ?_
   refine Qf E_good ?_
   refine SafeOps.nil ?_
   repeat first|apply sq|apply sk|with_reducible first|apply tn|apply bn
   refine Safe.ret ?_
   repeat (first | with_reducible refine thenQ.r ?_ | with_reducible refine blockQ.r ?_)
   obtain rfl := Option.some.inj h
   exact retQ.gen (vs := [V.nils, I 2]) rfl (.tmp rfl (.tmp rfl .nil)) (by exact (.tup (.cons (.nils _) (.cons (.free rfl) .nil)))) (by simp) (.inr rfl)
  ·skip
   refine Safe.condN rfl hc24890 ?_
   repeat first|apply sq|apply sk|with_reducible first|apply tn|apply bn
   refine Safe.region ?_
   refine Qf E_good ?_
   refine SafeOps.nil ?_
   repeat first|apply sq|apply sk|with_reducible first|apply tn|apply bn
   refine Safe.region ?_
   refine Qf E_good ?_
   refine Q0 E_good rfl (v := I (a228.length : Int)) (.fnE rfl lenE) ?_
   refine Qf E_good ?_
   refine SafeOps.nil ?_
   repeat first|apply sq|apply sk|with_reducible first|apply tn|apply bn
   refine Safe.block ?_
   repeat first|apply sq|apply sk|with_reducible first|apply tn|apply bn
   refine Safe.loopW (fun ((v229, v230) : (List api_Task) × Int) => ⟨Tryd.f16.ntmps, [(0, V.sl 1 (rws (fun l => [V.sl 3 (rws api_Instr.cells l)]) a227)), (1, V.sl 3 (rws api_Event.cells a228)), (8, V.ref [7000, 118, 8] 0 (rws api_Task.cells v229).length), (26, V.sl 3 (rws api_Event.cells a228)), (27, I (a228.length : Int)), (28, I v230)], [([7000, 118, 8], Obj.rows 11 (rws api_Task.cells v229) false)], [], []⟩) h (.empty [7000, 118, 8] 11 rfl (.cov ⟨rfl, rfl, (ut (ut (upT_cons (.nilref _) (ut (ut (ut upT_nil)))))), (uo upOb_nil), upOut_nil, rfl⟩)) ?_
   rintro ⟨v229, v230⟩ ohr24913 h hr24913
   replace h : go_ravelref18_Tasks_s1 a227 a228 (v229, v230) = some ohr24913 := h
   rw [go_ravelref18_Tasks_s1] at h
   repeat first|apply sq|apply sk|with_reducible first|apply tn|apply bn
   refine Safe.region ?_
   refine Q0 E_good rfl (v := V.bool (decide (v230 < (a228.length : Int)))) (.fn rfl) ?_
   refine SafeOps.nil ?_
   repeat first|apply sq|apply sk|with_reducible first|apply tn|apply bn
   refine ifG h (fun hc24914 h => ?_) (fun hc24914 h => ?_)
   ·skip
    refine Safe.condK rfl hc24914 ?_
    repeat first|apply sq|apply sk|with_reducible first|apply tn|apply bn
    refine Safe.block ?_
    repeat first|apply sq|apply sk|with_reducible first|apply tn|apply bn
    refine Safe.region ?_
    refine okG h (fun hb24915 h => ?_)
    refine Q0 E_good rfl (v := V.spt 3 (rws api_Event.cells a228) (Int.toNat v230) 0) (.idxSlM (f := api_Event.cells) rfl rfl rfl rfl rfl hb24915) ?_
    refine Q0 E_good rfl (v := V.agg [I ((gt a228 v230).Kind), I ((gt a228 v230).Id), I ((gt a228 v230).A)]) (.load rfl rfl (.sptM (f := api_Event.cells) hb24915 rfl) rfl) ?_
    refine SafeOps.quiet1 E_good rfl rfl rfl (.alloc rfl rfl) rfl ?_
    refine SafeOps.store (z := Obj.box [I ((gt a228 v230).Kind), I ((gt a228 v230).Id), I ((gt a228 v230).A)]) E_good rfl rfl rfl rfl rfl rfl rfl (.boxM (c := 3) rfl rfl (Nat.le_of_ble_eq_true rfl) rfl) ?_
    refine SafeOps.nil ?_
    repeat first|apply sq|apply sk|with_reducible first|apply tn|apply bn
    refine Safe.region ?_
    refine Q0 E_good rfl (v := V.ptr [10] 0 0) (.fn rfl) ?_
    refine Q0 E_good rfl (v := I ((gt a228 v230).Kind)) (.load rfl rfl (.box rfl rfl) rfl) ?_
    refine Q0 E_good rfl (v := V.bool (((gt a228 v230).Kind) == 1)) (.fn rfl) ?_
    refine SafeOps.nil ?_
    repeat first|apply sq|apply sk|with_reducible first|apply tn|apply bn
    refine ifG h (fun hc24916 h => ?_) (fun hc24916 h => ?_)
    ·skip
     refine Safe.condK rfl hc24916 ?_
     repeat first|apply sq|apply sk|with_reducible first|apply tn|apply bn
     refine Safe.region ?_
     refine Qf E_good ?_
     refine Qf E_good ?_
     refine Q0 E_good rfl (v := V.ptr [10] 0 1) (.fn rfl) ?_
     refine Q0 E_good rfl (v := I ((gt a228 v230).Id)) (.load rfl rfl (.box rfl rfl) rfl) ?_
     refine bindG h ?_
     intro x231 he24918 h
     refine SafeOps.quiet E_good rfl rfl rfl (v := V.ref [40, 0] 0 (rws api_Event.cells x231).length) (.callP rfl rfl (go_ravelref18_Of_sc a228 ((gt a228 v230).Id) _ he24918) rfl) rfl ?_
     refine bindG h ?_
     rintro ⟨x232, x233⟩ he24921 h
     refine Q0 E_good rfl (v := V.tup [V.agg [I x232.Id, I x232.Tenant, I x232.Prog, I x232.Pc, I x232.Unit, I x232.Keeps.a0, I x232.Keeps.a1, I x232.Keeps.a2, I x232.Keeps.a3, I x232.State, I x232.Ran], V.bool x233]) (.callS rfl (.cons (.free rfl) (.cons (.full rfl rfl) .nil)) (go_ravelref18_One_sc a227 x231 _ he24921) (.tupL (.cons (.aggL (.cons (.plain rfl) (.cons (.plain rfl) (.cons (.plain rfl) (.cons (.plain rfl) (.cons (.plain rfl) (.cons (.plain rfl) (.cons (.plain rfl) (.cons (.plain rfl) (.cons (.plain rfl) (.cons (.plain rfl) (.cons (.plain rfl) .nil)))))))))))) (.cons (.plain rfl) .nil))) rfl) ?_
     refine Qf E_good ?_
     refine Qf E_good ?_
     refine Qf E_good ?_
     refine SafeOps.quiet1 E_good rfl rfl rfl (.alloc rfl rfl) rfl ?_
     refine SafeOps.store (z := Obj.box [I x232.Id, I x232.Tenant, I x232.Prog, I x232.Pc, I x232.Unit, I x232.Keeps.a0, I x232.Keeps.a1, I x232.Keeps.a2, I x232.Keeps.a3, I x232.State, I x232.Ran]) E_good rfl rfl rfl rfl rfl rfl rfl (.boxM (c := 11) rfl rfl (Nat.le_of_ble_eq_true rfl) rfl) ?_
     refine Qf E_good ?_
     refine SafeOps.nil ?_
     repeat first|apply sq|apply sk|with_reducible first|apply tn|apply bn
     refine Safe.region ?_
     refine Qf E_good ?_
     refine Q0 E_good rfl (v := V.agg [I x232.Id, I x232.Tenant, I x232.Prog, I x232.Pc, I x232.Unit, I x232.Keeps.a0, I x232.Keeps.a1, I x232.Keeps.a2, I x232.Keeps.a3, I x232.State, I x232.Ran]) (.load rfl rfl (.box rfl rfl) rfl) ?_
     refine SafeOps.quiet1 E_good rfl rfl rfl (.litM (f := api_Task.cells) (xs := [x232]) rfl rfl (by decide) rfl rfl rfl rfl rfl) rfl ?_
     refine okG h (fun hb24922 h => ?_)
     refine SafeOps.appendM api_Task.cells (xs := v229) (ys := [x232]) E_good rfl rfl rfl rfl rfl rfl rfl rfl rfl (.own rfl) (.own rfl) (fun _ => rfl) hb24922 ?_
     refine Qf E_good ?_
     refine SafeOps.nil ?_
     repeat first|apply sq|apply sk|with_reducible first|apply tn|apply bn
     refine Safe.region ?_
     refine Q0 E_good rfl (v := I (IntKind.i64.wrap (v230 + 1))) (.fn rfl) ?_
     refine Qf E_good ?_
     refine SafeOps.nil ?_
     repeat first|apply sq|apply sk|with_reducible first|apply tn|apply bn
     exact ⟨_, next_out h, (.ren [47] [7000, 118, 8] (.cov ⟨rfl, rfl, (ut (ut (ut (ut (ut (ut upT_nil)))))), (uo upOb_nil), upOut_nil, rfl⟩))⟩
    ·skip
     refine Safe.condN rfl hc24916 ?_
     repeat first|apply sq|apply sk|with_reducible first|apply tn|apply bn
     refine Safe.region ?_
     refine Q0 E_good rfl (v := I (IntKind.i64.wrap (v230 + 1))) (.fn rfl) ?_
     refine Qf E_good ?_
     refine SafeOps.nil ?_
     repeat first|apply sq|apply sk|with_reducible first|apply tn|apply bn
     exact ⟨_, next_out h, (.cov ⟨rfl, rfl, (ut (ut (ut (ut (ut (ut upT_nil)))))), (uo upOb_nil), upOut_nil, rfl⟩)⟩
   ·skip
    refine Safe.condN rfl hc24914 ?_
    repeat first|apply sq|apply sk|with_reducible first|apply tn|apply bn
    refine Safe.exit ?_
    repeat (first | with_reducible refine thenQ.e ?_ | with_reducible refine blockQ.x rfl ?_ | with_reducible refine blockQ.y rfl ?_)
    replace h := inr_out h hr24913
    repeat first|apply sq|apply sk|with_reducible first|apply tn|apply bn
    refine Safe.region ?_
    refine Qf E_good ?_
    refine Qf E_good ?_
    refine Qf E_good ?_
    refine SafeOps.nil ?_
    repeat first|apply sq|apply sk|with_reducible first|apply tn|apply bn
    refine Safe.ret ?_
    repeat (first | with_reducible refine thenQ.r ?_ | with_reducible refine blockQ.r ?_)
    obtain rfl := Option.some.inj h
    exact retQ.gen (vs := [V.ref [7000, 118, 8] 0 (rws api_Task.cells v229).length, I 0]) rfl (.tmp rfl (.tmp rfl .nil)) (by exact (.tup (.cons (.own rfl rfl) (.cons (.free rfl) .nil)))) (by simp) (.inr rfl)

theorem okT45 : (eqOk Tryd.prog E 20 45 && !Tryd.prog.eqGuardType Tryd.prog.depth 45) = true := by kernel_rfl

noncomputable def go_ravelref18_SameTasks_s1 (a236 : List api_Task) (a237 : List api_Task) : (Int) → Option ((Int) ⊕ (Bool))
 | v238 =>
  if (decide (v238 < (a236.length : Int))) = true then
   if 0 ≤ v238 ∧ v238 < (a236.length : Int) then
    if 0 ≤ v238 ∧ v238 < (a237.length : Int) then
     if (!(api_Task.beq (gt a236 v238) (gt a237 v238))) = true then
      inrO (
       some false)
     else
      nextO (IntKind.i64.wrap (v238 + 1))
    else none
   else none
  else
   inrO (
    some true)

noncomputable def go_ravelref18_SameTasks (a236 : List api_Task) (a237 : List api_Task) : Option Bool :=
 if ((a236.length : Int) != (a237.length : Int)) = true then
  some false
 else
  whileO (go_ravelref18_SameTasks_s1 a236 a237) 0

theorem go_ravelref18_SameTasks_sc (a236 : List api_Task) (a237 : List api_Task) (r : Bool) (h : go_ravelref18_SameTasks a236 a237 = some r) : SC Tryd.prog gl 17 [V.sl 11 (rws api_Task.cells a236), V.sl 11 (rws api_Task.cells a237)] (V.bool r) := by
 rw [go_ravelref18_SameTasks] at h
 refine SC.of E_good Tryd.func17 rfl (fun _ _ => Tryd.call17 _ _) rfl ?_
 repeat first|apply sq|apply sk|with_reducible first|apply tn|apply bn
 refine Safe.region ?_
 refine Qf E_good ?_
 refine SafeOps.nil ?_
 repeat first|apply sq|apply sk|with_reducible first|apply tn|apply bn
 refine Safe.region ?_
 refine Qf E_good ?_
 refine Q0 E_good rfl (v := I (a236.length : Int)) (.fnE rfl lenE) ?_
 refine Qf E_good ?_
 refine Q0 E_good rfl (v := I (a237.length : Int)) (.fnE rfl lenE) ?_
 refine Q0 E_good rfl (v := V.bool ((a236.length : Int) != (a237.length : Int))) (.fn rfl) ?_
 refine SafeOps.nil ?_
 repeat first|apply sq|apply sk|with_reducible first|apply tn|apply bn
 refine ifG h (fun hc24949 h => ?_) (fun hc24949 h => ?_)
 ·skip
  refine Safe.condK rfl hc24949 ?_
  repeat first|apply sq|apply sk|with_reducible first|apply tn|apply bn
  refine Safe.region ?_
  refine Qf E_good ?_
  refine SafeOps.nil ?_
  repeat first|apply sq|apply sk|with_reducible first|apply tn|apply bn
  refine Safe.ret ?_
  repeat (first | with_reducible refine thenQ.r ?_ | with_reducible refine blockQ.r ?_)
  obtain rfl := Option.some.inj h
  exact retQ.gen (vs := [V.bool false]) rfl (.tmp rfl .nil) (.free rfl) (by simp) (.inr rfl)
 ·skip
  refine Safe.condN rfl hc24949 ?_
  repeat first|apply sq|apply sk|with_reducible first|apply tn|apply bn
  refine Safe.region ?_
  refine Qf E_good ?_
  refine Q0 E_good rfl (v := I (a236.length : Int)) (.fnE rfl lenE) ?_
  refine Qf E_good ?_
  refine SafeOps.nil ?_
  repeat first|apply sq|apply sk|with_reducible first|apply tn|apply bn
  refine Safe.block ?_
  repeat first|apply sq|apply sk|with_reducible first|apply tn|apply bn
  refine Safe.loopW (fun (v238 : Int) => ⟨Tryd.f17.ntmps, [(0, V.sl 11 (rws api_Task.cells a236)), (1, V.sl 11 (rws api_Task.cells a237)), (12, I (a236.length : Int)), (13, I v238)], [], [], []⟩) h (.cov ⟨rfl, rfl, (ut (ut (ut (ut upT_nil)))), upOb_nil, upOut_nil, rfl⟩) ?_
  intro v238 ohr24960 h hr24960
  replace h : go_ravelref18_SameTasks_s1 a236 a237 v238 = some ohr24960 := h
  rw [go_ravelref18_SameTasks_s1] at h
  repeat first|apply sq|apply sk|with_reducible first|apply tn|apply bn
  refine Safe.region ?_
  refine Q0 E_good rfl (v := V.bool (decide (v238 < (a236.length : Int)))) (.fn rfl) ?_
  refine SafeOps.nil ?_
  repeat first|apply sq|apply sk|with_reducible first|apply tn|apply bn
  refine ifG h (fun hc24961 h => ?_) (fun hc24961 h => ?_)
  ·skip
   refine Safe.condK rfl hc24961 ?_
   repeat first|apply sq|apply sk|with_reducible first|apply tn|apply bn
   refine Safe.block ?_
   repeat first|apply sq|apply sk|with_reducible first|apply tn|apply bn
   refine Safe.region ?_
   refine Qf E_good ?_
   refine Qf E_good ?_
   refine SafeOps.nil ?_
   repeat first|apply sq|apply sk|with_reducible first|apply tn|apply bn
   refine Safe.regionD (n := 9) [] [] E_good mixed rfl ?_
   refine DT 0 [] rfl rfl (fun _ hz => (.fn rfl)) ?_
   refine DT 1 [] rfl rfl (fun _ hz => (.fn rfl)) ?_
   refine okG h (fun hb24962 h => ?_)
   refine DT 2 [] rfl rfl (v := V.spt 11 (rws api_Task.cells a236) (Int.toNat v238) 0) (fun _ hz => (.idxSlM (f := api_Task.cells) rfl rfl rfl rfl rfl hb24962)) ?_
   refine DT 3 [] rfl rfl (v := V.agg [I ((gt a236 v238).Id), I ((gt a236 v238).Tenant), I ((gt a236 v238).Prog), I ((gt a236 v238).Pc), I ((gt a236 v238).Unit), I ((gt a236 v238).Keeps.a0), I ((gt a236 v238).Keeps.a1), I ((gt a236 v238).Keeps.a2), I ((gt a236 v238).Keeps.a3), I ((gt a236 v238).State), I ((gt a236 v238).Ran)]) (fun _ hz => (.load rfl rfl (.sptM (f := api_Task.cells) hb24962 rfl) rfl)) ?_
   refine DT 4 [] rfl rfl (fun _ hz => (.fn rfl)) ?_
   refine DT 5 [] rfl rfl (fun _ hz => (.fn rfl)) ?_
   refine okG h (fun hb24963 h => ?_)
   refine DT 6 [] rfl rfl (v := V.spt 11 (rws api_Task.cells a237) (Int.toNat v238) 0) (fun _ hz => (.idxSlM (f := api_Task.cells) rfl rfl rfl rfl rfl hb24963)) ?_
   refine DT 7 [] rfl rfl (v := V.agg [I ((gt a237 v238).Id), I ((gt a237 v238).Tenant), I ((gt a237 v238).Prog), I ((gt a237 v238).Pc), I ((gt a237 v238).Unit), I ((gt a237 v238).Keeps.a0), I ((gt a237 v238).Keeps.a1), I ((gt a237 v238).Keeps.a2), I ((gt a237 v238).Keeps.a3), I ((gt a237 v238).State), I ((gt a237 v238).Ran)]) (fun _ hz => (.load rfl rfl (.sptM (f := api_Task.cells) hb24963 rfl) rfl)) ?_
   refine DT 8 [] rfl rfl (v := V.bool (!(api_Task.beq (gt a236 v238) (gt a237 v238)))) (fun _ hz => (.neA rfl rfl rfl rfl okT45 rfl)) ?_
   refine DAny.nil (by kernel_rfl) ?_
   repeat first|apply sq|apply sk|with_reducible first|apply tn|apply bn
   refine ifG h (fun hc24964 h => ?_) (fun hc24964 h => ?_)
   ·skip
    refine Safe.condK rfl hc24964 ?_
    repeat first|apply sq|apply sk|with_reducible first|apply tn|apply bn
    refine Safe.region ?_
    refine Qf E_good ?_
    refine SafeOps.nil ?_
    repeat first|apply sq|apply sk|with_reducible first|apply tn|apply bn
    refine Safe.ret ?_
    repeat (first | with_reducible refine thenQ.r ?_ | with_reducible refine blockQ.r ?_)
    replace h := inr_out h hr24960
    obtain rfl := Option.some.inj h
    exact retQ.gen (vs := [V.bool false]) rfl (.tmp rfl .nil) (.free rfl) (by simp) (.inr rfl)
   ·skip
    refine Safe.condN rfl hc24964 ?_
    repeat first|apply sq|apply sk|with_reducible first|apply tn|apply bn
    refine Safe.region ?_
    refine Q0 E_good rfl (v := I (IntKind.i64.wrap (v238 + 1))) (.fn rfl) ?_
    refine Qf E_good ?_
    refine SafeOps.nil ?_
    repeat first|apply sq|apply sk|with_reducible first|apply tn|apply bn
    exact ⟨_, next_out h, (.cov ⟨rfl, rfl, (ut (ut (ut (ut upT_nil)))), upOb_nil, upOut_nil, rfl⟩)⟩
  ·skip
   refine Safe.condN rfl hc24961 ?_
   repeat first|apply sq|apply sk|with_reducible first|apply tn|apply bn
   refine Safe.exit ?_
   repeat (first | with_reducible refine thenQ.e ?_ | with_reducible refine blockQ.x rfl ?_ | with_reducible refine blockQ.y rfl ?_)
   replace h := inr_out h hr24960
   repeat first|apply sq|apply sk|with_reducible first|apply tn|apply bn
   refine Safe.region ?_
   refine Qf E_good ?_
   refine SafeOps.nil ?_
   repeat first|apply sq|apply sk|with_reducible first|apply tn|apply bn
   refine Safe.ret ?_
   repeat (first | with_reducible refine thenQ.r ?_ | with_reducible refine blockQ.r ?_)
   obtain rfl := Option.some.inj h
   exact retQ.gen (vs := [V.bool true]) rfl (.tmp rfl .nil) (.free rfl) (by simp) (.inr rfl)

theorem okT32 : (eqOk Tryd.prog E 20 32 && !Tryd.prog.eqGuardType Tryd.prog.depth 32) = true := by kernel_rfl

noncomputable def go_ravelref18_Same_s1 (a239 : List api_Event) (a240 : List api_Event) : (Int) → Option ((Int) ⊕ (Bool))
 | v241 =>
  if (decide (v241 < (a239.length : Int))) = true then
   if 0 ≤ v241 ∧ v241 < (a239.length : Int) then
    if 0 ≤ v241 ∧ v241 < (a240.length : Int) then
     if (!(api_Event.beq (gt a239 v241) (gt a240 v241))) = true then
      inrO (
       some false)
     else
      nextO (IntKind.i64.wrap (v241 + 1))
    else none
   else none
  else
   inrO (
    some true)

noncomputable def go_ravelref18_Same (a239 : List api_Event) (a240 : List api_Event) : Option Bool :=
 if ((a239.length : Int) != (a240.length : Int)) = true then
  some false
 else
  whileO (go_ravelref18_Same_s1 a239 a240) 0

theorem go_ravelref18_Same_sc (a239 : List api_Event) (a240 : List api_Event) (r : Bool) (h : go_ravelref18_Same a239 a240 = some r) : SC Tryd.prog gl 18 [V.sl 3 (rws api_Event.cells a239), V.sl 3 (rws api_Event.cells a240)] (V.bool r) := by
 rw [go_ravelref18_Same] at h
 refine SC.of E_good Tryd.func18 rfl (fun _ _ => Tryd.call18 _ _) rfl ?_
 repeat first|apply sq|apply sk|with_reducible first|apply tn|apply bn
 refine Safe.region ?_
 refine Qf E_good ?_
 refine SafeOps.nil ?_
 repeat first|apply sq|apply sk|with_reducible first|apply tn|apply bn
 refine Safe.region ?_
 refine Qf E_good ?_
 refine Q0 E_good rfl (v := I (a239.length : Int)) (.fnE rfl lenE) ?_
 refine Qf E_good ?_
 refine Q0 E_good rfl (v := I (a240.length : Int)) (.fnE rfl lenE) ?_
 refine Q0 E_good rfl (v := V.bool ((a239.length : Int) != (a240.length : Int))) (.fn rfl) ?_
 refine SafeOps.nil ?_
 repeat first|apply sq|apply sk|with_reducible first|apply tn|apply bn
 refine ifG h (fun hc24995 h => ?_) (fun hc24995 h => ?_)
 ·skip
  refine Safe.condK rfl hc24995 ?_
  repeat first|apply sq|apply sk|with_reducible first|apply tn|apply bn
  refine Safe.region ?_
  refine Qf E_good ?_
  refine SafeOps.nil ?_
  repeat first|apply sq|apply sk|with_reducible first|apply tn|apply bn
  refine Safe.ret ?_
  repeat (first | with_reducible refine thenQ.r ?_ | with_reducible refine blockQ.r ?_)
  obtain rfl := Option.some.inj h
  exact retQ.gen (vs := [V.bool false]) rfl (.tmp rfl .nil) (.free rfl) (by simp) (.inr rfl)
 ·skip
  refine Safe.condN rfl hc24995 ?_
  repeat first|apply sq|apply sk|with_reducible first|apply tn|apply bn
  refine Safe.region ?_
  refine Qf E_good ?_
  refine Q0 E_good rfl (v := I (a239.length : Int)) (.fnE rfl lenE) ?_
  refine Qf E_good ?_
  refine SafeOps.nil ?_
  repeat first|apply sq|apply sk|with_reducible first|apply tn|apply bn
  refine Safe.block ?_
  repeat first|apply sq|apply sk|with_reducible first|apply tn|apply bn
  refine Safe.loopW (fun (v241 : Int) => ⟨Tryd.f18.ntmps, [(0, V.sl 3 (rws api_Event.cells a239)), (1, V.sl 3 (rws api_Event.cells a240)), (12, I (a239.length : Int)), (13, I v241)], [], [], []⟩) h (.cov ⟨rfl, rfl, (ut (ut (ut (ut upT_nil)))), upOb_nil, upOut_nil, rfl⟩) ?_
  intro v241 ohr25006 h hr25006
  replace h : go_ravelref18_Same_s1 a239 a240 v241 = some ohr25006 := h
  rw [go_ravelref18_Same_s1] at h
  repeat first|apply sq|apply sk|with_reducible first|apply tn|apply bn
  refine Safe.region ?_
  refine Q0 E_good rfl (v := V.bool (decide (v241 < (a239.length : Int)))) (.fn rfl) ?_
  refine SafeOps.nil ?_
  repeat first|apply sq|apply sk|with_reducible first|apply tn|apply bn
  refine ifG h (fun hc25007 h => ?_) (fun hc25007 h => ?_)
  ·skip
   refine Safe.condK rfl hc25007 ?_
   repeat first|apply sq|apply sk|with_reducible first|apply tn|apply bn
   refine Safe.block ?_
   repeat first|apply sq|apply sk|with_reducible first|apply tn|apply bn
   refine Safe.region ?_
   refine Qf E_good ?_
   refine Qf E_good ?_
   refine SafeOps.nil ?_
   repeat first|apply sq|apply sk|with_reducible first|apply tn|apply bn
   refine Safe.regionD (n := 9) [] [] E_good mixed rfl ?_
   refine DT 0 [] rfl rfl (fun _ hz => (.fn rfl)) ?_
   refine DT 1 [] rfl rfl (fun _ hz => (.fn rfl)) ?_
   refine okG h (fun hb25008 h => ?_)
   refine DT 2 [] rfl rfl (v := V.spt 3 (rws api_Event.cells a239) (Int.toNat v241) 0) (fun _ hz => (.idxSlM (f := api_Event.cells) rfl rfl rfl rfl rfl hb25008)) ?_
   refine DT 3 [] rfl rfl (v := V.agg [I ((gt a239 v241).Kind), I ((gt a239 v241).Id), I ((gt a239 v241).A)]) (fun _ hz => (.load rfl rfl (.sptM (f := api_Event.cells) hb25008 rfl) rfl)) ?_
   refine DT 4 [] rfl rfl (fun _ hz => (.fn rfl)) ?_
   refine DT 5 [] rfl rfl (fun _ hz => (.fn rfl)) ?_
   refine okG h (fun hb25009 h => ?_)
   refine DT 6 [] rfl rfl (v := V.spt 3 (rws api_Event.cells a240) (Int.toNat v241) 0) (fun _ hz => (.idxSlM (f := api_Event.cells) rfl rfl rfl rfl rfl hb25009)) ?_
   refine DT 7 [] rfl rfl (v := V.agg [I ((gt a240 v241).Kind), I ((gt a240 v241).Id), I ((gt a240 v241).A)]) (fun _ hz => (.load rfl rfl (.sptM (f := api_Event.cells) hb25009 rfl) rfl)) ?_
   refine DT 8 [] rfl rfl (v := V.bool (!(api_Event.beq (gt a239 v241) (gt a240 v241)))) (fun _ hz => (.neA rfl rfl rfl rfl okT32 rfl)) ?_
   refine DAny.nil (by kernel_rfl) ?_
   repeat first|apply sq|apply sk|with_reducible first|apply tn|apply bn
   refine ifG h (fun hc25010 h => ?_) (fun hc25010 h => ?_)
   ·skip
    refine Safe.condK rfl hc25010 ?_
    repeat first|apply sq|apply sk|with_reducible first|apply tn|apply bn
    refine Safe.region ?_
    refine Qf E_good ?_
    refine SafeOps.nil ?_
    repeat first|apply sq|apply sk|with_reducible first|apply tn|apply bn
    refine Safe.ret ?_
    repeat (first | with_reducible refine thenQ.r ?_ | with_reducible refine blockQ.r ?_)
    replace h := inr_out h hr25006
    obtain rfl := Option.some.inj h
    exact retQ.gen (vs := [V.bool false]) rfl (.tmp rfl .nil) (.free rfl) (by simp) (.inr rfl)
   ·skip
    refine Safe.condN rfl hc25010 ?_
    repeat first|apply sq|apply sk|with_reducible first|apply tn|apply bn
    refine Safe.region ?_
    refine Q0 E_good rfl (v := I (IntKind.i64.wrap (v241 + 1))) (.fn rfl) ?_
    refine Qf E_good ?_
    refine SafeOps.nil ?_
    repeat first|apply sq|apply sk|with_reducible first|apply tn|apply bn
    exact ⟨_, next_out h, (.cov ⟨rfl, rfl, (ut (ut (ut (ut upT_nil)))), upOb_nil, upOut_nil, rfl⟩)⟩
  ·skip
   refine Safe.condN rfl hc25007 ?_
   repeat first|apply sq|apply sk|with_reducible first|apply tn|apply bn
   refine Safe.exit ?_
   repeat (first | with_reducible refine thenQ.e ?_ | with_reducible refine blockQ.x rfl ?_ | with_reducible refine blockQ.y rfl ?_)
   replace h := inr_out h hr25006
   repeat first|apply sq|apply sk|with_reducible first|apply tn|apply bn
   refine Safe.region ?_
   refine Qf E_good ?_
   refine SafeOps.nil ?_
   repeat first|apply sq|apply sk|with_reducible first|apply tn|apply bn
   refine Safe.ret ?_
   repeat (first | with_reducible refine thenQ.r ?_ | with_reducible refine blockQ.r ?_)
   obtain rfl := Option.some.inj h
   exact retQ.gen (vs := [V.bool true]) rfl (.tmp rfl .nil) (.free rfl) (by simp) (.inr rfl)

noncomputable def go_trace_Count_s1 (a242 : List api_Event) (a243 : Int) : (Int × Int) → Option ((Int × Int) ⊕ (Int))
 | (v244, v245) =>
  if (decide (v245 < (a242.length : Int))) = true then
   if 0 ≤ v245 ∧ v245 < (a242.length : Int) then
    if (((gt a242 v245).Kind) == a243) = true then
     nextO (IntKind.i64.wrap (v244 + 1), IntKind.i64.wrap (v245 + 1))
    else
     nextO (v244, IntKind.i64.wrap (v245 + 1))
   else none
  else
   inrO (
    some v244)

noncomputable def go_trace_Count (a242 : List api_Event) (a243 : Int) : Option Int :=
 whileO (go_trace_Count_s1 a242 a243) (0, 0)

theorem go_trace_Count_sc (a242 : List api_Event) (a243 : Int) (r : Int) (h : go_trace_Count a242 a243 = some r) : SC Tryd.prog gl 20 [V.sl 3 (rws api_Event.cells a242), I a243] (I r) := by
 rw [go_trace_Count] at h
 refine SC.of E_good Tryd.func20 rfl (fun _ _ => Tryd.call20 _ _) rfl ?_
 repeat first|apply sq|apply sk|with_reducible first|apply tn|apply bn
 refine Safe.region ?_
 refine Qf E_good ?_
 refine SafeOps.nil ?_
 repeat first|apply sq|apply sk|with_reducible first|apply tn|apply bn
 refine Safe.region ?_
 refine Qf E_good ?_
 refine Q0 E_good rfl (v := I (a242.length : Int)) (.fnE rfl lenE) ?_
 refine Qf E_good ?_
 refine SafeOps.nil ?_
 repeat first|apply sq|apply sk|with_reducible first|apply tn|apply bn
 refine Safe.block ?_
 repeat first|apply sq|apply sk|with_reducible first|apply tn|apply bn
 refine Safe.loopW (fun ((v244, v245) : Int × Int) => ⟨Tryd.f20.ntmps, [(1, I a243), (4, I v244), (7, V.sl 3 (rws api_Event.cells a242)), (8, I (a242.length : Int)), (9, I v245)], [], [], []⟩) h (.cov ⟨rfl, rfl, (ut (ut (ut (ut (ut upT_nil))))), upOb_nil, upOut_nil, rfl⟩) ?_
 rintro ⟨v244, v245⟩ ohr25043 h hr25043
 replace h : go_trace_Count_s1 a242 a243 (v244, v245) = some ohr25043 := h
 rw [go_trace_Count_s1] at h
 repeat first|apply sq|apply sk|with_reducible first|apply tn|apply bn
 refine Safe.region ?_
 refine Q0 E_good rfl (v := V.bool (decide (v245 < (a242.length : Int)))) (.fn rfl) ?_
 refine SafeOps.nil ?_
 repeat first|apply sq|apply sk|with_reducible first|apply tn|apply bn
 refine ifG h (fun hc25044 h => ?_) (fun hc25044 h => ?_)
 ·skip
  refine Safe.condK rfl hc25044 ?_
  repeat first|apply sq|apply sk|with_reducible first|apply tn|apply bn
  refine Safe.block ?_
  repeat first|apply sq|apply sk|with_reducible first|apply tn|apply bn
  refine Safe.region ?_
  refine okG h (fun hb25045 h => ?_)
  refine Q0 E_good rfl (v := V.spt 3 (rws api_Event.cells a242) (Int.toNat v245) 0) (.idxSlM (f := api_Event.cells) rfl rfl rfl rfl rfl hb25045) ?_
  refine Q0 E_good rfl (v := V.agg [I ((gt a242 v245).Kind), I ((gt a242 v245).Id), I ((gt a242 v245).A)]) (.load rfl rfl (.sptM (f := api_Event.cells) hb25045 rfl) rfl) ?_
  refine SafeOps.quiet1 E_good rfl rfl rfl (.alloc rfl rfl) rfl ?_
  refine SafeOps.store (z := Obj.box [I ((gt a242 v245).Kind), I ((gt a242 v245).Id), I ((gt a242 v245).A)]) E_good rfl rfl rfl rfl rfl rfl rfl (.boxM (c := 3) rfl rfl (Nat.le_of_ble_eq_true rfl) rfl) ?_
  refine SafeOps.nil ?_
  repeat first|apply sq|apply sk|with_reducible first|apply tn|apply bn
  refine Safe.region ?_
  refine Q0 E_good rfl (v := V.ptr [6] 0 0) (.fn rfl) ?_
  refine Q0 E_good rfl (v := I ((gt a242 v245).Kind)) (.load rfl rfl (.box rfl rfl) rfl) ?_
  refine Qf E_good ?_
  refine Q0 E_good rfl (v := V.bool (((gt a242 v245).Kind) == a243)) (.fn rfl) ?_
  refine SafeOps.nil ?_
  repeat first|apply sq|apply sk|with_reducible first|apply tn|apply bn
  refine ifG h (fun hc25046 h => ?_) (fun hc25046 h => ?_)
  ·skip
   refine Safe.condK rfl hc25046 ?_
   repeat first|apply sq|apply sk|with_reducible first|apply tn|apply bn
   refine Safe.region ?_
   refine Qf E_good ?_
   refine Q0 E_good rfl (v := I (IntKind.i64.wrap (v244 + 1))) (.fn rfl) ?_
   refine Qf E_good ?_
   refine SafeOps.nil ?_
   repeat first|apply sq|apply sk|with_reducible first|apply tn|apply bn
   refine Safe.region ?_
   refine Q0 E_good rfl (v := I (IntKind.i64.wrap (v245 + 1))) (.fn rfl) ?_
   refine Qf E_good ?_
   refine SafeOps.nil ?_
   repeat first|apply sq|apply sk|with_reducible first|apply tn|apply bn
   exact ⟨_, next_out h, (.cov ⟨rfl, rfl, (ut (ut (ut (ut (ut upT_nil))))), upOb_nil, upOut_nil, rfl⟩)⟩
  ·skip
   refine Safe.condN rfl hc25046 ?_
   repeat first|apply sq|apply sk|with_reducible first|apply tn|apply bn
   refine Safe.region ?_
   refine Q0 E_good rfl (v := I (IntKind.i64.wrap (v245 + 1))) (.fn rfl) ?_
   refine Qf E_good ?_
   refine SafeOps.nil ?_
   repeat first|apply sq|apply sk|with_reducible first|apply tn|apply bn
   exact ⟨_, next_out h, (.cov ⟨rfl, rfl, (ut (ut (ut (ut (ut upT_nil))))), upOb_nil, upOut_nil, rfl⟩)⟩
 ·skip
  refine Safe.condN rfl hc25044 ?_
  repeat first|apply sq|apply sk|with_reducible first|apply tn|apply bn
  refine Safe.exit ?_
  repeat (first | with_reducible refine thenQ.e ?_ | with_reducible refine blockQ.x rfl ?_ | with_reducible refine blockQ.y rfl ?_)
  replace h := inr_out h hr25043
  repeat first|apply sq|apply sk|with_reducible first|apply tn|apply bn
  refine Safe.region ?_
  refine Qf E_good ?_
  refine Qf E_good ?_
  refine SafeOps.nil ?_
  repeat first|apply sq|apply sk|with_reducible first|apply tn|apply bn
  refine Safe.ret ?_
  repeat (first | with_reducible refine thenQ.r ?_ | with_reducible refine blockQ.r ?_)
  obtain rfl := Option.some.inj h
  exact retQ.gen (vs := [I v244]) rfl (.tmp rfl .nil) (.free rfl) (by simp) (.inr rfl)

noncomputable def go_ravelref18_Count_s1 (a246 : List api_Event) (a247 : Int) : (Int × Int) → Option ((Int × Int) ⊕ (Int))
 | (v248, v249) =>
  if (decide (v249 < (a246.length : Int))) = true then
   if 0 ≤ v249 ∧ v249 < (a246.length : Int) then
    if (((gt a246 v249).Kind) == a247) = true then
     nextO (IntKind.i64.wrap (v248 + 1), IntKind.i64.wrap (v249 + 1))
    else
     nextO (v248, IntKind.i64.wrap (v249 + 1))
   else none
  else
   inrO (
    some v248)

noncomputable def go_ravelref18_Count (a246 : List api_Event) (a247 : Int) : Option Int :=
 whileO (go_ravelref18_Count_s1 a246 a247) (0, 0)

theorem go_ravelref18_Count_sc (a246 : List api_Event) (a247 : Int) (r : Int) (h : go_ravelref18_Count a246 a247 = some r) : SC Tryd.prog gl 21 [V.sl 3 (rws api_Event.cells a246), I a247] (I r) := by
 rw [go_ravelref18_Count] at h
 refine SC.of E_good Tryd.func21 rfl (fun _ _ => Tryd.call21 _ _) rfl ?_
 repeat first|apply sq|apply sk|with_reducible first|apply tn|apply bn
 refine Safe.region ?_
 refine Qf E_good ?_
 refine SafeOps.nil ?_
 repeat first|apply sq|apply sk|with_reducible first|apply tn|apply bn
 refine Safe.region ?_
 refine Qf E_good ?_
 refine SafeOps.nil ?_
 repeat first|apply sq|apply sk|with_reducible first|apply tn|apply bn
 refine Safe.region ?_
 refine Qf E_good ?_
 refine Q0 E_good rfl (v := I (a246.length : Int)) (.fnE rfl lenE) ?_
 refine Qf E_good ?_
 refine SafeOps.nil ?_
 repeat first|apply sq|apply sk|with_reducible first|apply tn|apply bn
 refine Safe.block ?_
 repeat first|apply sq|apply sk|with_reducible first|apply tn|apply bn
 refine Safe.loopW (fun ((v248, v249) : Int × Int) => ⟨Tryd.f21.ntmps, [(1, I a247), (5, I v248), (8, V.sl 3 (rws api_Event.cells a246)), (9, I (a246.length : Int)), (10, I v249)], [], [], []⟩) h (.cov ⟨rfl, rfl, (ut (ut (ut (ut (ut upT_nil))))), upOb_nil, upOut_nil, rfl⟩) ?_
 rintro ⟨v248, v249⟩ ohr25076 h hr25076
 replace h : go_ravelref18_Count_s1 a246 a247 (v248, v249) = some ohr25076 := h
 rw [go_ravelref18_Count_s1] at h
 repeat first|apply sq|apply sk|with_reducible first|apply tn|apply bn
 refine Safe.region ?_
 refine Q0 E_good rfl (v := V.bool (decide (v249 < (a246.length : Int)))) (.fn rfl) ?_
 refine SafeOps.nil ?_
 repeat first|apply sq|apply sk|with_reducible first|apply tn|apply bn
 refine ifG h (fun hc25077 h => ?_) (fun hc25077 h => ?_)
 ·skip
  refine Safe.condK rfl hc25077 ?_
  repeat first|apply sq|apply sk|with_reducible first|apply tn|apply bn
  refine Safe.block ?_
  repeat first|apply sq|apply sk|with_reducible first|apply tn|apply bn
  refine Safe.region ?_
  refine okG h (fun hb25078 h => ?_)
  refine Q0 E_good rfl (v := V.spt 3 (rws api_Event.cells a246) (Int.toNat v249) 0) (.idxSlM (f := api_Event.cells) rfl rfl rfl rfl rfl hb25078) ?_
  refine Q0 E_good rfl (v := V.agg [I ((gt a246 v249).Kind), I ((gt a246 v249).Id), I ((gt a246 v249).A)]) (.load rfl rfl (.sptM (f := api_Event.cells) hb25078 rfl) rfl) ?_
  refine SafeOps.quiet1 E_good rfl rfl rfl (.alloc rfl rfl) rfl ?_
  refine SafeOps.store (z := Obj.box [I ((gt a246 v249).Kind), I ((gt a246 v249).Id), I ((gt a246 v249).A)]) E_good rfl rfl rfl rfl rfl rfl rfl (.boxM (c := 3) rfl rfl (Nat.le_of_ble_eq_true rfl) rfl) ?_
  refine SafeOps.nil ?_
  repeat first|apply sq|apply sk|with_reducible first|apply tn|apply bn
  refine Safe.region ?_
  refine Q0 E_good rfl (v := V.ptr [7] 0 0) (.fn rfl) ?_
  refine Q0 E_good rfl (v := I ((gt a246 v249).Kind)) (.load rfl rfl (.box rfl rfl) rfl) ?_
  refine Qf E_good ?_
  refine Q0 E_good rfl (v := V.bool (((gt a246 v249).Kind) == a247)) (.fn rfl) ?_
  refine SafeOps.nil ?_
  repeat first|apply sq|apply sk|with_reducible first|apply tn|apply bn
  refine ifG h (fun hc25079 h => ?_) (fun hc25079 h => ?_)
  ·skip
   refine Safe.condK rfl hc25079 ?_
   repeat first|apply sq|apply sk|with_reducible first|apply tn|apply bn
   refine Safe.region ?_
   refine Qf E_good ?_
   refine Q0 E_good rfl (v := I (IntKind.i64.wrap (v248 + 1))) (.fn rfl) ?_
   refine Qf E_good ?_
   refine SafeOps.nil ?_
   repeat first|apply sq|apply sk|with_reducible first|apply tn|apply bn
   refine Safe.region ?_
   refine Q0 E_good rfl (v := I (IntKind.i64.wrap (v249 + 1))) (.fn rfl) ?_
   refine Qf E_good ?_
   refine SafeOps.nil ?_
   repeat first|apply sq|apply sk|with_reducible first|apply tn|apply bn
   exact ⟨_, next_out h, (.cov ⟨rfl, rfl, (ut (ut (ut (ut (ut upT_nil))))), upOb_nil, upOut_nil, rfl⟩)⟩
  ·skip
   refine Safe.condN rfl hc25079 ?_
   repeat first|apply sq|apply sk|with_reducible first|apply tn|apply bn
   refine Safe.region ?_
   refine Q0 E_good rfl (v := I (IntKind.i64.wrap (v249 + 1))) (.fn rfl) ?_
   refine Qf E_good ?_
   refine SafeOps.nil ?_
   repeat first|apply sq|apply sk|with_reducible first|apply tn|apply bn
   exact ⟨_, next_out h, (.cov ⟨rfl, rfl, (ut (ut (ut (ut (ut upT_nil))))), upOb_nil, upOut_nil, rfl⟩)⟩
 ·skip
  refine Safe.condN rfl hc25077 ?_
  repeat first|apply sq|apply sk|with_reducible first|apply tn|apply bn
  refine Safe.exit ?_
  repeat (first | with_reducible refine thenQ.e ?_ | with_reducible refine blockQ.x rfl ?_ | with_reducible refine blockQ.y rfl ?_)
  replace h := inr_out h hr25076
  repeat first|apply sq|apply sk|with_reducible first|apply tn|apply bn
  refine Safe.region ?_
  refine Qf E_good ?_
  refine Qf E_good ?_
  refine SafeOps.nil ?_
  repeat first|apply sq|apply sk|with_reducible first|apply tn|apply bn
  refine Safe.ret ?_
  repeat (first | with_reducible refine thenQ.r ?_ | with_reducible refine blockQ.r ?_)
  obtain rfl := Option.some.inj h
  exact retQ.gen (vs := [I v248]) rfl (.tmp rfl .nil) (.free rfl) (by simp) (.inr rfl)
end Go.Proofs.YtpkegoikocfchaaDoor
