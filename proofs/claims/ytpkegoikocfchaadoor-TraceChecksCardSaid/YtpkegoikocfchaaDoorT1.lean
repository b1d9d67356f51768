/- Helper lemmas for the claim's theorem: an abstract machine over the model, proved sound; no condition beyond each lemma's own. -/
import Derived.Test.YtpkegoikocfchaaDoorT0
set_option linter.unusedVariables false
set_option linter.unusedSimpArgs false
set_option linter.unnecessarySimpa false
set_option linter.unusedSectionVars false
namespace Go.Proofs.YtpkegoikocfchaaDoor
open Go Go.AM
set_option maxRecDepth 100000
set_option maxHeartbeats 1000000
set_option linter.unusedVariables false
set_option linter.unusedSimpArgs false
noncomputable def go_trace_Check_j42 (v54 : Int) (v55 : List (Int × trace_seen)) : Option (Int × Int) :=
 some (v54, 0)

noncomputable def go_trace_Check_j41 (a56 : List api_Event) (v57 : Int) (v58 : List Int) (v59 : List (Int × trace_seen)) : Option (Int × Int) :=
 if (decide (v57 < 0)) = true then
  go_trace_Check_j42 (a56.length : Int) v59
 else
  go_trace_Check_j42 v57 v59

noncomputable def go_trace_Check_j61 (a56 : List api_Event) (v60 : Int) (v61 : Bool) (v62 : List Int) (v63 : List (Int × trace_seen)) : Option ((Int × (List Int) × (List (Int × trace_seen))) ⊕ (Int × Int)) :=
 if (!v61) = true then
  inrO (
   go_trace_Check_j41 a56 v60 v62 v63)
 else
  nextO (IntKind.i64.wrap (v60 + 1), v62, v63)

noncomputable def go_trace_Check_j62 (a56 : List api_Event) (v60 : Int) (v64 : Bool) (v65 : List Int) (v66 : List (Int × trace_seen)) : Option ((Int × (List Int) × (List (Int × trace_seen))) ⊕ (Int × Int)) :=
 go_trace_Check_j61 a56 v60 v64 v65 v66

noncomputable def go_trace_Check_s57 (a67 : List (List api_Instr)) (a56 : List api_Event) : (Int × (List Int) × (List (Int × trace_seen))) → Option ((Int × (List Int) × (List (Int × trace_seen))) ⊕ (Int × Int))
 | (v60, v68, v69) =>
  if (decide (v60 < (a56.length : Int))) = true then
   if 0 ≤ v60 ∧ v60 < (a56.length : Int) then
    mcase (mget v69 ((gt a56 v60).Id))
     (
      (go_life_New ((gt a56 v60).Id) 0 ((gt a56 v60).A)).bind fun (x70, x71) =>
      if (x71 != 0) = true then
       go_trace_Check_j62 a56 v60 false v68 v69
      else
       if (((gt a56 v60).Kind) != 1) = true then
        go_trace_Check_j62 a56 v60 false v68 v69
       else
        if (decide (((gt a56 v60).A) ≥ (a67.length : Int))) = true then
         go_trace_Check_j62 a56 v60 false v68 v69
        else
         if few (v68 ++ [(gt a56 v60).Id]).length then
          go_trace_Check_j62 a56 v60 true (v68 ++ [(gt a56 v60).Id]) (mput v69 ((gt a56 v60).Id) (trace_seen.mk x70 (gt a56 v60)))
         else none)
     (fun e72 =>
      if (((gt a56 v60).Kind) == 2) = true then
       if 0 ≤ e72.Task.Prog ∧ e72.Task.Prog < (a67.length : Int) then
        (go_step_Next e72.Task (gt a67 e72.Task.Prog)).bind fun (x73, x74) =>
        if ((((x74 != 0) || (e72.Task.State != 1)) || (x73.Op != ((gt a56 v60).A))) || ((e72.last.Kind == 2) && (e72.last.A == 9))) = true then
         go_trace_Check_j61 a56 v60 false v68 (mput v69 ((gt a56 v60).Id) (trace_seen.mk e72.Task (gt a56 v60)))
        else
         (go_life_Move e72.Task 2).bind fun (x75, x76) =>
         if (x76 != 0) = true then
          go_trace_Check_j61 a56 v60 false v68 (mput v69 ((gt a56 v60).Id) (trace_seen.mk e72.Task (gt a56 v60)))
         else
          (go_step_Do x75 (gt a67 e72.Task.Prog)).bind fun (x77, x78, x79) =>
          if (x79 != 0) = true then
           go_trace_Check_j61 a56 v60 false v68 (mput v69 ((gt a56 v60).Id) (trace_seen.mk e72.Task (gt a56 v60)))
          else
           (go_life_Move x77 1).bind fun (x80, x81) =>
           go_trace_Check_j61 a56 v60 (x81 == 0) v68 (mput v69 ((gt a56 v60).Id) (trace_seen.mk x80 (gt a56 v60)))
       else none
      else
       if (((gt a56 v60).Kind) == 3) = true then
        if (e72.Task.State == 1) = true then
         if (e72.last.Kind == 2) = true then
          if (((gt a56 v60).A) != 0) = true then
           if (((gt a56 v60).A) == (go_trace_Held e72.last.A)) = true then
            go_trace_Check_j61 a56 v60 (((gt a56 v60).A) == (go_trace_Held e72.last.A)) v68 (mput v69 ((gt a56 v60).Id) (trace_seen.mk (api_Task.mk e72.Task.Id e72.Task.Tenant e72.Task.Prog e72.Task.Pc e72.Task.Unit e72.Task.Keeps ((gt a56 v60).A) e72.Task.Ran) (gt a56 v60)))
           else
            go_trace_Check_j61 a56 v60 (((gt a56 v60).A) == (go_trace_Held e72.last.A)) v68 (mput v69 ((gt a56 v60).Id) (trace_seen.mk e72.Task (gt a56 v60)))
          else
           go_trace_Check_j61 a56 v60 false v68 (mput v69 ((gt a56 v60).Id) (trace_seen.mk e72.Task (gt a56 v60)))
         else
          go_trace_Check_j61 a56 v60 false v68 (mput v69 ((gt a56 v60).Id) (trace_seen.mk e72.Task (gt a56 v60)))
        else
         go_trace_Check_j61 a56 v60 false v68 (mput v69 ((gt a56 v60).Id) (trace_seen.mk e72.Task (gt a56 v60)))
       else
        if (((gt a56 v60).Kind) == 4) = true then
         if ((go_life_Waits e72.Task.State) && (((gt a56 v60).A) == 0)) = true then
          go_trace_Check_j61 a56 v60 ((go_life_Waits e72.Task.State) && (((gt a56 v60).A) == 0)) v68 (mput v69 ((gt a56 v60).Id) (trace_seen.mk (api_Task.mk e72.Task.Id e72.Task.Tenant e72.Task.Prog e72.Task.Pc e72.Task.Unit e72.Task.Keeps 1 e72.Task.Ran) (gt a56 v60)))
         else
          go_trace_Check_j61 a56 v60 ((go_life_Waits e72.Task.State) && (((gt a56 v60).A) == 0)) v68 (mput v69 ((gt a56 v60).Id) (trace_seen.mk e72.Task (gt a56 v60)))
        else
         if (((gt a56 v60).Kind) == 5) = true then
          if ((((e72.Task.State == 1) && (e72.last.Kind == 2)) && (e72.last.A == 9)) && (((gt a56 v60).A) == 0)) = true then
           go_trace_Check_j61 a56 v60 ((((e72.Task.State == 1) && (e72.last.Kind == 2)) && (e72.last.A == 9)) && (((gt a56 v60).A) == 0)) v68 (mput v69 ((gt a56 v60).Id) (trace_seen.mk (api_Task.mk e72.Task.Id e72.Task.Tenant e72.Task.Prog e72.Task.Pc e72.Task.Unit e72.Task.Keeps 7 e72.Task.Ran) (gt a56 v60)))
          else
           go_trace_Check_j61 a56 v60 ((((e72.Task.State == 1) && (e72.last.Kind == 2)) && (e72.last.A == 9)) && (((gt a56 v60).A) == 0)) v68 (mput v69 ((gt a56 v60).Id) (trace_seen.mk e72.Task (gt a56 v60)))
         else
          if (((gt a56 v60).Kind) == 6) = true then
           if ((e72.Task.State != 7) && (((gt a56 v60).A) == 0)) = true then
            go_trace_Check_j61 a56 v60 ((e72.Task.State != 7) && (((gt a56 v60).A) == 0)) v68 (mput v69 ((gt a56 v60).Id) (trace_seen.mk (api_Task.mk e72.Task.Id e72.Task.Tenant e72.Task.Prog e72.Task.Pc e72.Task.Unit e72.Task.Keeps 7 e72.Task.Ran) (gt a56 v60)))
           else
            go_trace_Check_j61 a56 v60 ((e72.Task.State != 7) && (((gt a56 v60).A) == 0)) v68 (mput v69 ((gt a56 v60).Id) (trace_seen.mk e72.Task (gt a56 v60)))
          else
           go_trace_Check_j61 a56 v60 false v68 (mput v69 ((gt a56 v60).Id) (trace_seen.mk e72.Task (gt a56 v60))))
   else none
  else
   inrO (
    go_trace_Check_j41 a56 (-1) v68 v69)

noncomputable def go_trace_Check (a67 : List (List api_Instr)) (a56 : List api_Event) : Option (Int × Int) :=
 (go_code_CheckAll a67).bind fun x82 =>
 if ((x82 != 0) || (decide ((a56.length : Int) > 65536))) = true then
  some (0, 1)
 else
  whileO (go_trace_Check_s57 a67 a56) (0, [], [])

theorem go_trace_Check_sc (a67 : List (List api_Instr)) (a56 : List api_Event) (r : Int × Int) (h : go_trace_Check a67 a56 = some r) : SC Tryd.prog gl 11 [V.sl 1 (rws (fun l => [V.sl 3 (rws api_Instr.cells l)]) a67), V.sl 3 (rws api_Event.cells a56)] (V.tup [I r.1, I r.2]) := by
 rw [go_trace_Check] at h
 refine SC.of E_good Tryd.func11 rfl (fun _ _ => Tryd.call11 _ _) rfl ?_
 repeat first|apply sq|apply sk|with_reducible first|apply tn|apply bn
 refine Safe.region ?_
 refine Qf E_good ?_
 refine Qf E_good ?_
 refine SafeOps.nil ?_
 repeat first|apply sq|apply sk|with_reducible first|apply tn|apply bn
 refine Safe.region ?_
 refine Qf E_good ?_
 refine Qf E_good ?_
 refine SafeOps.inline E_good rfl rfl rfl rfl rfl Tryd.func25 rfl (fun _ _ => Tryd.call25 _ _) rfl ?_
 repeat first|apply sq|apply sk|with_reducible first|apply tn|apply bn
 refine Safe.region ?_
 refine Qf E_good ?_
 refine Qf E_good ?_
 refine Qf E_good ?_
 refine SafeOps.nil ?_
 repeat first|apply sq|apply sk|with_reducible first|apply tn|apply bn
 refine Safe.region ?_
 refine Qf E_good ?_
 refine bindG h ?_
 intro x82 he4140 h
 refine Q0 E_good rfl (v := I x82) (.callP rfl rfl (go_code_CheckAll_sc a67 _ he4140) rfl) ?_
 refine Q0 E_good rfl (v := V.bool (x82 != 0)) (.fn rfl) ?_
 refine Qf E_good ?_
 refine SafeOps.bjoin 4 16 (b := ((x82 != 0) || (decide ((a56.length : Int) > 65536)))) (b1 := true) (b0 := decide ((a56.length : Int) > 65536)) (fun hc4141 K => ?_) (fun hc4141 K => ?_) bj_or ?_
 ·skip
  refine sF hc4141 ?_
  refine sF hc4141 ?_
  refine sF hc4141 ?_
  refine Q0 E_good rfl (v := V.bool true) (.pickK rfl hc4141 rfl) ?_
  exact SafeOps.drop' 4 rfl rfl rfl K
 ·skip
  refine qF E_good hc4141 (.fn rfl) ?_
  refine qF E_good hc4141 (v := I (a56.length : Int)) (.fnE rfl lenE) ?_
  refine qF E_good hc4141 (v := V.bool (decide ((a56.length : Int) > 65536))) (.fn rfl) ?_
  refine Q0 E_good rfl (v := V.bool (decide ((a56.length : Int) > 65536))) (.pickK rfl hc4141 rfl) ?_
  exact SafeOps.drop' 4 rfl rfl rfl K
 refine SafeOps.nil ?_
 repeat first|apply sq|apply sk|with_reducible first|apply tn|apply bn
 refine ifG h (fun hc4142 h => ?_) (fun hc4142 h => ?_)
 ·skip
  refine Safe.condK rfl hc4142 ?_
  repeat first|apply sq|apply sk|with_reducible first|apply tn|apply bn
  refine Safe.region ?_
  refine Qf E_good ?_
  refine Qf E_good ?_
  refine Qf E_good ?_
  refine SafeOps.nil ?_
  repeat first|apply sq|apply sk|with_reducible first|apply tn|apply bn
  refine Safe.ret ?_
  repeat (first | with_reducible refine thenQ.r ?_ | with_reducible refine blockQ.r ?_)
  refine inQ.gen (vs := [V.nilp, I 0, I 1]) (v := V.tup [V.nilp, I 0, I 1]) (.inr rfl) rfl (.tmp (v := V.nilp) rfl (.tmp (v := I 0) rfl (.tmp (v := I 1) rfl .nil))) rfl ?_
  refine Qf E_good ?_
  refine Qf E_good ?_
  refine Qf E_good ?_
  refine Qf E_good ?_
  refine Qf E_good ?_
  refine Qf E_good ?_
  refine Qf E_good ?_
  refine SafeOps.nil ?_
  repeat first|apply sq|apply sk|with_reducible first|apply tn|apply bn
  refine Safe.region ?_
  refine Qf E_good ?_
  refine Qf E_good ?_
  refine Qf E_good ?_
  refine Qf E_good ?_
  refine SafeOps.nil ?_
  repeat first|apply sq|apply sk|with_reducible first|apply tn|apply bn
  refine Safe.ret ?_
  repeat (first | with_reducible refine thenQ.r ?_ | with_reducible refine blockQ.r ?_)
  obtain rfl := Option.some.inj h
  exact retQ.gen (vs := [I 0, I 1]) rfl (.tmp rfl (.tmp rfl .nil)) (.free rfl) (by simp) (.inr rfl)
 ·skip
  refine Safe.condN rfl hc4142 ?_
  repeat first|apply sq|apply sk|with_reducible first|apply tn|apply bn
  refine Safe.region ?_
  refine Qf E_good ?_
  refine SafeOps.quiet1 E_good rfl rfl rfl .mkMap rfl ?_
  refine Q0 E_good rfl (v := V.agg [V.sl 1 (rws (fun l => [V.sl 3 (rws api_Instr.cells l)]) a67), V.mapr [12, 18], V.nils]) (.fn rfl) ?_
  refine SafeOps.quiet1 E_good rfl rfl rfl (.box rfl rfl) rfl ?_
  refine SafeOps.quiet1 E_good rfl rfl rfl (.alloc rfl rfl) rfl ?_
  refine SafeOps.store (z := Obj.box [V.ptr [12, 20] 0 0]) E_good rfl rfl rfl rfl rfl rfl rfl (.boxM (c := 1) rfl rfl (Nat.le_of_ble_eq_true rfl) rfl) ?_
  refine SafeOps.nil ?_
  repeat first|apply sq|apply sk|with_reducible first|apply tn|apply bn
  refine Safe.toPm [12, 18] rfl ?_
  refine Safe.gets (τ := ⟨Tryd.f25.ntmps, [(1, V.sl 3 (rws api_Event.cells a56)), (7, V.ptr [12, 7] 0 0)], ([12, 7], Obj.box [V.ptr [12, 20] 0 0]) :: ([12, 20], Obj.box [V.sl 1 (rws (fun l => [V.sl 3 (rws api_Instr.cells l)]) a67), V.mapr [12, 18], V.nils]) :: (pmo [12, 18] (fun n : Int => I n) trace_seen.cells none []), [(Tryd.f11.ntmps, [])], [12]⟩) (.cov ⟨rfl, rfl, (ut (ut upT_nil)), (uo (uo (uo upOb_nil))), (upOut_cons rfl upT_nil upOut_nil), (cl3 rfl (wi_cons rfl (wi_cons rfl (wi_tl rfl (by repeat first | exact Tn.here | refine Tn.cons rfl ?_) (fun _ => rfl) nob))) rfl)⟩) ?_
  repeat first|apply sq|apply sk|with_reducible first|apply tn|apply bn
  refine Safe.region ?_
  refine Qf E_good ?_
  refine Q0 E_good rfl (v := V.fn 33 [V.ptr [12, 7] 0 0]) (.fn rfl) ?_
  refine SafeOps.joinT 1 (fun ((v57, v58, v59) : Int × (List Int) × (List (Int × trace_seen))) => go_trace_Check_j41 a56 v57 v58 v59 = some r) (fun ((v57, v58, v59) : Int × (List Int) × (List (Int × trace_seen))) => ⟨Tryd.f25.ntmps, [(1, V.sl 3 (rws api_Event.cells a56)), (7, V.ptr [12, 7] 0 0), (23, I v57)], ([12, 7], Obj.box [V.ptr [12, 20] 0 0]) :: ([12, 20], Obj.box [V.sl 1 (rws (fun l => [V.sl 3 (rws api_Instr.cells l)]) a67), V.mapr [12, 18], V.ref [7000, 114, 12, 20, 2] 0 (rws (fun n => [I n]) v58).length]) :: ([7000, 114, 12, 20, 2], Obj.rows 1 (rws (fun n => [I n]) v58) false) :: (pmo [12, 18] (fun n : Int => I n) trace_seen.cells none v59), [(Tryd.f11.ntmps, [])], [12]⟩) ?_ (fun HJ5110 => ?_)
  ·rintro ⟨v57, v58, v59⟩ h
   replace h : go_trace_Check_j41 a56 v57 v58 v59 = some r := h
   rw [go_trace_Check_j41] at h
   refine Qf E_good ?_
   refine SafeOps.nil ?_
   repeat first|apply sq|apply sk|with_reducible first|apply tn|apply bn
   refine Safe.region ?_
   refine Qf E_good ?_
   refine Q0 E_good rfl (v := V.bool (decide (v57 < 0))) (.fn rfl) ?_
   refine SafeOps.nil ?_
   repeat first|apply sq|apply sk|with_reducible first|apply tn|apply bn
   refine Safe.joinT (fun ((v54, v55) : Int × (List (Int × trace_seen))) => go_trace_Check_j42 v54 v55 = some r) (fun ((v54, v55) : Int × (List (Int × trace_seen))) => ⟨Tryd.f25.ntmps, [(7, V.ptr [12, 7] 0 0), (8, I v54)], ([12, 7], Obj.box [V.ptr [12, 20] 0 0]) :: ([12, 20], Obj.box [V.sl 1 (rws (fun l => [V.sl 3 (rws api_Instr.cells l)]) a67), V.mapr [12, 18], V.ref [7000, 114, 12, 20, 2] 0 (rws (fun n => [I n]) v58).length]) :: ([7000, 114, 12, 20, 2], Obj.rows 1 (rws (fun n => [I n]) v58) false) :: (pmo [12, 18] (fun n : Int => I n) trace_seen.cells none v55), [(Tryd.f11.ntmps, [])], [12]⟩) ?_ (fun HJ5113 => ?_)
   ·rintro ⟨v54, v55⟩ h
    replace h : go_trace_Check_j42 v54 v55 = some r := h
    rw [go_trace_Check_j42] at h
    repeat first|apply sq|apply sk|with_reducible first|apply tn|apply bn
    refine Safe.region ?_
    refine Q0 E_good rfl (v := V.ptr [12, 20] 0 0) (.load rfl rfl (.box rfl rfl) rfl) ?_
    refine Qf E_good ?_
    refine Qf E_good ?_
    refine Qf E_good ?_
    refine Qf E_good ?_
    refine SafeOps.nil ?_
    repeat first|apply sq|apply sk|with_reducible first|apply tn|apply bn
    refine Safe.ret ?_
    repeat (first | with_reducible refine thenQ.r ?_ | with_reducible refine blockQ.r ?_)
    refine inQ.gen (vs := [V.ptr [12, 20] 0 0, I v54, I 0]) (v := V.tup [V.ptr [12, 20] 0 0, I v54, I 0]) (.inr rfl) rfl (.tmp (v := V.ptr [12, 20] 0 0) rfl (.tmp (v := I v54) rfl (.tmp (v := I 0) rfl .nil))) rfl ?_
    refine Qf E_good ?_
    refine Qf E_good ?_
    refine Qf E_good ?_
    refine Qf E_good ?_
    refine Qf E_good ?_
    refine Qf E_good ?_
    refine Qf E_good ?_
    refine SafeOps.nil ?_
    repeat first|apply sq|apply sk|with_reducible first|apply tn|apply bn
    refine Safe.region ?_
    refine Qf E_good ?_
    refine Qf E_good ?_
    refine Qf E_good ?_
    refine Qf E_good ?_
    refine SafeOps.nil ?_
    repeat first|apply sq|apply sk|with_reducible first|apply tn|apply bn
    refine Safe.ret ?_
    repeat (first | with_reducible refine thenQ.r ?_ | with_reducible refine blockQ.r ?_)
    obtain rfl := Option.some.inj h
    exact retQ.gen (vs := [I v54, I 0]) rfl (.tmp rfl (.tmp rfl .nil)) (.free rfl) (by simp) (.inr rfl)
   ·skip
    refine ifG h (fun hc5114 h => ?_) (fun hc5114 h => ?_)
    ·skip
     refine Safe.condK rfl hc5114 ?_
     repeat first|apply sq|apply sk|with_reducible first|apply tn|apply bn
     refine Safe.region ?_
     refine Qf E_good ?_
     refine Q0 E_good rfl (v := I (a56.length : Int)) (.fnE rfl lenE) ?_
     refine Qf E_good ?_
     refine SafeOps.nil ?_
     repeat (first | refine Safe.skip ?_ | with_reducible refine thenQ.n ?_ | with_reducible refine blockQ.n ?_)
     exact Safe.got (HJ5113 ((a56.length : Int), v59) h) (.cov ⟨rfl, rfl, (ut (ut upT_nil)), (uo (uo (uo (upOb_tl rfl (by repeat first | exact Tn.here | refine Tn.cons rfl ?_) rfl)))), (upOut_cons rfl upT_nil upOut_nil), (cl3 rfl (wi_cons rfl (wi_cons rfl (wi_cons rfl (wi_tl rfl (by repeat first | exact Tn.here | refine Tn.cons rfl ?_) (fun _ => rfl) nob)))) rfl)⟩)
    ·skip
     refine Safe.condN rfl hc5114 ?_
     repeat (first | refine Safe.skip ?_ | with_reducible refine thenQ.n ?_ | with_reducible refine blockQ.n ?_)
     exact Safe.got (HJ5113 (v57, v59) h) (.cov ⟨rfl, rfl, (ut (ut upT_nil)), (uo (uo (uo (upOb_tl rfl (by repeat first | exact Tn.here | refine Tn.cons rfl ?_) rfl)))), (upOut_cons rfl upT_nil upOut_nil), (cl3 rfl (wi_cons rfl (wi_cons rfl (wi_cons rfl (wi_tl rfl (by repeat first | exact Tn.here | refine Tn.cons rfl ?_) (fun _ => rfl) nob)))) rfl)⟩)
  ·skip
   refine SafeOps.inline E_good rfl rfl rfl rfl rfl Tryd.func32 rfl (fun _ _ => Tryd.call32 _ _) rfl ?_
   repeat first|apply sq|apply sk|with_reducible first|apply tn|apply bn
   refine Safe.region ?_
   refine Qf E_good ?_
   refine SafeOps.nil ?_
   repeat first|apply sq|apply sk|with_reducible first|apply tn|apply bn
   refine Safe.region ?_
   refine Qf E_good ?_
   refine Q0 E_good rfl (v := I (a56.length : Int)) (.fnE rfl lenE) ?_
   refine Qf E_good ?_
   refine SafeOps.nil ?_
   repeat first|apply sq|apply sk|with_reducible first|apply tn|apply bn
   refine Safe.block ?_
   repeat first|apply sq|apply sk|with_reducible first|apply tn|apply bn
   refine Safe.loopW (fun ((v60, v68, v69) : Int × (List Int) × (List (Int × trace_seen))) => ⟨Tryd.f32.ntmps, [(0, V.sl 3 (rws api_Event.cells a56)), (1, V.fn 33 [V.ptr [12, 7] 0 0]), (7, I (a56.length : Int)), (8, I v60)], ([12, 7], Obj.box [V.ptr [12, 20] 0 0]) :: ([12, 20], Obj.box [V.sl 1 (rws (fun l => [V.sl 3 (rws api_Instr.cells l)]) a67), V.mapr [12, 18], V.ref [7000, 114, 12, 20, 2] 0 (rws (fun n => [I n]) v68).length]) :: ([7000, 114, 12, 20, 2], Obj.rows 1 (rws (fun n => [I n]) v68) false) :: (pmo [12, 18] (fun n : Int => I n) trace_seen.cells none v69), [(Tryd.f25.ntmps, [(1, V.sl 3 (rws api_Event.cells a56)), (7, V.ptr [12, 7] 0 0)]), (Tryd.f11.ntmps, [])], [12, 23]⟩) h (.empty [7000, 114, 12, 20, 2] 1 (fo1 (by repeat first|exact .here|refine .cons rfl ?_)) (.cov ⟨rfl, rfl, (ut (ut (ut (ut upT_nil)))), (uo (upOb_cons rfl (.box (.cons (.refl _) (.cons (.refl _) (.cons (.nilref _) .nil)))) (uo (upOb_tl rfl (by repeat first | exact Tn.here | refine Tn.cons rfl ?_) rfl)))), (upOut_cons rfl (ut (ut upT_nil)) (upOut_cons rfl upT_nil upOut_nil)), (cl3 rfl (wi_cons rfl (wi_cons rfl (wi_cons rfl (wi_tl rfl (by repeat first | exact Tn.here | refine Tn.cons rfl ?_) (fun _ => rfl) nob)))) rfl)⟩)) ?_
   rintro ⟨v60, v68, v69⟩ ohr5733 h hr5733
   replace h : go_trace_Check_s57 a67 a56 (v60, v68, v69) = some ohr5733 := h
   rw [go_trace_Check_s57] at h
   repeat first|apply sq|apply sk|with_reducible first|apply tn|apply bn
   refine Safe.region ?_
   refine Q0 E_good rfl (v := V.bool (decide (v60 < (a56.length : Int)))) (.fn rfl) ?_
   refine SafeOps.nil ?_
   repeat first|apply sq|apply sk|with_reducible first|apply tn|apply bn
   refine ifG h (fun hc5734 h => ?_) (fun hc5734 h => ?_)
   ·skip
    refine Safe.condK rfl hc5734 ?_
    repeat first|apply sq|apply sk|with_reducible first|apply tn|apply bn
    refine Safe.block ?_
    repeat first|apply sq|apply sk|with_reducible first|apply tn|apply bn
    refine Safe.region ?_
    refine Qf E_good ?_
    refine Qf E_good ?_
    refine SafeOps.nil ?_
    repeat first|apply sq|apply sk|with_reducible first|apply tn|apply bn
    refine Safe.region ?_
    refine Qf E_good ?_
    refine Qf E_good ?_
    refine Qf E_good ?_
    refine okG h (fun hb5735 h => ?_)
    refine Q0 E_good rfl (v := V.spt 3 (rws api_Event.cells a56) (Int.toNat v60) 0) (.idxSlM (f := api_Event.cells) rfl rfl rfl rfl rfl hb5735) ?_
    refine Q0 E_good rfl (v := V.agg [I ((gt a56 v60).Kind), I ((gt a56 v60).Id), I ((gt a56 v60).A)]) (.load rfl rfl (.sptM (f := api_Event.cells) hb5735 rfl) rfl) ?_
    refine SafeOps.inline E_good rfl rfl rfl rfl rfl Tryd.func33 rfl (fun _ _ => Tryd.call33 _ _) rfl ?_
    repeat first|apply sq|apply sk|with_reducible first|apply tn|apply bn
    refine Safe.region ?_
    refine SafeOps.quiet1 E_good rfl rfl rfl (.box rfl rfl) (fr1 (by repeat first|exact .here|refine .cons rfl ?_)) ?_
    refine Qf E_good ?_
    refine SafeOps.nil ?_
    repeat first|apply sq|apply sk|with_reducible first|apply tn|apply bn
    refine Safe.region ?_
    refine Q0 E_good rfl (v := V.ptr [12, 20] 0 0) (.load rfl rfl (.box rfl rfl) rfl) ?_
    refine Q0 E_good rfl (v := V.agg [I ((gt a56 v60).Kind), I ((gt a56 v60).Id), I ((gt a56 v60).A)]) (.load rfl rfl (.box rfl rfl) rfl) ?_
    refine SafeOps.joinT 1 (fun ((v61, v62, v63) : Bool × (List Int) × (List (Int × trace_seen))) => go_trace_Check_j61 a56 v60 v61 v62 v63 = some ohr5733) (fun ((v61, v62, v63) : Bool × (List Int) × (List (Int × trace_seen))) => ⟨Tryd.f33.ntmps, [(6, V.bool v61)], ([12, 7], Obj.box [V.ptr [12, 20] 0 0]) :: ([12, 20], Obj.box [V.sl 1 (rws (fun l => [V.sl 3 (rws api_Instr.cells l)]) a67), V.mapr [12, 18], V.ref [7000, 114, 12, 20, 2] 0 (rws (fun n => [I n]) v62).length]) :: ([7000, 114, 12, 20, 2], Obj.rows 1 (rws (fun n => [I n]) v62) false) :: (pmo [12, 18] (fun n : Int => I n) trace_seen.cells none v63), [(Tryd.f32.ntmps, [(0, V.sl 3 (rws api_Event.cells a56)), (1, V.fn 33 [V.ptr [12, 7] 0 0]), (5, I v60), (7, I (a56.length : Int)), (8, I v60)]), (Tryd.f25.ntmps, [(1, V.sl 3 (rws api_Event.cells a56)), (7, V.ptr [12, 7] 0 0)]), (Tryd.f11.ntmps, [])], [12, 23, 16]⟩) ?_ (fun HJ6077 => ?_)
    ·rintro ⟨v61, v62, v63⟩ h
     replace h : go_trace_Check_j61 a56 v60 v61 v62 v63 = some ohr5733 := h
     rw [go_trace_Check_j61] at h
     refine Q0 E_good rfl (v := V.bool (!v61)) (.fn rfl) ?_
     refine Qf E_good ?_
     refine SafeOps.nil ?_
     repeat first|apply sq|apply sk|with_reducible first|apply tn|apply bn
     refine Safe.ret ?_
     repeat (first | with_reducible refine thenQ.r ?_ | with_reducible refine blockQ.r ?_)
     refine inQ.gen (vs := [V.bool (!v61)]) (v := V.bool (!v61)) (.inr rfl) rfl (.tmp (v := V.bool (!v61)) rfl .nil) rfl ?_
     refine SafeOps.nil ?_
     repeat first|apply sq|apply sk|with_reducible first|apply tn|apply bn
     refine ifG h (fun hc6078 h => ?_) (fun hc6078 h => ?_)
     ·skip
      refine Safe.condK rfl hc6078 ?_
      repeat first|apply sq|apply sk|with_reducible first|apply tn|apply bn
      refine Safe.region ?_
      refine Qf E_good ?_
      refine Qf E_good ?_
      refine SafeOps.nil ?_
      repeat first|apply sq|apply sk|with_reducible first|apply tn|apply bn
      refine Safe.ret ?_
      repeat (first | with_reducible refine thenQ.r ?_ | with_reducible refine blockQ.r ?_)
      refine inQ.gen (vs := [I v60]) (v := I v60) (.inr rfl) rfl (.tmp (v := I v60) rfl .nil) rfl ?_
      replace h := inr_out h hr5733
      exact SafeOps.got (HJ5110 (v60, v62, v63) h) (.cov ⟨rfl, rfl, (ut (ut (ut upT_nil))), (uo (uo (uo (upOb_tl rfl (by repeat first | exact Tn.here | refine Tn.cons rfl ?_) rfl)))), (upOut_cons rfl upT_nil upOut_nil), (cl3 rfl (wi_cons rfl (wi_cons rfl (wi_cons rfl (wi_tl rfl (by repeat first | exact Tn.here | refine Tn.cons rfl ?_) (fun _ => rfl) nob)))) rfl)⟩)
     ·skip
      refine Safe.condN rfl hc6078 ?_
      repeat first|apply sq|apply sk|with_reducible first|apply tn|apply bn
      refine Safe.region ?_
      refine Q0 E_good rfl (v := I (IntKind.i64.wrap (v60 + 1))) (.fn rfl) ?_
      refine Qf E_good ?_
      refine SafeOps.nil ?_
      repeat first|apply sq|apply sk|with_reducible first|apply tn|apply bn
      exact ⟨_, next_out h, (.cov ⟨rfl, rfl, (ut (ut (ut (ut upT_nil)))), (uo (uo (uo (upOb_tl rfl (by repeat first | exact Tn.here | refine Tn.cons rfl ?_) rfl)))), (upOut_cons rfl (ut (ut upT_nil)) (upOut_cons rfl upT_nil upOut_nil)), (cl3 rfl (wi_cons rfl (wi_cons rfl (wi_cons rfl (wi_tl rfl (by repeat first | exact Tn.here | refine Tn.cons rfl ?_) (fun _ => rfl) nob)))) rfl)⟩)⟩
    ·skip
     refine SafeOps.inline E_good rfl rfl rfl rfl rfl Tryd.func34 rfl (fun _ _ => Tryd.call34 _ _) rfl ?_
     repeat first|apply sq|apply sk|with_reducible first|apply tn|apply bn
     refine Safe.region ?_
     refine SafeOps.quiet1 E_good rfl rfl rfl (.box rfl rfl) (fr1 (by repeat first|exact .here|refine .cons rfl ?_)) ?_
     refine Qf E_good ?_
     refine SafeOps.nil ?_
     repeat first|apply sq|apply sk|with_reducible first|apply tn|apply bn
     refine Safe.regionD (n := 12) [] [6] E_good mixed rfl ?_
     refine DT 0 [] rfl rfl (fun _ hz => (.fn rfl)) ?_
     refine DT 1 [] rfl rfl (v := V.ptr [12, 20] 0 0) (fun _ hz => (.fn rfl)) ?_
     refine DT 2 [] rfl rfl (v := V.ptr [12, 20] 0 1) (fun _ hz => (.fn rfl)) ?_
     refine DT 3 [] rfl rfl (v := V.mapr [12, 18]) (fun _ hz => (.load rfl rfl (.box (hz _ _ rfl rfl) rfl) rfl)) ?_
     refine DT 4 [] rfl rfl (v := V.ptr [12, 23, 16, 6, 3] 0 1) (fun _ hz => (.fn rfl)) ?_
     refine DT 5 [] rfl rfl (v := I ((gt a56 v60).Id)) (fun _ hz => (.load rfl rfl (.box (hz _ _ rfl rfl) rfl) rfl)) ?_
     refine DAny.onlyS (i := 6) rfl (by kernel_rfl) rfl ?_
     refine mcaseG h (fun hm6079 h => ?_) (fun e72 hm6079 h => ?_)
     ·skip
      refine SafeOps.lookP0 (M := [12, 18]) (fun n : Int => I n) v69 ((gt a56 v60).Id) E_good (keyI .i64) hm6079 rfl rfl rfl rfl rfl rfl rfl rfl rfl rfl rfl rfl rfl ?_
      refine SafeOps.nil ⟨rfl, ?_⟩
      refine DT 7 [] rfl rfl (fun _ hz => (.fn rfl)) ?_
      refine DT 8 [] rfl rfl (fun _ hz => (.fn rfl)) ?_
      refine DT 9 [] rfl rfl (fun _ hz => (.fn rfl)) ?_
      refine DT 10 [] rfl rfl (fun _ hz => (.fn rfl)) ?_
      refine DT 11 [] rfl rfl (fun _ hz => (.fn rfl)) ?_
      refine DAny.nil (by kernel_rfl) ?_
      repeat first|apply sq|apply sk|with_reducible first|apply tn|apply bn
      refine Safe.region ?_
      refine Qf E_good ?_
      refine Q0 E_good rfl (v := V.bool true) (.fn rfl) ?_
      refine SafeOps.nil ?_
      repeat first|apply sq|apply sk|with_reducible first|apply tn|apply bn
      refine Safe.condK rfl rfl ?_
      repeat first|apply sq|apply sk|with_reducible first|apply tn|apply bn
      refine Safe.region ?_
      refine Qf E_good ?_
      refine Q0 E_good rfl (v := V.agg [I ((gt a56 v60).Kind), I ((gt a56 v60).Id), I ((gt a56 v60).A)]) (.load rfl rfl (.box rfl rfl) rfl) ?_
      refine SafeOps.joinT 1 (fun ((v64, v65, v66) : Bool × (List Int) × (List (Int × trace_seen))) => go_trace_Check_j62 a56 v60 v64 v65 v66 = some ohr5733) (fun ((v64, v65, v66) : Bool × (List Int) × (List (Int × trace_seen))) => ⟨Tryd.f34.ntmps, [(24, V.bool v64)], ([12, 7], Obj.box [V.ptr [12, 20] 0 0]) :: ([12, 20], Obj.box [V.sl 1 (rws (fun l => [V.sl 3 (rws api_Instr.cells l)]) a67), V.mapr [12, 18], V.ref [7000, 114, 12, 20, 2] 0 (rws (fun n => [I n]) v65).length]) :: ([7000, 114, 12, 20, 2], Obj.rows 1 (rws (fun n => [I n]) v65) false) :: (pmo [12, 18] (fun n : Int => I n) trace_seen.cells none v66), [(Tryd.f33.ntmps, []), (Tryd.f32.ntmps, [(0, V.sl 3 (rws api_Event.cells a56)), (1, V.fn 33 [V.ptr [12, 7] 0 0]), (5, I v60), (7, I (a56.length : Int)), (8, I v60)]), (Tryd.f25.ntmps, [(1, V.sl 3 (rws api_Event.cells a56)), (7, V.ptr [12, 7] 0 0)]), (Tryd.f11.ntmps, [])], [12, 23, 16, 6]⟩) ?_ (fun HJ6091 => ?_)
      ·rintro ⟨v64, v65, v66⟩ h
       replace h : go_trace_Check_j62 a56 v60 v64 v65 v66 = some ohr5733 := h
       rw [go_trace_Check_j62] at h
       refine Qf E_good ?_
       refine SafeOps.nil ?_
       repeat first|apply sq|apply sk|with_reducible first|apply tn|apply bn
       refine Safe.ret ?_
       repeat (first | with_reducible refine thenQ.r ?_ | with_reducible refine blockQ.r ?_)
       refine inQ.gen (vs := [V.bool v64]) (v := V.bool v64) (.inr rfl) rfl (.tmp (v := V.bool v64) rfl .nil) rfl ?_
       exact SafeOps.got (HJ6077 (v64, v65, v66) h) (.cov ⟨rfl, rfl, (ut upT_nil), (uo (uo (uo (upOb_tl rfl (by repeat first | exact Tn.here | refine Tn.cons rfl ?_) rfl)))), (upOut_cons rfl (ut (ut (ut (ut (ut upT_nil))))) (upOut_cons rfl (ut (ut upT_nil)) (upOut_cons rfl upT_nil upOut_nil))), (cl3 rfl (wi_cons rfl (wi_cons rfl (wi_cons rfl (wi_tl rfl (by repeat first | exact Tn.here | refine Tn.cons rfl ?_) (fun _ => rfl) nob)))) rfl)⟩)
      ·skip
       refine SafeOps.inline E_good rfl rfl rfl rfl rfl Tryd.func43 rfl (fun _ _ => Tryd.call43 _ _) rfl ?_
       repeat first|apply sq|apply sk|with_reducible first|apply tn|apply bn
       refine Safe.region ?_
       refine SafeOps.quiet1 E_good rfl rfl rfl (.box rfl rfl) (fr1 (by repeat first|exact .here|refine .cons rfl ?_)) ?_
       refine Qf E_good ?_
       refine SafeOps.nil ?_
       repeat first|apply sq|apply sk|with_reducible first|apply tn|apply bn
       refine Safe.region ?_
       refine Q0 E_good rfl (v := V.ptr [12, 23, 16, 6, 24, 3] 0 1) (.fn rfl) ?_
       refine Q0 E_good rfl (v := I ((gt a56 v60).Id)) (.load rfl rfl (.box rfl rfl) rfl) ?_
       refine Q0 E_good rfl (v := V.ptr [12, 23, 16, 6, 24, 3] 0 2) (.fn rfl) ?_
       refine Q0 E_good rfl (v := I ((gt a56 v60).A)) (.load rfl rfl (.box rfl rfl) rfl) ?_
       refine bindG h ?_
       rintro ⟨x70, x71⟩ he6094 h
       refine Q0 E_good rfl (v := V.tup [V.agg [I x70.Id, I x70.Tenant, I x70.Prog, I x70.Pc, I x70.Unit, I x70.Keeps.a0, I x70.Keeps.a1, I x70.Keeps.a2, I x70.Keeps.a3, I x70.State, I x70.Ran], I x71]) (.callP rfl rfl (go_life_New_sc ((gt a56 v60).Id) 0 ((gt a56 v60).A) _ he6094) rfl) ?_
       refine Qf E_good ?_
       refine Qf E_good ?_
       refine Qf E_good ?_
       refine SafeOps.quiet1 E_good rfl rfl rfl (.alloc rfl rfl) (fr1 (by repeat first|exact .here|refine .cons rfl ?_)) ?_
       refine SafeOps.store (z := Obj.box [I x70.Id, I x70.Tenant, I x70.Prog, I x70.Pc, I x70.Unit, I x70.Keeps.a0, I x70.Keeps.a1, I x70.Keeps.a2, I x70.Keeps.a3, I x70.State, I x70.Ran]) E_good rfl rfl rfl rfl rfl rfl rfl (.boxM (c := 11) rfl rfl (Nat.le_of_ble_eq_true rfl) rfl) ?_
       refine Qf E_good ?_
       refine SafeOps.nil ?_
       repeat first|apply sq|apply sk|with_reducible first|apply tn|apply bn
       refine Safe.regionD (n := 17) [] [] E_good mixed rfl ?_
       refine DT 0 [] rfl rfl (fun _ hz => (.fn rfl)) ?_
       refine DT 1 [] rfl rfl (v := V.bool (x71 != 0)) (fun _ hz => (.fn rfl)) ?_
       refine DT 2 [] rfl rfl (fun _ hz => (.fn rfl)) ?_
       refine ifG h (fun hc6095 h => ?_) (fun hc6095 h => ?_)
       ·skip
        refine DAny.takeSkip (i := 3) rfl (by kernel_rfl) [] (by kernel_rfl) (by kernel_rfl) (by kernel_rfl) (congrArg (fun b => some (!b)) hc6095) rfl rfl ?_
        refine DAny.takeSkip (i := 4) rfl (by kernel_rfl) [] (by kernel_rfl) (by kernel_rfl) (by kernel_rfl) (congrArg (fun b => some (!b)) hc6095) rfl rfl ?_
        refine DAny.takeSkip (i := 5) rfl (by kernel_rfl) [] (by kernel_rfl) (by kernel_rfl) (by kernel_rfl) (congrArg (fun b => some (!b)) hc6095) rfl rfl ?_
        refine DT 6 [] rfl rfl (v := V.bool true) (fun _ hz => (.pickK rfl hc6095 rfl)) ?_
        refine DT 7 [] rfl rfl (fun _ hz => (.fn rfl)) ?_
        refine DAny.takeSkip (i := 8) rfl (by kernel_rfl) [] (by kernel_rfl) (by kernel_rfl) (by kernel_rfl) rfl rfl rfl ?_
        refine DAny.takeSkip (i := 9) rfl (by kernel_rfl) [] (by kernel_rfl) (by kernel_rfl) (by kernel_rfl) rfl rfl rfl ?_
        refine DAny.takeSkip (i := 10) rfl (by kernel_rfl) [] (by kernel_rfl) (by kernel_rfl) (by kernel_rfl) rfl rfl rfl ?_
        refine DAny.takeSkip (i := 11) rfl (by kernel_rfl) [] (by kernel_rfl) (by kernel_rfl) (by kernel_rfl) rfl rfl rfl ?_
        refine DAny.takeSkip (i := 12) rfl (by kernel_rfl) [] (by kernel_rfl) (by kernel_rfl) (by kernel_rfl) rfl rfl rfl ?_
        refine DAny.takeSkip (i := 13) rfl (by kernel_rfl) [] (by kernel_rfl) (by kernel_rfl) (by kernel_rfl) rfl rfl rfl ?_
        refine DAny.takeSkip (i := 14) rfl (by kernel_rfl) [] (by kernel_rfl) (by kernel_rfl) (by kernel_rfl) rfl rfl rfl ?_
        refine DAny.takeSkip (i := 15) rfl (by kernel_rfl) [] (by kernel_rfl) (by kernel_rfl) (by kernel_rfl) rfl rfl rfl ?_
        refine DT 16 [] rfl rfl (v := V.bool true) (fun _ hz => (.pickK rfl rfl rfl)) ?_
        refine DAny.nil (by kernel_rfl) ?_
        repeat first|apply sq|apply sk|with_reducible first|apply tn|apply bn
        refine Safe.condK rfl rfl ?_
        repeat first|apply sq|apply sk|with_reducible first|apply tn|apply bn
        refine Safe.region ?_
        refine Qf E_good ?_
        refine SafeOps.nil ?_
        repeat first|apply sq|apply sk|with_reducible first|apply tn|apply bn
        refine Safe.ret ?_
        repeat (first | with_reducible refine thenQ.r ?_ | with_reducible refine blockQ.r ?_)
        refine inQ.gen (vs := [V.bool false]) (v := V.bool false) (.inr rfl) rfl (.tmp (v := V.bool false) rfl .nil) rfl ?_
        exact SafeOps.got (HJ6091 (false, v68, v69) h) (.cov ⟨rfl, rfl, (ut upT_nil), (uo (uo (uo (upOb_tl rfl (by repeat first | exact Tn.here | refine Tn.cons rfl ?_) rfl)))), (upOut_cons rfl upT_nil (upOut_cons rfl (ut (ut (ut (ut (ut upT_nil))))) (upOut_cons rfl (ut (ut upT_nil)) (upOut_cons rfl upT_nil upOut_nil)))), (cl3 rfl (wi_cons rfl (wi_cons rfl (wi_cons rfl (wi_tl rfl (by repeat first | exact Tn.here | refine Tn.cons rfl ?_) (fun _ => rfl) nob)))) rfl)⟩)
       ·skip
        refine DAny.take (i := 3) rfl (by kernel_rfl) [] (by kernel_rfl) (by kernel_rfl) (by kernel_rfl) (congrArg (fun b => some (!b)) hc6095) rfl rfl (v := V.ptr [12, 23, 16, 6, 24, 3] 0 0) (fun _ hz => (.fn rfl)) ?_
        refine DAny.take (i := 4) rfl (by kernel_rfl) [] (by kernel_rfl) (by kernel_rfl) (by kernel_rfl) (congrArg (fun b => some (!b)) hc6095) rfl rfl (v := I ((gt a56 v60).Kind)) (fun _ hz => (.load rfl rfl (.box (hz _ _ rfl rfl) rfl) rfl)) ?_
        refine DAny.take (i := 5) rfl (by kernel_rfl) [] (by kernel_rfl) (by kernel_rfl) (by kernel_rfl) (congrArg (fun b => some (!b)) hc6095) rfl rfl (v := V.bool (((gt a56 v60).Kind) != 1)) (fun _ hz => (.fn rfl)) ?_
        refine DT 6 [] rfl rfl (v := V.bool (((gt a56 v60).Kind) != 1)) (fun _ hz => (.pickK rfl hc6095 rfl)) ?_
        refine DT 7 [] rfl rfl (fun _ hz => (.fn rfl)) ?_
        refine ifG h (fun hc6096 h => ?_) (fun hc6096 h => ?_)
        ·skip
         refine DAny.takeSkip (i := 8) rfl (by kernel_rfl) [] (by kernel_rfl) (by kernel_rfl) (by kernel_rfl) (congrArg (fun b => some (!b)) hc6096) rfl rfl ?_
         refine DAny.takeSkip (i := 9) rfl (by kernel_rfl) [] (by kernel_rfl) (by kernel_rfl) (by kernel_rfl) (congrArg (fun b => some (!b)) hc6096) rfl rfl ?_
         refine DAny.takeSkip (i := 10) rfl (by kernel_rfl) [] (by kernel_rfl) (by kernel_rfl) (by kernel_rfl) (congrArg (fun b => some (!b)) hc6096) rfl rfl ?_
         refine DAny.takeSkip (i := 11) rfl (by kernel_rfl) [] (by kernel_rfl) (by kernel_rfl) (by kernel_rfl) (congrArg (fun b => some (!b)) hc6096) rfl rfl ?_
         refine DAny.takeSkip (i := 12) rfl (by kernel_rfl) [] (by kernel_rfl) (by kernel_rfl) (by kernel_rfl) (congrArg (fun b => some (!b)) hc6096) rfl rfl ?_
         refine DAny.takeSkip (i := 13) rfl (by kernel_rfl) [] (by kernel_rfl) (by kernel_rfl) (by kernel_rfl) (congrArg (fun b => some (!b)) hc6096) rfl rfl ?_
         refine DAny.takeSkip (i := 14) rfl (by kernel_rfl) [] (by kernel_rfl) (by kernel_rfl) (by kernel_rfl) (congrArg (fun b => some (!b)) hc6096) rfl rfl ?_
         refine DAny.takeSkip (i := 15) rfl (by kernel_rfl) [] (by kernel_rfl) (by kernel_rfl) (by kernel_rfl) (congrArg (fun b => some (!b)) hc6096) rfl rfl ?_
         refine DT 16 [] rfl rfl (v := V.bool true) (fun _ hz => (.pickK rfl hc6096 rfl)) ?_
         refine DAny.nil (by kernel_rfl) ?_
         repeat first|apply sq|apply sk|with_reducible first|apply tn|apply bn
         refine Safe.condK rfl rfl ?_
         repeat first|apply sq|apply sk|with_reducible first|apply tn|apply bn
         refine Safe.region ?_
         refine Qf E_good ?_
         refine SafeOps.nil ?_
         repeat first|apply sq|apply sk|with_reducible first|apply tn|apply bn
         refine Safe.ret ?_
         repeat (first | with_reducible refine thenQ.r ?_ | with_reducible refine blockQ.r ?_)
         refine inQ.gen (vs := [V.bool false]) (v := V.bool false) (.inr rfl) rfl (.tmp (v := V.bool false) rfl .nil) rfl ?_
         exact SafeOps.got (HJ6091 (false, v68, v69) h) (.cov ⟨rfl, rfl, (ut upT_nil), (uo (uo (uo (upOb_tl rfl (by repeat first | exact Tn.here | refine Tn.cons rfl ?_) rfl)))), (upOut_cons rfl upT_nil (upOut_cons rfl (ut (ut (ut (ut (ut upT_nil))))) (upOut_cons rfl (ut (ut upT_nil)) (upOut_cons rfl upT_nil upOut_nil)))), (cl3 rfl (wi_cons rfl (wi_cons rfl (wi_cons rfl (wi_tl rfl (by repeat first | exact Tn.here | refine Tn.cons rfl ?_) (fun _ => rfl) nob)))) rfl)⟩)
        ·skip
         refine DAny.take (i := 8) rfl (by kernel_rfl) [] (by kernel_rfl) (by kernel_rfl) (by kernel_rfl) (congrArg (fun b => some (!b)) hc6096) rfl rfl (v := V.ptr [12, 23, 16, 6, 24, 3] 0 2) (fun _ hz => (.fn rfl)) ?_
         refine DAny.take (i := 9) rfl (by kernel_rfl) [] (by kernel_rfl) (by kernel_rfl) (by kernel_rfl) (congrArg (fun b => some (!b)) hc6096) rfl rfl (v := I ((gt a56 v60).A)) (fun _ hz => (.load rfl rfl (.box (hz _ _ rfl rfl) rfl) rfl)) ?_
         refine DAny.take (i := 10) rfl (by kernel_rfl) [] (by kernel_rfl) (by kernel_rfl) (by kernel_rfl) (congrArg (fun b => some (!b)) hc6096) rfl rfl (fun _ hz => (.fn rfl)) ?_
         refine DAny.take (i := 11) rfl (by kernel_rfl) [] (by kernel_rfl) (by kernel_rfl) (by kernel_rfl) (congrArg (fun b => some (!b)) hc6096) rfl rfl (v := V.ptr [12, 20] 0 0) (fun _ hz => (.fn rfl)) ?_
         refine DAny.take (i := 12) rfl (by kernel_rfl) [] (by kernel_rfl) (by kernel_rfl) (by kernel_rfl) (congrArg (fun b => some (!b)) hc6096) rfl rfl (v := V.ptr [12, 20] 0 0) (fun _ hz => (.fn rfl)) ?_
         refine DAny.take (i := 13) rfl (by kernel_rfl) [] (by kernel_rfl) (by kernel_rfl) (by kernel_rfl) (congrArg (fun b => some (!b)) hc6096) rfl rfl (v := V.sl 1 (rws (fun l => [V.sl 3 (rws api_Instr.cells l)]) a67)) (fun _ hz => (.load rfl rfl (.box (hz _ _ rfl rfl) rfl) rfl)) ?_
         refine DAny.take (i := 14) rfl (by kernel_rfl) [] (by kernel_rfl) (by kernel_rfl) (by kernel_rfl) (congrArg (fun b => some (!b)) hc6096) rfl rfl (v := I (a67.length : Int)) (fun _ hz => (.fnE rfl lenE)) ?_
         refine DAny.take (i := 15) rfl (by kernel_rfl) [] (by kernel_rfl) (by kernel_rfl) (by kernel_rfl) (congrArg (fun b => some (!b)) hc6096) rfl rfl (v := V.bool (decide (((gt a56 v60).A) ≥ (a67.length : Int)))) (fun _ hz => (.fn rfl)) ?_
         refine DT 16 [] rfl rfl (v := V.bool (decide (((gt a56 v60).A) ≥ (a67.length : Int)))) (fun _ hz => (.pickK rfl hc6096 rfl)) ?_
         refine DAny.nil (by kernel_rfl) ?_
         repeat first|apply sq|apply sk|with_reducible first|apply tn|apply bn
         refine ifG h (fun hc6097 h => ?_) (fun hc6097 h => ?_)
         ·skip
          refine Safe.condK rfl hc6097 ?_
          repeat first|apply sq|apply sk|with_reducible first|apply tn|apply bn
          refine Safe.region ?_
          refine Qf E_good ?_
          refine SafeOps.nil ?_
          repeat first|apply sq|apply sk|with_reducible first|apply tn|apply bn
          refine Safe.ret ?_
          repeat (first | with_reducible refine thenQ.r ?_ | with_reducible refine blockQ.r ?_)
          refine inQ.gen (vs := [V.bool false]) (v := V.bool false) (.inr rfl) rfl (.tmp (v := V.bool false) rfl .nil) rfl ?_
          exact SafeOps.got (HJ6091 (false, v68, v69) h) (.cov ⟨rfl, rfl, (ut upT_nil), (uo (uo (uo (upOb_tl rfl (by repeat first | exact Tn.here | refine Tn.cons rfl ?_) rfl)))), (upOut_cons rfl upT_nil (upOut_cons rfl (ut (ut (ut (ut (ut upT_nil))))) (upOut_cons rfl (ut (ut upT_nil)) (upOut_cons rfl upT_nil upOut_nil)))), (cl3 rfl (wi_cons rfl (wi_cons rfl (wi_cons rfl (wi_tl rfl (by repeat first | exact Tn.here | refine Tn.cons rfl ?_) (fun _ => rfl) nob)))) rfl)⟩)
         ·skip
          refine Safe.condN rfl hc6097 ?_
          repeat first|apply sq|apply sk|with_reducible first|apply tn|apply bn
          refine Safe.regionD (n := 11) [] [10] E_good mixed rfl ?_
          refine DT 0 [] rfl rfl (fun _ hz => (.fn rfl)) ?_
          refine DT 1 [] rfl rfl (v := V.ptr [12, 20] 0 0) (fun _ hz => (.fn rfl)) ?_
          refine DT 2 [] rfl rfl (v := V.ptr [12, 20] 0 1) (fun _ hz => (.fn rfl)) ?_
          refine DT 3 [] rfl rfl (v := V.mapr [12, 18]) (fun _ hz => (.load rfl rfl (.box (hz _ _ rfl rfl) rfl) rfl)) ?_
          refine DT 4 [] rfl rfl (v := V.ptr [12, 23, 16, 6, 24, 3] 0 1) (fun _ hz => (.fn rfl)) ?_
          refine DT 5 [] rfl rfl (v := I ((gt a56 v60).Id)) (fun _ hz => (.load rfl rfl (.box (hz _ _ rfl rfl) rfl) rfl)) ?_
          refine DT 6 [] rfl rfl (v := V.agg [I x70.Id, I x70.Tenant, I x70.Prog, I x70.Pc, I x70.Unit, I x70.Keeps.a0, I x70.Keeps.a1, I x70.Keeps.a2, I x70.Keeps.a3, I x70.State, I x70.Ran]) (fun _ hz => (.load rfl rfl (.box (hz _ _ rfl rfl) rfl) rfl)) ?_
          refine DT 7 [] rfl rfl (v := V.agg [I ((gt a56 v60).Kind), I ((gt a56 v60).Id), I ((gt a56 v60).A)]) (fun _ hz => (.load rfl rfl (.box (hz _ _ rfl rfl) rfl) rfl)) ?_
          refine DT 8 [] rfl rfl (v := V.agg [I x70.Id, I x70.Tenant, I x70.Prog, I x70.Pc, I x70.Unit, I x70.Keeps.a0, I x70.Keeps.a1, I x70.Keeps.a2, I x70.Keeps.a3, I x70.State, I x70.Ran, I ((gt a56 v60).Kind), I ((gt a56 v60).Id), I ((gt a56 v60).A)]) (fun _ hz => (.fn rfl)) ?_
          refine DAny.only (i := 9) rfl (by kernel_rfl) (.quiet rfl rfl rfl (.box rfl rfl) (fr1 (by repeat first|exact .here|refine .cons rfl ?_)) ?_)
          refine DAny.onlyS (i := 10) rfl (by kernel_rfl) rfl ?_
          refine SafeOps.putP (M := [12, 18]) (fun n : Int => I n) trace_seen.cells v69 ((gt a56 v60).Id) (trace_seen.mk x70 (gt a56 v60)) [12, 23, 16, 6, 24, 41] E_good (keyI .i64) hm6079 rfl (.inl rfl) rfl rfl rfl rfl rfl rfl rfl rfl rfl (by repeat first | exact Tt.here | apply Tt.cons) rfl ?_
          refine SafeOps.nil ⟨rfl, ?_⟩
          refine DAny.nil (by kernel_rfl) ?_
          repeat first|apply sq|apply sk|with_reducible first|apply tn|apply bn
          refine Safe.gets (τ := ⟨Tryd.f43.ntmps, [(0, V.ptr [12, 20] 0 0), (3, V.ptr [12, 23, 16, 6, 24, 3] 0 0)], ([12, 7], Obj.box [V.ptr [12, 20] 0 0]) :: ([12, 20], Obj.box [V.sl 1 (rws (fun l => [V.sl 3 (rws api_Instr.cells l)]) a67), V.mapr [12, 18], V.ref [7000, 114, 12, 20, 2] 0 (rws (fun n => [I n]) v68).length]) :: ([12, 23, 16, 2], Obj.box [I ((gt a56 v60).Kind), I ((gt a56 v60).Id), I ((gt a56 v60).A)]) :: ([12, 23, 16, 6, 3], Obj.box [I ((gt a56 v60).Kind), I ((gt a56 v60).Id), I ((gt a56 v60).A)]) :: ([12, 23, 16, 6, 24, 3], Obj.box [I ((gt a56 v60).Kind), I ((gt a56 v60).Id), I ((gt a56 v60).A)]) :: ([12, 23, 16, 6, 24, 5], Obj.box [I x70.Id, I x70.Tenant, I x70.Prog, I x70.Pc, I x70.Unit, I x70.Keeps.a0, I x70.Keeps.a1, I x70.Keeps.a2, I x70.Keeps.a3, I x70.State, I x70.Ran]) :: ([12, 23, 16, 6, 24, 41], Obj.box [I x70.Id, I x70.Tenant, I x70.Prog, I x70.Pc, I x70.Unit, I x70.Keeps.a0, I x70.Keeps.a1, I x70.Keeps.a2, I x70.Keeps.a3, I x70.State, I x70.Ran, I ((gt a56 v60).Kind), I ((gt a56 v60).Id), I ((gt a56 v60).A)]) :: ([7000, 114, 12, 20, 2], Obj.rows 1 (rws (fun n => [I n]) v68) false) :: (pmo [12, 18] (fun n : Int => I n) trace_seen.cells (some (mix ((gt a56 v60).Id) v69, [12, 23, 16, 6, 24, 41])) (mput v69 ((gt a56 v60).Id) (trace_seen.mk x70 (gt a56 v60)))), [(Tryd.f34.ntmps, []), (Tryd.f33.ntmps, []), (Tryd.f32.ntmps, [(0, V.sl 3 (rws api_Event.cells a56)), (1, V.fn 33 [V.ptr [12, 7] 0 0]), (5, I v60), (7, I (a56.length : Int)), (8, I v60)]), (Tryd.f25.ntmps, [(1, V.sl 3 (rws api_Event.cells a56)), (7, V.ptr [12, 7] 0 0)]), (Tryd.f11.ntmps, [])], [12, 23, 16, 6, 24]⟩) (.cov ⟨rfl, rfl, (ut (ut upT_nil)), (uo (uo (uo (uo (uo (uo (uo (uo (upOb_tl rfl (by repeat first | exact Tn.here | refine Tn.cons rfl ?_) rfl))))))))), (upOut_cons rfl upT_nil (upOut_cons rfl upT_nil (upOut_cons rfl (ut (ut (ut (ut (ut upT_nil))))) (upOut_cons rfl (ut (ut upT_nil)) (upOut_cons rfl upT_nil upOut_nil))))), (cl3 rfl (wi_cons rfl (wi_cons rfl (wi_cons rfl (wi_cons rfl (wi_cons rfl (wi_cons rfl (wi_cons rfl (wi_cons rfl (wi_tl rfl (by repeat first | exact Tn.here | refine Tn.cons rfl ?_) (fun _ => rfl) (sob rfl)))))))))) rfl)⟩) ?_
          refine Safe.giveP (M := [12, 18]) (fun n : Int => I n) trace_seen.cells v69 ((gt a56 v60).Id) (trace_seen.mk x70 (gt a56 v60)) (trace_seen.mk x70 (gt a56 v60)) [12, 23, 16, 6, 24, 41] rfl rfl rfl rfl rfl (fun _ _ _ => rfl) (by repeat first | exact Tg.here | apply Tg.drop rfl rfl | apply Tg.cons rfl rfl) rfl rfl ?_
          repeat first|apply sq|apply sk|with_reducible first|apply tn|apply bn
          refine Safe.regionD (n := 12) [(8, [7000, 114, 12, 20, 2]), (11, [12, 20])] [] E_good mixed rfl ?_
          refine DT 0 [[12, 20], [7000, 114, 12, 20, 2]] rfl rfl (fun _ hz => (.fn rfl)) ?_
          refine DT 1 [[12, 20], [7000, 114, 12, 20, 2]] rfl rfl (fun _ hz => (.fn rfl)) ?_
          refine DT 2 [[12, 20], [7000, 114, 12, 20, 2]] rfl rfl (v := V.ptr [12, 20] 0 0) (fun _ hz => (.fn rfl)) ?_
          refine DT 3 [[12, 20], [7000, 114, 12, 20, 2]] rfl rfl (v := V.ptr [12, 20] 0 2) (fun _ hz => (.fn rfl)) ?_
          refine DT 4 [[7000, 114, 12, 20, 2]] rfl rfl (v := V.ref [7000, 114, 12, 20, 2] 0 (rws (fun n => [I n]) v68).length) (fun _ hz => (.load rfl rfl (.box (hz _ _ rfl rfl) rfl) rfl)) ?_
          refine DT 5 [[12, 20], [7000, 114, 12, 20, 2]] rfl rfl (v := V.ptr [12, 23, 16, 6, 24, 3] 0 1) (fun _ hz => (.fn rfl)) ?_
          refine DT 6 [[12, 20], [7000, 114, 12, 20, 2]] rfl rfl (v := I ((gt a56 v60).Id)) (fun _ hz => (.load rfl rfl (.box (hz _ _ rfl rfl) rfl) rfl)) ?_
          refine DAny.only (i := 7) rfl (by kernel_rfl) (.quiet rfl rfl rfl (.litM (f := (fun n => [I n])) (xs := [(gt a56 v60).Id]) rfl rfl (by decide) rfl rfl rfl rfl rfl) (fr1 (by repeat first|exact .here|refine .cons rfl ?_)) ?_)
          refine okG h (fun hb6098 h => ?_)
          refine DAny.only (i := 8) rfl (by kernel_rfl) (.appendM (fun n => [I n]) (xs := v68) (ys := [(gt a56 v60).Id]) rfl rfl rfl rfl rfl rfl rfl rfl (fo1 (by repeat first|exact .here|refine .cons rfl ?_)) (.own rfl) (.own rfl) (fun _ => rfl) hb6098 rfl ?_)
          refine DT 9 [[12, 20], [7000, 114, 12, 20, 2]] rfl rfl (v := V.ptr [12, 20] 0 0) (fun _ hz => (.fn rfl)) ?_
          refine DT 10 [[12, 20], [7000, 114, 12, 20, 2]] rfl rfl (v := V.ptr [12, 20] 0 2) (fun _ hz => (.fn rfl)) ?_
          refine DAny.only (i := 11) rfl (by kernel_rfl) (.store (z := Obj.box [V.sl 1 (rws (fun l => [V.sl 3 (rws api_Instr.cells l)]) a67), V.mapr [12, 18], V.ref [12, 23, 16, 6, 24, 50] 0 (rws (fun n => [I n]) (v68 ++ [(gt a56 v60).Id])).length]) rfl rfl rfl rfl rfl rfl rfl (.boxM (c := 3) rfl rfl (Nat.le_of_ble_eq_true rfl) rfl) rfl ?_)
          refine DAny.nil (by kernel_rfl) ?_
          repeat first|apply sq|apply sk|with_reducible first|apply tn|apply bn
          refine Safe.region ?_
          refine Qf E_good ?_
          refine SafeOps.nil ?_
          repeat first|apply sq|apply sk|with_reducible first|apply tn|apply bn
          refine Safe.ret ?_
          repeat (first | with_reducible refine thenQ.r ?_ | with_reducible refine blockQ.r ?_)
          refine inQ.gen (vs := [V.bool true]) (v := V.bool true) (.inr rfl) rfl (.tmp (v := V.bool true) rfl .nil) rfl ?_
          exact SafeOps.got (HJ6091 (true, v68 ++ [(gt a56 v60).Id], mput v69 ((gt a56 v60).Id) (trace_seen.mk x70 (gt a56 v60))) h) (.renp (M := [12, 18]) (fun n : Int => I n) trace_seen.cells none (mput v69 ((gt a56 v60).Id) (trace_seen.mk x70 (gt a56 v60))) [12, 23, 16, 6, 24, 50] [7000, 114, 12, 20, 2] rfl rfl rfl rfl rfl (fun _ _ _ => rfl) (fun _ _ e => by cases e) (by repeat first | exact Tp.here | refine Tp.cons rfl ?_) (.cov ⟨rfl, rfl, (ut upT_nil), (uo (uo (uo (upOb_tl rfl (by repeat first | exact Tn.here | refine Tn.cons rfl ?_) rfl)))), (upOut_cons rfl upT_nil (upOut_cons rfl (ut (ut (ut (ut (ut upT_nil))))) (upOut_cons rfl (ut (ut upT_nil)) (upOut_cons rfl upT_nil upOut_nil)))), (cl3 rfl (wi_cons rfl (wi_cons rfl (wi_cons rfl (wi_tl rfl (by repeat first | exact Tn.here | refine Tn.cons rfl ?_) (fun _ => rfl) nob)))) rfl)⟩))
     ·skip
      refine SafeOps.lookP1 (M := [12, 18]) (fun n : Int => I n) trace_seen.cells v69 ((gt a56 v60).Id) e72 [12, 23, 16, 6, 17, 1] E_good (keyI .i64) hm6079 rfl rfl rfl rfl rfl rfl rfl rfl rfl rfl rfl rfl rfl rfl rfl rfl (by decide) (fun _ _ _ => rfl) (by repeat first | exact Tg.here | apply Tg.cons rfl rfl) rfl rfl ?_
      refine SafeOps.nil ⟨rfl, ?_⟩
      refine DT 7 [] rfl rfl (fun _ hz => (.fn rfl)) ?_
      refine DT 8 [] rfl rfl (fun _ hz => (.fn rfl)) ?_
      refine DT 9 [] rfl rfl (fun _ hz => (.fn rfl)) ?_
      refine DT 10 [] rfl rfl (fun _ hz => (.fn rfl)) ?_
      refine DT 11 [] rfl rfl (fun _ hz => (.fn rfl)) ?_
      refine DAny.nil (by kernel_rfl) ?_
      repeat first|apply sq|apply sk|with_reducible first|apply tn|apply bn
      refine Safe.region ?_
      refine Qf E_good ?_
      refine Q0 E_good rfl (v := V.bool false) (.fn rfl) ?_
      refine SafeOps.nil ?_
      repeat first|apply sq|apply sk|with_reducible first|apply tn|apply bn
      refine Safe.condN rfl rfl ?_
      repeat first|apply sq|apply sk|with_reducible first|apply tn|apply bn
      refine Safe.regionD (n := 14) [] [] E_good mixed rfl ?_
      refine DT 0 [] rfl rfl (fun _ hz => (.fn rfl)) ?_
      refine DT 1 [] rfl rfl (v := V.ptr [12, 23, 16, 6, 17, 1] 0 0) (fun _ hz => (.fn rfl)) ?_
      refine DT 2 [] rfl rfl (v := V.ptr [12, 23, 16, 6, 17, 1] 0 0) (fun _ hz => (.fn rfl)) ?_
      refine DT 3 [] rfl rfl (v := V.ptr [12, 23, 16, 6, 17, 1] 0 9) (fun _ hz => (.fn rfl)) ?_
      refine DT 4 [] rfl rfl (v := I e72.Task.State) (fun _ hz => (.load rfl rfl (.box (hz _ _ rfl rfl) rfl) rfl)) ?_
      refine DT 5 [] rfl rfl (v := V.bool (e72.Task.State == 1)) (fun _ hz => (.fn rfl)) ?_
      refine DT 6 [] rfl rfl (fun _ hz => (.fn rfl)) ?_
      refine DT 7 [] rfl rfl (v := V.ptr [12, 23, 16, 6, 17, 1] 0 0) (fun _ hz => (.fn rfl)) ?_
      refine DT 8 [] rfl rfl (v := V.ptr [12, 23, 16, 6, 17, 1] 0 11) (fun _ hz => (.fn rfl)) ?_
      refine DT 9 [] rfl rfl (v := V.ptr [12, 23, 16, 6, 17, 1] 0 11) (fun _ hz => (.fn rfl)) ?_
      refine DT 10 [] rfl rfl (v := I e72.last.Kind) (fun _ hz => (.load rfl rfl (.box (hz _ _ rfl rfl) rfl) rfl)) ?_
      refine DT 11 [] rfl rfl (v := V.bool (e72.last.Kind == 2)) (fun _ hz => (.fn rfl)) ?_
      refine DT 12 [] rfl rfl (fun _ hz => (.fn rfl)) ?_
      refine DT 13 [] rfl rfl (fun _ hz => (.fn rfl)) ?_
      refine DAny.nil (by kernel_rfl) ?_
      repeat first|apply sq|apply sk|with_reducible first|apply tn|apply bn
      refine Safe.region ?_
      refine Qf E_good ?_
      refine SafeOps.nil ?_
      repeat first|apply sq|apply sk|with_reducible first|apply tn|apply bn
      refine Safe.region ?_
      refine Q0 E_good rfl (v := V.ptr [12, 23, 16, 6, 3] 0 0) (.fn rfl) ?_
      refine Q0 E_good rfl (v := I ((gt a56 v60).Kind)) (.load rfl rfl (.box rfl rfl) rfl) ?_
      refine SafeOps.nil ?_
      repeat first|apply sq|apply sk|with_reducible first|apply tn|apply bn
      refine Safe.block ?_
      repeat first|apply sq|apply sk|with_reducible first|apply tn|apply bn
      refine Safe.region ?_
      refine Q0 E_good rfl (v := V.bool (((gt a56 v60).Kind) == 2)) (.fn rfl) ?_
      refine Qf E_good ?_
      refine SafeOps.nil ?_
      repeat first|apply sq|apply sk|with_reducible first|apply tn|apply bn
      refine ifG h (fun hc6182 h => ?_) (fun hc6182 h => ?_)
      ·skip
       refine Safe.condK rfl hc6182 ?_
       repeat first|apply sq|apply sk|with_reducible first|apply tn|apply bn
       refine Safe.region ?_
       refine Qf E_good ?_
       refine Qf E_good ?_
       refine Q0 E_good rfl (v := V.ptr [12, 23, 16, 6, 3] 0 2) (.fn rfl) ?_
       refine Q0 E_good rfl (v := I ((gt a56 v60).A)) (.load rfl rfl (.box rfl rfl) rfl) ?_
       refine SafeOps.inline E_good rfl rfl rfl rfl rfl Tryd.func44 rfl (fun _ _ => Tryd.call44 _ _) rfl ?_
       repeat first|apply sq|apply sk|with_reducible first|apply tn|apply bn
       refine Safe.region ?_
       refine Qf E_good ?_
       refine SafeOps.nil ?_
       repeat first|apply sq|apply sk|with_reducible first|apply tn|apply bn
       refine Safe.regionD (n := 12) [] [] E_good mixed rfl ?_
       refine DT 0 [] rfl rfl (fun _ hz => (.fn rfl)) ?_
       refine DT 1 [] rfl rfl (v := V.ptr [12, 20] 0 0) (fun _ hz => (.fn rfl)) ?_
       refine DT 2 [] rfl rfl (v := V.ptr [12, 20] 0 0) (fun _ hz => (.fn rfl)) ?_
       refine DT 3 [] rfl rfl (v := V.sl 1 (rws (fun l => [V.sl 3 (rws api_Instr.cells l)]) a67)) (fun _ hz => (.load rfl rfl (.box (hz _ _ rfl rfl) rfl) rfl)) ?_
       refine DT 4 [] rfl rfl (fun _ hz => (.fn rfl)) ?_
       refine DT 5 [] rfl rfl (v := V.ptr [12, 23, 16, 6, 17, 1] 0 0) (fun _ hz => (.fn rfl)) ?_
       refine DT 6 [] rfl rfl (v := V.ptr [12, 23, 16, 6, 17, 1] 0 0) (fun _ hz => (.fn rfl)) ?_
       refine DT 7 [] rfl rfl (v := V.ptr [12, 23, 16, 6, 17, 1] 0 2) (fun _ hz => (.fn rfl)) ?_
       refine DT 8 [] rfl rfl (v := I e72.Task.Prog) (fun _ hz => (.load rfl rfl (.box (hz _ _ rfl rfl) rfl) rfl)) ?_
       refine okG h (fun hb6216 h => ?_)
       refine DT 9 [] rfl rfl (v := V.spt 1 (rws (fun l => [V.sl 3 (rws api_Instr.cells l)]) a67) (Int.toNat e72.Task.Prog) 0) (fun _ hz => (.idxSlM (f := (fun l => [V.sl 3 (rws api_Instr.cells l)])) rfl rfl rfl rfl rfl hb6216)) ?_
       refine DT 10 [] rfl rfl (v := V.sl 3 (rws api_Instr.cells (gt a67 e72.Task.Prog))) (fun _ hz => (.load rfl rfl (.sptM (f := (fun l => [V.sl 3 (rws api_Instr.cells l)])) hb6216 rfl) rfl)) ?_
       refine DT 11 [] rfl rfl (fun _ hz => (.fn rfl)) ?_
       refine DAny.nil (by kernel_rfl) ?_
       repeat first|apply sq|apply sk|with_reducible first|apply tn|apply bn
       refine Safe.region ?_
       refine Qf E_good ?_
       refine Q0 E_good rfl (v := V.ptr [12, 23, 16, 6, 17, 1] 0 0) (.fn rfl) ?_
       refine Q0 E_good rfl (v := V.ptr [12, 23, 16, 6, 17, 1] 0 0) (.fn rfl) ?_
       refine Q0 E_good rfl (v := V.agg [I e72.Task.Id, I e72.Task.Tenant, I e72.Task.Prog, I e72.Task.Pc, I e72.Task.Unit, I e72.Task.Keeps.a0, I e72.Task.Keeps.a1, I e72.Task.Keeps.a2, I e72.Task.Keeps.a3, I e72.Task.State, I e72.Task.Ran]) (.load rfl rfl (.box rfl rfl) rfl) ?_
       refine Qf E_good ?_
       refine bindG h ?_
       rintro ⟨x73, x74⟩ he6219 h
       refine Q0 E_good rfl (v := V.tup [V.agg [I x73.Op, I x73.A, I x73.B], I x74]) (.callP rfl rfl (go_step_Next_sc e72.Task (gt a67 e72.Task.Prog) _ he6219) rfl) ?_
       refine Qf E_good ?_
       refine Qf E_good ?_
       refine Qf E_good ?_
       refine SafeOps.quiet1 E_good rfl rfl rfl (.alloc rfl rfl) (fr1 (by repeat first|exact .here|refine .cons rfl ?_)) ?_
       refine SafeOps.store (z := Obj.box [I x73.Op, I x73.A, I x73.B]) E_good rfl rfl rfl rfl rfl rfl rfl (.boxM (c := 3) rfl rfl (Nat.le_of_ble_eq_true rfl) rfl) ?_
       refine Qf E_good ?_
       refine SafeOps.nil ?_
       repeat first|apply sq|apply sk|with_reducible first|apply tn|apply bn
       refine Safe.region ?_
       refine Qf E_good ?_
       refine Q0 E_good rfl (v := V.bool (x74 != 0)) (.fn rfl) ?_
       refine Qf E_good ?_
       refine SafeOps.bjoin 7 40 (b := ((x74 != 0) || (e72.Task.State != 1))) (b1 := true) (b0 := (e72.Task.State != 1)) (fun hc6220 K => ?_) (fun hc6220 K => ?_) bj_or ?_
       ·skip
        refine sF hc6220 ?_
        refine sF hc6220 ?_
        refine sF hc6220 ?_
        refine sF hc6220 ?_
        refine sF hc6220 ?_
        refine sF hc6220 ?_
        refine Q0 E_good rfl (v := V.bool true) (.pickK rfl hc6220 rfl) ?_
        exact SafeOps.drop' 7 rfl rfl rfl K
       ·skip
        refine qF E_good hc6220 (.fn rfl) ?_
        refine qF E_good hc6220 (v := V.ptr [12, 23, 16, 6, 17, 1] 0 0) (.fn rfl) ?_
        refine qF E_good hc6220 (v := V.ptr [12, 23, 16, 6, 17, 1] 0 0) (.fn rfl) ?_
        refine qF E_good hc6220 (v := V.ptr [12, 23, 16, 6, 17, 1] 0 9) (.fn rfl) ?_
        refine qF E_good hc6220 (v := I e72.Task.State) (.load rfl rfl (.box rfl rfl) rfl) ?_
        refine qF E_good hc6220 (v := V.bool (e72.Task.State != 1)) (.fn rfl) ?_
        refine Q0 E_good rfl (v := V.bool (e72.Task.State != 1)) (.pickK rfl hc6220 rfl) ?_
        exact SafeOps.drop' 7 rfl rfl rfl K
       refine Qf E_good ?_
       refine SafeOps.bjoin 5 46 (b := (((x74 != 0) || (e72.Task.State != 1)) || (x73.Op != ((gt a56 v60).A)))) (b1 := true) (b0 := (x73.Op != ((gt a56 v60).A))) (fun hc6221 K => ?_) (fun hc6221 K => ?_) bj_or ?_
       ·skip
        refine sF hc6221 ?_
        refine sF hc6221 ?_
        refine sF hc6221 ?_
        refine sF hc6221 ?_
        refine Q0 E_good rfl (v := V.bool true) (.pickK rfl hc6221 rfl) ?_
        exact SafeOps.drop' 5 rfl rfl rfl K
       ·skip
        refine qF E_good hc6221 (v := V.ptr [12, 23, 16, 6, 45, 8] 0 0) (.fn rfl) ?_
        refine qF E_good hc6221 (v := I x73.Op) (.load rfl rfl (.box rfl rfl) rfl) ?_
        refine qF E_good hc6221 (.fn rfl) ?_
        refine qF E_good hc6221 (v := V.bool (x73.Op != ((gt a56 v60).A))) (.fn rfl) ?_
        refine Q0 E_good rfl (v := V.bool (x73.Op != ((gt a56 v60).A))) (.pickK rfl hc6221 rfl) ?_
        exact SafeOps.drop' 5 rfl rfl rfl K
       refine Qf E_good ?_
       refine SafeOps.bjoin 15 62 (b := ((((x74 != 0) || (e72.Task.State != 1)) || (x73.Op != ((gt a56 v60).A))) || ((e72.last.Kind == 2) && (e72.last.A == 9)))) (b1 := true) (b0 := ((e72.last.Kind == 2) && (e72.last.A == 9))) (fun hc6222 K => ?_) (fun hc6222 K => ?_) bj_or ?_
       ·skip
        refine sF hc6222 ?_
        refine sF hc6222 ?_
        refine sF hc6222 ?_
        refine sF hc6222 ?_
        refine sF hc6222 ?_
        refine sF hc6222 ?_
        refine sF hc6222 ?_
        refine SafeOps.skip rfl rfl rfl ?_
        refine SafeOps.skip rfl rfl rfl ?_
        refine SafeOps.skip rfl rfl rfl ?_
        refine SafeOps.skip rfl rfl rfl ?_
        refine SafeOps.skip rfl rfl rfl ?_
        refine SafeOps.skip rfl rfl rfl ?_
        refine sF hc6222 ?_
        refine Q0 E_good rfl (v := V.bool true) (.pickK rfl hc6222 rfl) ?_
        exact SafeOps.drop' 15 rfl rfl rfl K
       ·skip
        refine qF E_good hc6222 (.fn rfl) ?_
        refine qF E_good hc6222 (v := V.ptr [12, 23, 16, 6, 17, 1] 0 0) (.fn rfl) ?_
        refine qF E_good hc6222 (v := V.ptr [12, 23, 16, 6, 17, 1] 0 11) (.fn rfl) ?_
        refine qF E_good hc6222 (v := V.ptr [12, 23, 16, 6, 17, 1] 0 11) (.fn rfl) ?_
        refine qF E_good hc6222 (v := I e72.last.Kind) (.load rfl rfl (.box rfl rfl) rfl) ?_
        refine qF E_good hc6222 (v := V.bool (e72.last.Kind == 2)) (.fn rfl) ?_
        refine qF E_good hc6222 (.fn rfl) ?_
        refine SafeOps.bjoin 7 61 (b := ((e72.last.Kind == 2) && (e72.last.A == 9))) (b1 := (e72.last.A == 9)) (b0 := false) (fun hc6223 K => ?_) (fun hc6223 K => ?_) bj_and ?_
        ·skip
         refine qT E_good hc6223 (.fn rfl) ?_
         refine qT E_good hc6223 (v := V.ptr [12, 23, 16, 6, 17, 1] 0 0) (.fn rfl) ?_
         refine qT E_good hc6223 (v := V.ptr [12, 23, 16, 6, 17, 1] 0 11) (.fn rfl) ?_
         refine qT E_good hc6223 (v := V.ptr [12, 23, 16, 6, 17, 1] 0 13) (.fn rfl) ?_
         refine qT E_good hc6223 (v := I e72.last.A) (.load rfl rfl (.box rfl rfl) rfl) ?_
         refine qT E_good hc6223 (v := V.bool (e72.last.A == 9)) (.fn rfl) ?_
         refine qF E_good hc6222 (v := V.bool (e72.last.A == 9)) (.pickK rfl hc6223 rfl) ?_
         exact SafeOps.drop' 7 rfl rfl rfl K
        ·skip
         refine sT hc6223 ?_
         refine sT hc6223 ?_
         refine sT hc6223 ?_
         refine sT hc6223 ?_
         refine sT hc6223 ?_
         refine sT hc6223 ?_
         refine qF E_good hc6222 (v := V.bool false) (.pickK rfl hc6223 rfl) ?_
         exact SafeOps.drop' 7 rfl rfl rfl K
        refine Q0 E_good rfl (v := V.bool ((e72.last.Kind == 2) && (e72.last.A == 9))) (.pickK rfl hc6222 rfl) ?_
        exact SafeOps.drop' 9 rfl rfl rfl K
       refine SafeOps.nil ?_
       repeat first|apply sq|apply sk|with_reducible first|apply tn|apply bn
       refine ifG h (fun hc6224 h => ?_) (fun hc6224 h => ?_)
       ·skip
        refine Safe.condK rfl hc6224 ?_
        repeat first|apply sq|apply sk|with_reducible first|apply tn|apply bn
        refine Safe.region ?_
        refine Qf E_good ?_
        refine SafeOps.nil ?_
        repeat first|apply sq|apply sk|with_reducible first|apply tn|apply bn
        refine Safe.ret ?_
        repeat (first | with_reducible refine thenQ.r ?_ | with_reducible refine blockQ.r ?_)
        refine inQ.gen (vs := [V.bool false]) (v := V.bool false) (.inr rfl) rfl (.tmp (v := V.bool false) rfl .nil) rfl ?_
        refine Qf E_good ?_
        refine SafeOps.nil ?_
        repeat first|apply sq|apply sk|with_reducible first|apply tn|apply bn
        refine Safe.region ?_
        refine Qf E_good ?_
        refine Q0 E_good rfl (v := V.agg [I ((gt a56 v60).Kind), I ((gt a56 v60).Id), I ((gt a56 v60).A)]) (.load rfl rfl (.box rfl rfl) rfl) ?_
        refine Q0 E_good rfl (v := V.ptr [12, 23, 16, 6, 17, 1] 0 0) (.fn rfl) ?_
        refine Q0 E_good rfl (v := V.ptr [12, 23, 16, 6, 17, 1] 0 11) (.fn rfl) ?_
        refine SafeOps.store (z := Obj.box [I e72.Task.Id, I e72.Task.Tenant, I e72.Task.Prog, I e72.Task.Pc, I e72.Task.Unit, I e72.Task.Keeps.a0, I e72.Task.Keeps.a1, I e72.Task.Keeps.a2, I e72.Task.Keeps.a3, I e72.Task.State, I e72.Task.Ran, I ((gt a56 v60).Kind), I ((gt a56 v60).Id), I ((gt a56 v60).A)]) E_good rfl rfl rfl rfl rfl rfl rfl (.boxM (c := 14) rfl rfl (Nat.le_of_ble_eq_true rfl) rfl) ?_
        refine SafeOps.gets (τ := ⟨Tryd.f34.ntmps, [(9, V.bool false)], ([12, 7], Obj.box [V.ptr [12, 20] 0 0]) :: ([12, 20], Obj.box [V.sl 1 (rws (fun l => [V.sl 3 (rws api_Instr.cells l)]) a67), V.mapr [12, 18], V.ref [7000, 114, 12, 20, 2] 0 (rws (fun n => [I n]) v68).length]) :: ([12, 23, 16, 2], Obj.box [I ((gt a56 v60).Kind), I ((gt a56 v60).Id), I ((gt a56 v60).A)]) :: ([12, 23, 16, 6, 3], Obj.box [I ((gt a56 v60).Kind), I ((gt a56 v60).Id), I ((gt a56 v60).A)]) :: ([12, 23, 16, 6, 17, 1], Obj.box [I e72.Task.Id, I e72.Task.Tenant, I e72.Task.Prog, I e72.Task.Pc, I e72.Task.Unit, I e72.Task.Keeps.a0, I e72.Task.Keeps.a1, I e72.Task.Keeps.a2, I e72.Task.Keeps.a3, I e72.Task.State, I e72.Task.Ran, I ((gt a56 v60).Kind), I ((gt a56 v60).Id), I ((gt a56 v60).A)]) :: ([12, 23, 16, 6, 45, 8], Obj.box [I x73.Op, I x73.A, I x73.B]) :: ([7000, 114, 12, 20, 2], Obj.rows 1 (rws (fun n => [I n]) v68) false) :: (pmo [12, 18] (fun n : Int => I n) trace_seen.cells (some (mix ((gt a56 v60).Id) v69, [12, 23, 16, 6, 17, 1])) (mput v69 ((gt a56 v60).Id) e72)), [(Tryd.f33.ntmps, []), (Tryd.f32.ntmps, [(0, V.sl 3 (rws api_Event.cells a56)), (1, V.fn 33 [V.ptr [12, 7] 0 0]), (5, I v60), (7, I (a56.length : Int)), (8, I v60)]), (Tryd.f25.ntmps, [(1, V.sl 3 (rws api_Event.cells a56)), (7, V.ptr [12, 7] 0 0)]), (Tryd.f11.ntmps, [])], [12, 23, 16, 6]⟩) (.cov ⟨rfl, rfl, (ut upT_nil), (uo (uo (uo (uo (uo (uo (uo (upOb_tl rfl (by repeat first | exact Tn.here | refine Tn.cons rfl ?_) rfl)))))))), (upOut_cons rfl upT_nil (upOut_cons rfl (ut (ut (ut (ut (ut upT_nil))))) (upOut_cons rfl (ut (ut upT_nil)) (upOut_cons rfl upT_nil upOut_nil)))), (cl3 rfl (wi_cons rfl (wi_cons rfl (wi_cons rfl (wi_cons rfl (wi_cons rfl (wi_cons rfl (wi_cons rfl (wi_tl rfl (by repeat first | exact Tn.here | refine Tn.cons rfl ?_) (fun _ => rfl) (sob rfl))))))))) rfl)⟩) ?_
        refine SafeOps.giveP (M := [12, 18]) (fun n : Int => I n) trace_seen.cells v69 ((gt a56 v60).Id) e72 (trace_seen.mk e72.Task (gt a56 v60)) [12, 23, 16, 6, 17, 1] rfl rfl rfl rfl rfl (fun _ _ _ => rfl) (by repeat first | exact Tg.here | apply Tg.drop rfl rfl | apply Tg.cons rfl rfl) rfl rfl ?_
        refine SafeOps.nil ?_
        repeat first|apply sq|apply sk|with_reducible first|apply tn|apply bn
        refine Safe.region ?_
        refine Qf E_good ?_
        refine Qf E_good ?_
        refine SafeOps.nil ?_
        repeat first|apply sq|apply sk|with_reducible first|apply tn|apply bn
        refine Safe.ret ?_
        repeat (first | with_reducible refine thenQ.r ?_ | with_reducible refine blockQ.r ?_)
        refine inQ.gen (vs := [V.bool false]) (v := V.bool false) (.inr rfl) rfl (.tmp (v := V.bool false) rfl .nil) rfl ?_
        exact SafeOps.got (HJ6077 (false, v68, mput v69 ((gt a56 v60).Id) (trace_seen.mk e72.Task (gt a56 v60))) h) (.cov ⟨rfl, rfl, (ut upT_nil), (uo (uo (uo (upOb_tl rfl (by repeat first | exact Tn.here | refine Tn.cons rfl ?_) rfl)))), (upOut_cons rfl (ut (ut (ut (ut (ut upT_nil))))) (upOut_cons rfl (ut (ut upT_nil)) (upOut_cons rfl upT_nil upOut_nil))), (cl3 rfl (wi_cons rfl (wi_cons rfl (wi_cons rfl (wi_tl rfl (by repeat first | exact Tn.here | refine Tn.cons rfl ?_) (fun _ => rfl) nob)))) rfl)⟩)
       ·skip
        refine Safe.condN rfl hc6224 ?_
        repeat first|apply sq|apply sk|with_reducible first|apply tn|apply bn
        refine Safe.region ?_
        refine Qf E_good ?_
        refine Q0 E_good rfl (v := V.ptr [12, 23, 16, 6, 17, 1] 0 0) (.fn rfl) ?_
        refine Q0 E_good rfl (v := V.ptr [12, 23, 16, 6, 17, 1] 0 0) (.fn rfl) ?_
        refine Q0 E_good rfl (v := V.agg [I e72.Task.Id, I e72.Task.Tenant, I e72.Task.Prog, I e72.Task.Pc, I e72.Task.Unit, I e72.Task.Keeps.a0, I e72.Task.Keeps.a1, I e72.Task.Keeps.a2, I e72.Task.Keeps.a3, I e72.Task.State, I e72.Task.Ran]) (.load rfl rfl (.box rfl rfl) rfl) ?_
        refine bindG h ?_
        rintro ⟨x75, x76⟩ he6227 h
        refine Q0 E_good rfl (v := V.tup [V.agg [I x75.Id, I x75.Tenant, I x75.Prog, I x75.Pc, I x75.Unit, I x75.Keeps.a0, I x75.Keeps.a1, I x75.Keeps.a2, I x75.Keeps.a3, I x75.State, I x75.Ran], I x76]) (.callP rfl rfl (go_life_Move_sc e72.Task 2 _ he6227) rfl) ?_
        refine Qf E_good ?_
        refine Qf E_good ?_
        refine Qf E_good ?_
        refine SafeOps.quiet1 E_good rfl rfl rfl (.alloc rfl rfl) (fr1 (by repeat first|exact .here|refine .cons rfl ?_)) ?_
        refine SafeOps.store (z := Obj.box [I x75.Id, I x75.Tenant, I x75.Prog, I x75.Pc, I x75.Unit, I x75.Keeps.a0, I x75.Keeps.a1, I x75.Keeps.a2, I x75.Keeps.a3, I x75.State, I x75.Ran]) E_good rfl rfl rfl rfl rfl rfl rfl (.boxM (c := 11) rfl rfl (Nat.le_of_ble_eq_true rfl) rfl) ?_
        refine Qf E_good ?_
        refine SafeOps.nil ?_
        repeat first|apply sq|apply sk|with_reducible first|apply tn|apply bn
        refine Safe.region ?_
        refine Qf E_good ?_
        refine Q0 E_good rfl (v := V.bool (x76 != 0)) (.fn rfl) ?_
        refine SafeOps.nil ?_
        repeat first|apply sq|apply sk|with_reducible first|apply tn|apply bn
        refine ifG h (fun hc6228 h => ?_) (fun hc6228 h => ?_)
        ·skip
         refine Safe.condK rfl hc6228 ?_
         repeat first|apply sq|apply sk|with_reducible first|apply tn|apply bn
         refine Safe.region ?_
         refine Qf E_good ?_
         refine SafeOps.nil ?_
         repeat first|apply sq|apply sk|with_reducible first|apply tn|apply bn
         refine Safe.ret ?_
         repeat (first | with_reducible refine thenQ.r ?_ | with_reducible refine blockQ.r ?_)
         refine inQ.gen (vs := [V.bool false]) (v := V.bool false) (.inr rfl) rfl (.tmp (v := V.bool false) rfl .nil) rfl ?_
         refine Qf E_good ?_
         refine SafeOps.nil ?_
         repeat first|apply sq|apply sk|with_reducible first|apply tn|apply bn
         refine Safe.region ?_
         refine Qf E_good ?_
         refine Q0 E_good rfl (v := V.agg [I ((gt a56 v60).Kind), I ((gt a56 v60).Id), I ((gt a56 v60).A)]) (.load rfl rfl (.box rfl rfl) rfl) ?_
         refine Q0 E_good rfl (v := V.ptr [12, 23, 16, 6, 17, 1] 0 0) (.fn rfl) ?_
         refine Q0 E_good rfl (v := V.ptr [12, 23, 16, 6, 17, 1] 0 11) (.fn rfl) ?_
         refine SafeOps.store (z := Obj.box [I e72.Task.Id, I e72.Task.Tenant, I e72.Task.Prog, I e72.Task.Pc, I e72.Task.Unit, I e72.Task.Keeps.a0, I e72.Task.Keeps.a1, I e72.Task.Keeps.a2, I e72.Task.Keeps.a3, I e72.Task.State, I e72.Task.Ran, I ((gt a56 v60).Kind), I ((gt a56 v60).Id), I ((gt a56 v60).A)]) E_good rfl rfl rfl rfl rfl rfl rfl (.boxM (c := 14) rfl rfl (Nat.le_of_ble_eq_true rfl) rfl) ?_
         refine SafeOps.gets (τ := ⟨Tryd.f34.ntmps, [(9, V.bool false)], ([12, 7], Obj.box [V.ptr [12, 20] 0 0]) :: ([12, 20], Obj.box [V.sl 1 (rws (fun l => [V.sl 3 (rws api_Instr.cells l)]) a67), V.mapr [12, 18], V.ref [7000, 114, 12, 20, 2] 0 (rws (fun n => [I n]) v68).length]) :: ([12, 23, 16, 2], Obj.box [I ((gt a56 v60).Kind), I ((gt a56 v60).Id), I ((gt a56 v60).A)]) :: ([12, 23, 16, 6, 3], Obj.box [I ((gt a56 v60).Kind), I ((gt a56 v60).Id), I ((gt a56 v60).A)]) :: ([12, 23, 16, 6, 17, 1], Obj.box [I e72.Task.Id, I e72.Task.Tenant, I e72.Task.Prog, I e72.Task.Pc, I e72.Task.Unit, I e72.Task.Keeps.a0, I e72.Task.Keeps.a1, I e72.Task.Keeps.a2, I e72.Task.Keeps.a3, I e72.Task.State, I e72.Task.Ran, I ((gt a56 v60).Kind), I ((gt a56 v60).Id), I ((gt a56 v60).A)]) :: ([12, 23, 16, 6, 45, 8], Obj.box [I x73.Op, I x73.A, I x73.B]) :: ([12, 23, 16, 6, 45, 10], Obj.box [I x75.Id, I x75.Tenant, I x75.Prog, I x75.Pc, I x75.Unit, I x75.Keeps.a0, I x75.Keeps.a1, I x75.Keeps.a2, I x75.Keeps.a3, I x75.State, I x75.Ran]) :: ([7000, 114, 12, 20, 2], Obj.rows 1 (rws (fun n => [I n]) v68) false) :: (pmo [12, 18] (fun n : Int => I n) trace_seen.cells (some (mix ((gt a56 v60).Id) v69, [12, 23, 16, 6, 17, 1])) (mput v69 ((gt a56 v60).Id) e72)), [(Tryd.f33.ntmps, []), (Tryd.f32.ntmps, [(0, V.sl 3 (rws api_Event.cells a56)), (1, V.fn 33 [V.ptr [12, 7] 0 0]), (5, I v60), (7, I (a56.length : Int)), (8, I v60)]), (Tryd.f25.ntmps, [(1, V.sl 3 (rws api_Event.cells a56)), (7, V.ptr [12, 7] 0 0)]), (Tryd.f11.ntmps, [])], [12, 23, 16, 6]⟩) (.cov ⟨rfl, rfl, (ut upT_nil), (uo (uo (uo (uo (uo (uo (uo (uo (upOb_tl rfl (by repeat first | exact Tn.here | refine Tn.cons rfl ?_) rfl))))))))), (upOut_cons rfl upT_nil (upOut_cons rfl (ut (ut (ut (ut (ut upT_nil))))) (upOut_cons rfl (ut (ut upT_nil)) (upOut_cons rfl upT_nil upOut_nil)))), (cl3 rfl (wi_cons rfl (wi_cons rfl (wi_cons rfl (wi_cons rfl (wi_cons rfl (wi_cons rfl (wi_cons rfl (wi_cons rfl (wi_tl rfl (by repeat first | exact Tn.here | refine Tn.cons rfl ?_) (fun _ => rfl) (sob rfl)))))))))) rfl)⟩) ?_
         refine SafeOps.giveP (M := [12, 18]) (fun n : Int => I n) trace_seen.cells v69 ((gt a56 v60).Id) e72 (trace_seen.mk e72.Task (gt a56 v60)) [12, 23, 16, 6, 17, 1] rfl rfl rfl rfl rfl (fun _ _ _ => rfl) (by repeat first | exact Tg.here | apply Tg.drop rfl rfl | apply Tg.cons rfl rfl) rfl rfl ?_
         refine SafeOps.nil ?_
         repeat first|apply sq|apply sk|with_reducible first|apply tn|apply bn
         refine Safe.region ?_
         refine Qf E_good ?_
         refine Qf E_good ?_
         refine SafeOps.nil ?_
         repeat first|apply sq|apply sk|with_reducible first|apply tn|apply bn
         refine Safe.ret ?_
         repeat (first | with_reducible refine thenQ.r ?_ | with_reducible refine blockQ.r ?_)
         refine inQ.gen (vs := [V.bool false]) (v := V.bool false) (.inr rfl) rfl (.tmp (v := V.bool false) rfl .nil) rfl ?_
         exact SafeOps.got (HJ6077 (false, v68, mput v69 ((gt a56 v60).Id) (trace_seen.mk e72.Task (gt a56 v60))) h) (.cov ⟨rfl, rfl, (ut upT_nil), (uo (uo (uo (upOb_tl rfl (by repeat first | exact Tn.here | refine Tn.cons rfl ?_) rfl)))), (upOut_cons rfl (ut (ut (ut (ut (ut upT_nil))))) (upOut_cons rfl (ut (ut upT_nil)) (upOut_cons rfl upT_nil upOut_nil))), (cl3 rfl (wi_cons rfl (wi_cons rfl (wi_cons rfl (wi_tl rfl (by repeat first | exact Tn.here | refine Tn.cons rfl ?_) (fun _ => rfl) nob)))) rfl)⟩)
        ·skip
         refine Safe.condN rfl hc6228 ?_
         repeat first|apply sq|apply sk|with_reducible first|apply tn|apply bn
         refine Safe.region ?_
         refine Q0 E_good rfl (v := V.agg [I x75.Id, I x75.Tenant, I x75.Prog, I x75.Pc, I x75.Unit, I x75.Keeps.a0, I x75.Keeps.a1, I x75.Keeps.a2, I x75.Keeps.a3, I x75.State, I x75.Ran]) (.load rfl rfl (.box rfl rfl) rfl) ?_
         refine Qf E_good ?_
         refine bindG h ?_
         rintro ⟨x77, x78, x79⟩ he6232 h
         refine Q0 E_good rfl (v := V.tup [V.agg [I x77.Id, I x77.Tenant, I x77.Prog, I x77.Pc, I x77.Unit, I x77.Keeps.a0, I x77.Keeps.a1, I x77.Keeps.a2, I x77.Keeps.a3, I x77.State, I x77.Ran], V.agg [I x78.Kind, I x78.A, I x78.B], I x79]) (.callP rfl rfl (go_step_Do_sc x75 (gt a67 e72.Task.Prog) _ he6232) rfl) ?_
         refine Qf E_good ?_
         refine Qf E_good ?_
         refine Qf E_good ?_
         refine Qf E_good ?_
         refine SafeOps.store (z := Obj.box [I x77.Id, I x77.Tenant, I x77.Prog, I x77.Pc, I x77.Unit, I x77.Keeps.a0, I x77.Keeps.a1, I x77.Keeps.a2, I x77.Keeps.a3, I x77.State, I x77.Ran]) E_good rfl rfl rfl rfl rfl rfl rfl (.boxM (c := 11) rfl rfl (Nat.le_of_ble_eq_true rfl) rfl) ?_
         refine Qf E_good ?_
         refine SafeOps.nil ?_
         repeat first|apply sq|apply sk|with_reducible first|apply tn|apply bn
         refine Safe.region ?_
         refine Qf E_good ?_
         refine Q0 E_good rfl (v := V.bool (x79 != 0)) (.fn rfl) ?_
         refine SafeOps.nil ?_
         repeat first|apply sq|apply sk|with_reducible first|apply tn|apply bn
         refine ifG h (fun hc6233 h => ?_) (fun hc6233 h => ?_)
         ·skip
          refine Safe.condK rfl hc6233 ?_
          repeat first|apply sq|apply sk|with_reducible first|apply tn|apply bn
          refine Safe.region ?_
          refine Qf E_good ?_
          refine SafeOps.nil ?_
          repeat first|apply sq|apply sk|with_reducible first|apply tn|apply bn
          refine Safe.ret ?_
          repeat (first | with_reducible refine thenQ.r ?_ | with_reducible refine blockQ.r ?_)
          refine inQ.gen (vs := [V.bool false]) (v := V.bool false) (.inr rfl) rfl (.tmp (v := V.bool false) rfl .nil) rfl ?_
          refine Qf E_good ?_
          refine SafeOps.nil ?_
          repeat first|apply sq|apply sk|with_reducible first|apply tn|apply bn
          refine Safe.region ?_
          refine Qf E_good ?_
          refine Q0 E_good rfl (v := V.agg [I ((gt a56 v60).Kind), I ((gt a56 v60).Id), I ((gt a56 v60).A)]) (.load rfl rfl (.box rfl rfl) rfl) ?_
          refine Q0 E_good rfl (v := V.ptr [12, 23, 16, 6, 17, 1] 0 0) (.fn rfl) ?_
          refine Q0 E_good rfl (v := V.ptr [12, 23, 16, 6, 17, 1] 0 11) (.fn rfl) ?_
          refine SafeOps.store (z := Obj.box [I e72.Task.Id, I e72.Task.Tenant, I e72.Task.Prog, I e72.Task.Pc, I e72.Task.Unit, I e72.Task.Keeps.a0, I e72.Task.Keeps.a1, I e72.Task.Keeps.a2, I e72.Task.Keeps.a3, I e72.Task.State, I e72.Task.Ran, I ((gt a56 v60).Kind), I ((gt a56 v60).Id), I ((gt a56 v60).A)]) E_good rfl rfl rfl rfl rfl rfl rfl (.boxM (c := 14) rfl rfl (Nat.le_of_ble_eq_true rfl) rfl) ?_
          refine SafeOps.gets (τ := ⟨Tryd.f34.ntmps, [(9, V.bool false)], ([12, 7], Obj.box [V.ptr [12, 20] 0 0]) :: ([12, 20], Obj.box [V.sl 1 (rws (fun l => [V.sl 3 (rws api_Instr.cells l)]) a67), V.mapr [12, 18], V.ref [7000, 114, 12, 20, 2] 0 (rws (fun n => [I n]) v68).length]) :: ([12, 23, 16, 2], Obj.box [I ((gt a56 v60).Kind), I ((gt a56 v60).Id), I ((gt a56 v60).A)]) :: ([12, 23, 16, 6, 3], Obj.box [I ((gt a56 v60).Kind), I ((gt a56 v60).Id), I ((gt a56 v60).A)]) :: ([12, 23, 16, 6, 17, 1], Obj.box [I e72.Task.Id, I e72.Task.Tenant, I e72.Task.Prog, I e72.Task.Pc, I e72.Task.Unit, I e72.Task.Keeps.a0, I e72.Task.Keeps.a1, I e72.Task.Keeps.a2, I e72.Task.Keeps.a3, I e72.Task.State, I e72.Task.Ran, I ((gt a56 v60).Kind), I ((gt a56 v60).Id), I ((gt a56 v60).A)]) :: ([12, 23, 16, 6, 45, 8], Obj.box [I x73.Op, I x73.A, I x73.B]) :: ([12, 23, 16, 6, 45, 10], Obj.box [I x77.Id, I x77.Tenant, I x77.Prog, I x77.Pc, I x77.Unit, I x77.Keeps.a0, I x77.Keeps.a1, I x77.Keeps.a2, I x77.Keeps.a3, I x77.State, I x77.Ran]) :: ([7000, 114, 12, 20, 2], Obj.rows 1 (rws (fun n => [I n]) v68) false) :: (pmo [12, 18] (fun n : Int => I n) trace_seen.cells (some (mix ((gt a56 v60).Id) v69, [12, 23, 16, 6, 17, 1])) (mput v69 ((gt a56 v60).Id) e72)), [(Tryd.f33.ntmps, []), (Tryd.f32.ntmps, [(0, V.sl 3 (rws api_Event.cells a56)), (1, V.fn 33 [V.ptr [12, 7] 0 0]), (5, I v60), (7, I (a56.length : Int)), (8, I v60)]), (Tryd.f25.ntmps, [(1, V.sl 3 (rws api_Event.cells a56)), (7, V.ptr [12, 7] 0 0)]), (Tryd.f11.ntmps, [])], [12, 23, 16, 6]⟩) (.cov ⟨rfl, rfl, (ut upT_nil), (uo (uo (uo (uo (uo (uo (uo (uo (upOb_tl rfl (by repeat first | exact Tn.here | refine Tn.cons rfl ?_) rfl))))))))), (upOut_cons rfl upT_nil (upOut_cons rfl (ut (ut (ut (ut (ut upT_nil))))) (upOut_cons rfl (ut (ut upT_nil)) (upOut_cons rfl upT_nil upOut_nil)))), (cl3 rfl (wi_cons rfl (wi_cons rfl (wi_cons rfl (wi_cons rfl (wi_cons rfl (wi_cons rfl (wi_cons rfl (wi_cons rfl (wi_tl rfl (by repeat first | exact Tn.here | refine Tn.cons rfl ?_) (fun _ => rfl) (sob rfl)))))))))) rfl)⟩) ?_
          refine SafeOps.giveP (M := [12, 18]) (fun n : Int => I n) trace_seen.cells v69 ((gt a56 v60).Id) e72 (trace_seen.mk e72.Task (gt a56 v60)) [12, 23, 16, 6, 17, 1] rfl rfl rfl rfl rfl (fun _ _ _ => rfl) (by repeat first | exact Tg.here | apply Tg.drop rfl rfl | apply Tg.cons rfl rfl) rfl rfl ?_
          refine SafeOps.nil ?_
          repeat first|apply sq|apply sk|with_reducible first|apply tn|apply bn
          refine Safe.region ?_
          refine Qf E_good ?_
          refine Qf E_good ?_
          refine SafeOps.nil ?_
          repeat first|apply sq|apply sk|with_reducible first|apply tn|apply bn
          refine Safe.ret ?_
          repeat (first | with_reducible refine thenQ.r ?_ | with_reducible refine blockQ.r ?_)
          refine inQ.gen (vs := [V.bool false]) (v := V.bool false) (.inr rfl) rfl (.tmp (v := V.bool false) rfl .nil) rfl ?_
          exact SafeOps.got (HJ6077 (false, v68, mput v69 ((gt a56 v60).Id) (trace_seen.mk e72.Task (gt a56 v60))) h) (.cov ⟨rfl, rfl, (ut upT_nil), (uo (uo (uo (upOb_tl rfl (by repeat first | exact Tn.here | refine Tn.cons rfl ?_) rfl)))), (upOut_cons rfl (ut (ut (ut (ut (ut upT_nil))))) (upOut_cons rfl (ut (ut upT_nil)) (upOut_cons rfl upT_nil upOut_nil))), (cl3 rfl (wi_cons rfl (wi_cons rfl (wi_cons rfl (wi_tl rfl (by repeat first | exact Tn.here | refine Tn.cons rfl ?_) (fun _ => rfl) nob)))) rfl)⟩)
         ·skip
          refine Safe.condN rfl hc6233 ?_
          repeat first|apply sq|apply sk|with_reducible first|apply tn|apply bn
          refine Safe.region ?_
          refine Qf E_good ?_
          refine Q0 E_good rfl (v := V.agg [I x77.Id, I x77.Tenant, I x77.Prog, I x77.Pc, I x77.Unit, I x77.Keeps.a0, I x77.Keeps.a1, I x77.Keeps.a2, I x77.Keeps.a3, I x77.State, I x77.Ran]) (.load rfl rfl (.box rfl rfl) rfl) ?_
          refine bindG h ?_
          rintro ⟨x80, x81⟩ he6236 h
          refine Q0 E_good rfl (v := V.tup [V.agg [I x80.Id, I x80.Tenant, I x80.Prog, I x80.Pc, I x80.Unit, I x80.Keeps.a0, I x80.Keeps.a1, I x80.Keeps.a2, I x80.Keeps.a3, I x80.State, I x80.Ran], I x81]) (.callP rfl rfl (go_life_Move_sc x77 1 _ he6236) rfl) ?_
          refine Qf E_good ?_
          refine Qf E_good ?_
          refine Qf E_good ?_
          refine Q0 E_good rfl (v := V.ptr [12, 23, 16, 6, 17, 1] 0 0) (.fn rfl) ?_
          refine Q0 E_good rfl (v := V.ptr [12, 23, 16, 6, 17, 1] 0 0) (.fn rfl) ?_
          refine SafeOps.store (z := Obj.box [I x80.Id, I x80.Tenant, I x80.Prog, I x80.Pc, I x80.Unit, I x80.Keeps.a0, I x80.Keeps.a1, I x80.Keeps.a2, I x80.Keeps.a3, I x80.State, I x80.Ran, I e72.last.Kind, I e72.last.Id, I e72.last.A]) E_good rfl rfl rfl rfl rfl rfl rfl (.boxM (c := 14) rfl rfl (Nat.le_of_ble_eq_true rfl) rfl) ?_
          refine Qf E_good ?_
          refine SafeOps.nil ?_
          repeat first|apply sq|apply sk|with_reducible first|apply tn|apply bn
          refine Safe.region ?_
          refine Qf E_good ?_
          refine Q0 E_good rfl (v := V.bool (x81 == 0)) (.fn rfl) ?_
          refine Qf E_good ?_
          refine SafeOps.nil ?_
          repeat first|apply sq|apply sk|with_reducible first|apply tn|apply bn
          refine Safe.ret ?_
          repeat (first | with_reducible refine thenQ.r ?_ | with_reducible refine blockQ.r ?_)
          refine inQ.gen (vs := [V.bool (x81 == 0)]) (v := V.bool (x81 == 0)) (.inr rfl) rfl (.tmp (v := V.bool (x81 == 0)) rfl .nil) rfl ?_
          refine Qf E_good ?_
          refine SafeOps.nil ?_
          repeat first|apply sq|apply sk|with_reducible first|apply tn|apply bn
          refine Safe.region ?_
          refine Qf E_good ?_
          refine Q0 E_good rfl (v := V.agg [I ((gt a56 v60).Kind), I ((gt a56 v60).Id), I ((gt a56 v60).A)]) (.load rfl rfl (.box rfl rfl) rfl) ?_
          refine Q0 E_good rfl (v := V.ptr [12, 23, 16, 6, 17, 1] 0 0) (.fn rfl) ?_
          refine Q0 E_good rfl (v := V.ptr [12, 23, 16, 6, 17, 1] 0 11) (.fn rfl) ?_
          refine SafeOps.store (z := Obj.box [I x80.Id, I x80.Tenant, I x80.Prog, I x80.Pc, I x80.Unit, I x80.Keeps.a0, I x80.Keeps.a1, I x80.Keeps.a2, I x80.Keeps.a3, I x80.State, I x80.Ran, I ((gt a56 v60).Kind), I ((gt a56 v60).Id), I ((gt a56 v60).A)]) E_good rfl rfl rfl rfl rfl rfl rfl (.boxM (c := 14) rfl rfl (Nat.le_of_ble_eq_true rfl) rfl) ?_
          refine SafeOps.gets (τ := ⟨Tryd.f34.ntmps, [(9, V.bool (x81 == 0))], ([12, 7], Obj.box [V.ptr [12, 20] 0 0]) :: ([12, 20], Obj.box [V.sl 1 (rws (fun l => [V.sl 3 (rws api_Instr.cells l)]) a67), V.mapr [12, 18], V.ref [7000, 114, 12, 20, 2] 0 (rws (fun n => [I n]) v68).length]) :: ([12, 23, 16, 2], Obj.box [I ((gt a56 v60).Kind), I ((gt a56 v60).Id), I ((gt a56 v60).A)]) :: ([12, 23, 16, 6, 3], Obj.box [I ((gt a56 v60).Kind), I ((gt a56 v60).Id), I ((gt a56 v60).A)]) :: ([12, 23, 16, 6, 17, 1], Obj.box [I x80.Id, I x80.Tenant, I x80.Prog, I x80.Pc, I x80.Unit, I x80.Keeps.a0, I x80.Keeps.a1, I x80.Keeps.a2, I x80.Keeps.a3, I x80.State, I x80.Ran, I ((gt a56 v60).Kind), I ((gt a56 v60).Id), I ((gt a56 v60).A)]) :: ([12, 23, 16, 6, 45, 8], Obj.box [I x73.Op, I x73.A, I x73.B]) :: ([12, 23, 16, 6, 45, 10], Obj.box [I x77.Id, I x77.Tenant, I x77.Prog, I x77.Pc, I x77.Unit, I x77.Keeps.a0, I x77.Keeps.a1, I x77.Keeps.a2, I x77.Keeps.a3, I x77.State, I x77.Ran]) :: ([7000, 114, 12, 20, 2], Obj.rows 1 (rws (fun n => [I n]) v68) false) :: (pmo [12, 18] (fun n : Int => I n) trace_seen.cells (some (mix ((gt a56 v60).Id) v69, [12, 23, 16, 6, 17, 1])) (mput v69 ((gt a56 v60).Id) e72)), [(Tryd.f33.ntmps, []), (Tryd.f32.ntmps, [(0, V.sl 3 (rws api_Event.cells a56)), (1, V.fn 33 [V.ptr [12, 7] 0 0]), (5, I v60), (7, I (a56.length : Int)), (8, I v60)]), (Tryd.f25.ntmps, [(1, V.sl 3 (rws api_Event.cells a56)), (7, V.ptr [12, 7] 0 0)]), (Tryd.f11.ntmps, [])], [12, 23, 16, 6]⟩) (.cov ⟨rfl, rfl, (ut upT_nil), (uo (uo (uo (uo (uo (uo (uo (uo (upOb_tl rfl (by repeat first | exact Tn.here | refine Tn.cons rfl ?_) rfl))))))))), (upOut_cons rfl upT_nil (upOut_cons rfl (ut (ut (ut (ut (ut upT_nil))))) (upOut_cons rfl (ut (ut upT_nil)) (upOut_cons rfl upT_nil upOut_nil)))), (cl3 rfl (wi_cons rfl (wi_cons rfl (wi_cons rfl (wi_cons rfl (wi_cons rfl (wi_cons rfl (wi_cons rfl (wi_cons rfl (wi_tl rfl (by repeat first | exact Tn.here | refine Tn.cons rfl ?_) (fun _ => rfl) (sob rfl)))))))))) rfl)⟩) ?_
          refine SafeOps.giveP (M := [12, 18]) (fun n : Int => I n) trace_seen.cells v69 ((gt a56 v60).Id) e72 (trace_seen.mk x80 (gt a56 v60)) [12, 23, 16, 6, 17, 1] rfl rfl rfl rfl rfl (fun _ _ _ => rfl) (by repeat first | exact Tg.here | apply Tg.drop rfl rfl | apply Tg.cons rfl rfl) rfl rfl ?_
          refine SafeOps.nil ?_
          repeat first|apply sq|apply sk|with_reducible first|apply tn|apply bn
          refine Safe.region ?_
          refine Qf E_good ?_
          refine Qf E_good ?_
          refine SafeOps.nil ?_
          repeat first|apply sq|apply sk|with_reducible first|apply tn|apply bn
          refine Safe.ret ?_
          repeat (first | with_reducible refine thenQ.r ?_ | with_reducible refine blockQ.r ?_)
          refine inQ.gen (vs := [V.bool (x81 == 0)]) (v := V.bool (x81 == 0)) (.inr rfl) rfl (.tmp (v := V.bool (x81 == 0)) rfl .nil) rfl ?_
          exact SafeOps.got (HJ6077 ((x81 == 0), v68, mput v69 ((gt a56 v60).Id) (trace_seen.mk x80 (gt a56 v60))) h) (.cov ⟨rfl, rfl, (ut upT_nil), (uo (uo (uo (upOb_tl rfl (by repeat first | exact Tn.here | refine Tn.cons rfl ?_) rfl)))), (upOut_cons rfl (ut (ut (ut (ut (ut upT_nil))))) (upOut_cons rfl (ut (ut upT_nil)) (upOut_cons rfl upT_nil upOut_nil))), (cl3 rfl (wi_cons rfl (wi_cons rfl (wi_cons rfl (wi_tl rfl (by repeat first | exact Tn.here | refine Tn.cons rfl ?_) (fun _ => rfl) nob)))) rfl)⟩)
      ·skip
       refine Safe.condN rfl hc6182 ?_
       repeat first|apply sq|apply sk|with_reducible first|apply tn|apply bn
       refine Safe.region ?_
       refine Q0 E_good rfl (v := V.bool (((gt a56 v60).Kind) == 3)) (.fn rfl) ?_
       refine Qf E_good ?_
       refine SafeOps.nil ?_
       repeat first|apply sq|apply sk|with_reducible first|apply tn|apply bn
       refine ifG h (fun hc6237 h => ?_) (fun hc6237 h => ?_)
       ·skip
        refine Safe.condK rfl hc6237 ?_
        repeat first|apply sq|apply sk|with_reducible first|apply tn|apply bn
        refine Safe.regionD (n := 21) [] [] E_good mixed rfl ?_
        refine DT 0 [] rfl rfl (fun _ hz => (.fn rfl)) ?_
        refine DT 1 [] rfl rfl (fun _ hz => (.fn rfl)) ?_
        refine ifG h (fun hc6238 h => ?_) (fun hc6238 h => ?_)
        ·skip
         refine DAny.take (i := 2) rfl (by kernel_rfl) [] (by kernel_rfl) (by kernel_rfl) (by kernel_rfl) (congrArg some hc6238) rfl rfl (fun _ hz => (.fn rfl)) ?_
         refine DT 3 [] rfl rfl (v := V.bool (e72.last.Kind == 2)) (fun _ hz => (.pickK rfl hc6238 rfl)) ?_
         refine DT 4 [] rfl rfl (fun _ hz => (.fn rfl)) ?_
         refine ifG h (fun hc6239 h => ?_) (fun hc6239 h => ?_)
         ·skip
          refine DAny.take (i := 5) rfl (by kernel_rfl) [] (by kernel_rfl) (by kernel_rfl) (by kernel_rfl) (congrArg some hc6239) rfl rfl (v := V.ptr [12, 23, 16, 6, 3] 0 2) (fun _ hz => (.fn rfl)) ?_
          refine DAny.take (i := 6) rfl (by kernel_rfl) [] (by kernel_rfl) (by kernel_rfl) (by kernel_rfl) (congrArg some hc6239) rfl rfl (v := I ((gt a56 v60).A)) (fun _ hz => (.load rfl rfl (.box (hz _ _ rfl rfl) rfl) rfl)) ?_
          refine DAny.take (i := 7) rfl (by kernel_rfl) [] (by kernel_rfl) (by kernel_rfl) (by kernel_rfl) (congrArg some hc6239) rfl rfl (v := V.bool (((gt a56 v60).A) != 0)) (fun _ hz => (.fn rfl)) ?_
          refine DT 8 [] rfl rfl (v := V.bool (((gt a56 v60).A) != 0)) (fun _ hz => (.pickK rfl hc6239 rfl)) ?_
          refine DT 9 [] rfl rfl (fun _ hz => (.fn rfl)) ?_
          refine ifG h (fun hc6240 h => ?_) (fun hc6240 h => ?_)
          ·skip
           refine DAny.take (i := 10) rfl (by kernel_rfl) [] (by kernel_rfl) (by kernel_rfl) (by kernel_rfl) (congrArg some hc6240) rfl rfl (v := V.ptr [12, 23, 16, 6, 3] 0 2) (fun _ hz => (.fn rfl)) ?_
           refine DAny.take (i := 11) rfl (by kernel_rfl) [] (by kernel_rfl) (by kernel_rfl) (by kernel_rfl) (congrArg some hc6240) rfl rfl (v := I ((gt a56 v60).A)) (fun _ hz => (.load rfl rfl (.box (hz _ _ rfl rfl) rfl) rfl)) ?_
           refine DAny.take (i := 12) rfl (by kernel_rfl) [] (by kernel_rfl) (by kernel_rfl) (by kernel_rfl) (congrArg some hc6240) rfl rfl (fun _ hz => (.fn rfl)) ?_
           refine DAny.take (i := 13) rfl (by kernel_rfl) [] (by kernel_rfl) (by kernel_rfl) (by kernel_rfl) (congrArg some hc6240) rfl rfl (v := V.ptr [12, 23, 16, 6, 17, 1] 0 0) (fun _ hz => (.fn rfl)) ?_
           refine DAny.take (i := 14) rfl (by kernel_rfl) [] (by kernel_rfl) (by kernel_rfl) (by kernel_rfl) (congrArg some hc6240) rfl rfl (v := V.ptr [12, 23, 16, 6, 17, 1] 0 11) (fun _ hz => (.fn rfl)) ?_
           refine DAny.take (i := 15) rfl (by kernel_rfl) [] (by kernel_rfl) (by kernel_rfl) (by kernel_rfl) (congrArg some hc6240) rfl rfl (v := V.ptr [12, 23, 16, 6, 17, 1] 0 13) (fun _ hz => (.fn rfl)) ?_
           refine DAny.take (i := 16) rfl (by kernel_rfl) [] (by kernel_rfl) (by kernel_rfl) (by kernel_rfl) (congrArg some hc6240) rfl rfl (v := I e72.last.A) (fun _ hz => (.load rfl rfl (.box (hz _ _ rfl rfl) rfl) rfl)) ?_
           refine DAny.take (i := 17) rfl (by kernel_rfl) [] (by kernel_rfl) (by kernel_rfl) (by kernel_rfl) (congrArg some hc6240) rfl rfl (v := I (go_trace_Held e72.last.A)) (fun _ hz => (.callP rfl rfl (go_trace_Held_sc e72.last.A _ rfl) rfl)) ?_
           refine DAny.take (i := 18) rfl (by kernel_rfl) [] (by kernel_rfl) (by kernel_rfl) (by kernel_rfl) (congrArg some hc6240) rfl rfl (v := V.bool (((gt a56 v60).A) == (go_trace_Held e72.last.A))) (fun _ hz => (.fn rfl)) ?_
           refine DT 19 [] rfl rfl (v := V.bool (((gt a56 v60).A) == (go_trace_Held e72.last.A))) (fun _ hz => (.pickK rfl hc6240 rfl)) ?_
           refine DT 20 [] rfl rfl (fun _ hz => (.fn rfl)) ?_
           refine DAny.nil (by kernel_rfl) ?_
           repeat first|apply sq|apply sk|with_reducible first|apply tn|apply bn
           refine Safe.region ?_
           refine Qf E_good ?_
           refine SafeOps.nil ?_
           repeat first|apply sq|apply sk|with_reducible first|apply tn|apply bn
           refine ifG h (fun hc6241 h => ?_) (fun hc6241 h => ?_)
           ·skip
            refine Safe.condK rfl hc6241 ?_
            repeat first|apply sq|apply sk|with_reducible first|apply tn|apply bn
            refine Safe.region ?_
            refine Qf E_good ?_
            refine Q0 E_good rfl (v := V.ptr [12, 23, 16, 6, 3] 0 2) (.fn rfl) ?_
            refine Q0 E_good rfl (v := I ((gt a56 v60).A)) (.load rfl rfl (.box rfl rfl) rfl) ?_
            refine Q0 E_good rfl (v := V.ptr [12, 23, 16, 6, 17, 1] 0 0) (.fn rfl) ?_
            refine Q0 E_good rfl (v := V.ptr [12, 23, 16, 6, 17, 1] 0 0) (.fn rfl) ?_
            refine Q0 E_good rfl (v := V.ptr [12, 23, 16, 6, 17, 1] 0 9) (.fn rfl) ?_
            refine SafeOps.store (z := Obj.box [I e72.Task.Id, I e72.Task.Tenant, I e72.Task.Prog, I e72.Task.Pc, I e72.Task.Unit, I e72.Task.Keeps.a0, I e72.Task.Keeps.a1, I e72.Task.Keeps.a2, I e72.Task.Keeps.a3, I ((gt a56 v60).A), I e72.Task.Ran, I e72.last.Kind, I e72.last.Id, I e72.last.A]) E_good rfl rfl rfl rfl rfl rfl rfl (.boxM (c := 14) rfl rfl (Nat.le_of_ble_eq_true rfl) rfl) ?_
            refine SafeOps.nil ?_
            repeat first|apply sq|apply sk|with_reducible first|apply tn|apply bn
            refine Safe.region ?_
            refine Qf E_good ?_
            refine Q0 E_good rfl (v := V.agg [I ((gt a56 v60).Kind), I ((gt a56 v60).Id), I ((gt a56 v60).A)]) (.load rfl rfl (.box rfl rfl) rfl) ?_
            refine Q0 E_good rfl (v := V.ptr [12, 23, 16, 6, 17, 1] 0 0) (.fn rfl) ?_
            refine Q0 E_good rfl (v := V.ptr [12, 23, 16, 6, 17, 1] 0 11) (.fn rfl) ?_
            refine SafeOps.store (z := Obj.box [I e72.Task.Id, I e72.Task.Tenant, I e72.Task.Prog, I e72.Task.Pc, I e72.Task.Unit, I e72.Task.Keeps.a0, I e72.Task.Keeps.a1, I e72.Task.Keeps.a2, I e72.Task.Keeps.a3, I ((gt a56 v60).A), I e72.Task.Ran, I ((gt a56 v60).Kind), I ((gt a56 v60).Id), I ((gt a56 v60).A)]) E_good rfl rfl rfl rfl rfl rfl rfl (.boxM (c := 14) rfl rfl (Nat.le_of_ble_eq_true rfl) rfl) ?_
            refine SafeOps.gets (τ := ⟨Tryd.f34.ntmps, [(9, V.bool (((gt a56 v60).A) == (go_trace_Held e72.last.A)))], ([12, 7], Obj.box [V.ptr [12, 20] 0 0]) :: ([12, 20], Obj.box [V.sl 1 (rws (fun l => [V.sl 3 (rws api_Instr.cells l)]) a67), V.mapr [12, 18], V.ref [7000, 114, 12, 20, 2] 0 (rws (fun n => [I n]) v68).length]) :: ([12, 23, 16, 2], Obj.box [I ((gt a56 v60).Kind), I ((gt a56 v60).Id), I ((gt a56 v60).A)]) :: ([12, 23, 16, 6, 3], Obj.box [I ((gt a56 v60).Kind), I ((gt a56 v60).Id), I ((gt a56 v60).A)]) :: ([12, 23, 16, 6, 17, 1], Obj.box [I e72.Task.Id, I e72.Task.Tenant, I e72.Task.Prog, I e72.Task.Pc, I e72.Task.Unit, I e72.Task.Keeps.a0, I e72.Task.Keeps.a1, I e72.Task.Keeps.a2, I e72.Task.Keeps.a3, I ((gt a56 v60).A), I e72.Task.Ran, I ((gt a56 v60).Kind), I ((gt a56 v60).Id), I ((gt a56 v60).A)]) :: ([7000, 114, 12, 20, 2], Obj.rows 1 (rws (fun n => [I n]) v68) false) :: (pmo [12, 18] (fun n : Int => I n) trace_seen.cells (some (mix ((gt a56 v60).Id) v69, [12, 23, 16, 6, 17, 1])) (mput v69 ((gt a56 v60).Id) e72)), [(Tryd.f33.ntmps, []), (Tryd.f32.ntmps, [(0, V.sl 3 (rws api_Event.cells a56)), (1, V.fn 33 [V.ptr [12, 7] 0 0]), (5, I v60), (7, I (a56.length : Int)), (8, I v60)]), (Tryd.f25.ntmps, [(1, V.sl 3 (rws api_Event.cells a56)), (7, V.ptr [12, 7] 0 0)]), (Tryd.f11.ntmps, [])], [12, 23, 16, 6]⟩) (.cov ⟨rfl, rfl, (ut upT_nil), (uo (uo (uo (uo (uo (uo (upOb_tl rfl (by repeat first | exact Tn.here | refine Tn.cons rfl ?_) rfl))))))), (upOut_cons rfl upT_nil (upOut_cons rfl (ut (ut (ut (ut (ut upT_nil))))) (upOut_cons rfl (ut (ut upT_nil)) (upOut_cons rfl upT_nil upOut_nil)))), (cl3 rfl (wi_cons rfl (wi_cons rfl (wi_cons rfl (wi_cons rfl (wi_cons rfl (wi_cons rfl (wi_tl rfl (by repeat first | exact Tn.here | refine Tn.cons rfl ?_) (fun _ => rfl) (sob rfl)))))))) rfl)⟩) ?_
            refine SafeOps.giveP (M := [12, 18]) (fun n : Int => I n) trace_seen.cells v69 ((gt a56 v60).Id) e72 (trace_seen.mk (api_Task.mk e72.Task.Id e72.Task.Tenant e72.Task.Prog e72.Task.Pc e72.Task.Unit e72.Task.Keeps ((gt a56 v60).A) e72.Task.Ran) (gt a56 v60)) [12, 23, 16, 6, 17, 1] rfl rfl rfl rfl rfl (fun _ _ _ => rfl) (by repeat first | exact Tg.here | apply Tg.drop rfl rfl | apply Tg.cons rfl rfl) rfl rfl ?_
            refine SafeOps.nil ?_
            repeat first|apply sq|apply sk|with_reducible first|apply tn|apply bn
            refine Safe.region ?_
            refine Qf E_good ?_
            refine Qf E_good ?_
            refine SafeOps.nil ?_
            repeat first|apply sq|apply sk|with_reducible first|apply tn|apply bn
            refine Safe.ret ?_
            repeat (first | with_reducible refine thenQ.r ?_ | with_reducible refine blockQ.r ?_)
            refine inQ.gen (vs := [V.bool (((gt a56 v60).A) == (go_trace_Held e72.last.A))]) (v := V.bool (((gt a56 v60).A) == (go_trace_Held e72.last.A))) (.inr rfl) rfl (.tmp (v := V.bool (((gt a56 v60).A) == (go_trace_Held e72.last.A))) rfl .nil) rfl ?_
            exact SafeOps.got (HJ6077 ((((gt a56 v60).A) == (go_trace_Held e72.last.A)), v68, mput v69 ((gt a56 v60).Id) (trace_seen.mk (api_Task.mk e72.Task.Id e72.Task.Tenant e72.Task.Prog e72.Task.Pc e72.Task.Unit e72.Task.Keeps ((gt a56 v60).A) e72.Task.Ran) (gt a56 v60))) h) (.cov ⟨rfl, rfl, (ut upT_nil), (uo (uo (uo (upOb_tl rfl (by repeat first | exact Tn.here | refine Tn.cons rfl ?_) rfl)))), (upOut_cons rfl (ut (ut (ut (ut (ut upT_nil))))) (upOut_cons rfl (ut (ut upT_nil)) (upOut_cons rfl upT_nil upOut_nil))), (cl3 rfl (wi_cons rfl (wi_cons rfl (wi_cons rfl (wi_tl rfl (by repeat first | exact Tn.here | refine Tn.cons rfl ?_) (fun _ => rfl) nob)))) rfl)⟩)
           ·skip
            refine Safe.condN rfl hc6241 ?_
            repeat first|apply sq|apply sk|with_reducible first|apply tn|apply bn
            refine Safe.region ?_
            refine Qf E_good ?_
            refine Q0 E_good rfl (v := V.agg [I ((gt a56 v60).Kind), I ((gt a56 v60).Id), I ((gt a56 v60).A)]) (.load rfl rfl (.box rfl rfl) rfl) ?_
            refine Q0 E_good rfl (v := V.ptr [12, 23, 16, 6, 17, 1] 0 0) (.fn rfl) ?_
            refine Q0 E_good rfl (v := V.ptr [12, 23, 16, 6, 17, 1] 0 11) (.fn rfl) ?_
            refine SafeOps.store (z := Obj.box [I e72.Task.Id, I e72.Task.Tenant, I e72.Task.Prog, I e72.Task.Pc, I e72.Task.Unit, I e72.Task.Keeps.a0, I e72.Task.Keeps.a1, I e72.Task.Keeps.a2, I e72.Task.Keeps.a3, I e72.Task.State, I e72.Task.Ran, I ((gt a56 v60).Kind), I ((gt a56 v60).Id), I ((gt a56 v60).A)]) E_good rfl rfl rfl rfl rfl rfl rfl (.boxM (c := 14) rfl rfl (Nat.le_of_ble_eq_true rfl) rfl) ?_
            refine SafeOps.gets (τ := ⟨Tryd.f34.ntmps, [(9, V.bool (((gt a56 v60).A) == (go_trace_Held e72.last.A)))], ([12, 7], Obj.box [V.ptr [12, 20] 0 0]) :: ([12, 20], Obj.box [V.sl 1 (rws (fun l => [V.sl 3 (rws api_Instr.cells l)]) a67), V.mapr [12, 18], V.ref [7000, 114, 12, 20, 2] 0 (rws (fun n => [I n]) v68).length]) :: ([12, 23, 16, 2], Obj.box [I ((gt a56 v60).Kind), I ((gt a56 v60).Id), I ((gt a56 v60).A)]) :: ([12, 23, 16, 6, 3], Obj.box [I ((gt a56 v60).Kind), I ((gt a56 v60).Id), I ((gt a56 v60).A)]) :: ([12, 23, 16, 6, 17, 1], Obj.box [I e72.Task.Id, I e72.Task.Tenant, I e72.Task.Prog, I e72.Task.Pc, I e72.Task.Unit, I e72.Task.Keeps.a0, I e72.Task.Keeps.a1, I e72.Task.Keeps.a2, I e72.Task.Keeps.a3, I e72.Task.State, I e72.Task.Ran, I ((gt a56 v60).Kind), I ((gt a56 v60).Id), I ((gt a56 v60).A)]) :: ([7000, 114, 12, 20, 2], Obj.rows 1 (rws (fun n => [I n]) v68) false) :: (pmo [12, 18] (fun n : Int => I n) trace_seen.cells (some (mix ((gt a56 v60).Id) v69, [12, 23, 16, 6, 17, 1])) (mput v69 ((gt a56 v60).Id) e72)), [(Tryd.f33.ntmps, []), (Tryd.f32.ntmps, [(0, V.sl 3 (rws api_Event.cells a56)), (1, V.fn 33 [V.ptr [12, 7] 0 0]), (5, I v60), (7, I (a56.length : Int)), (8, I v60)]), (Tryd.f25.ntmps, [(1, V.sl 3 (rws api_Event.cells a56)), (7, V.ptr [12, 7] 0 0)]), (Tryd.f11.ntmps, [])], [12, 23, 16, 6]⟩) (.cov ⟨rfl, rfl, (ut upT_nil), (uo (uo (uo (uo (uo (uo (upOb_tl rfl (by repeat first | exact Tn.here | refine Tn.cons rfl ?_) rfl))))))), (upOut_cons rfl upT_nil (upOut_cons rfl (ut (ut (ut (ut (ut upT_nil))))) (upOut_cons rfl (ut (ut upT_nil)) (upOut_cons rfl upT_nil upOut_nil)))), (cl3 rfl (wi_cons rfl (wi_cons rfl (wi_cons rfl (wi_cons rfl (wi_cons rfl (wi_cons rfl (wi_tl rfl (by repeat first | exact Tn.here | refine Tn.cons rfl ?_) (fun _ => rfl) (sob rfl)))))))) rfl)⟩) ?_
            refine SafeOps.giveP (M := [12, 18]) (fun n : Int => I n) trace_seen.cells v69 ((gt a56 v60).Id) e72 (trace_seen.mk e72.Task (gt a56 v60)) [12, 23, 16, 6, 17, 1] rfl rfl rfl rfl rfl (fun _ _ _ => rfl) (by repeat first | exact Tg.here | apply Tg.drop rfl rfl | apply Tg.cons rfl rfl) rfl rfl ?_
            refine SafeOps.nil ?_
            repeat first|apply sq|apply sk|with_reducible first|apply tn|apply bn
            refine Safe.region ?_
            refine Qf E_good ?_
            refine Qf E_good ?_
            refine SafeOps.nil ?_
            repeat first|apply sq|apply sk|with_reducible first|apply tn|apply bn
            refine Safe.ret ?_
            repeat (first | with_reducible refine thenQ.r ?_ | with_reducible refine blockQ.r ?_)
            refine inQ.gen (vs := [V.bool (((gt a56 v60).A) == (go_trace_Held e72.last.A))]) (v := V.bool (((gt a56 v60).A) == (go_trace_Held e72.last.A))) (.inr rfl) rfl (.tmp (v := V.bool (((gt a56 v60).A) == (go_trace_Held e72.last.A))) rfl .nil) rfl ?_
            exact SafeOps.got (HJ6077 ((((gt a56 v60).A) == (go_trace_Held e72.last.A)), v68, mput v69 ((gt a56 v60).Id) (trace_seen.mk e72.Task (gt a56 v60))) h) (.cov ⟨rfl, rfl, (ut upT_nil), (uo (uo (uo (upOb_tl rfl (by repeat first | exact Tn.here | refine Tn.cons rfl ?_) rfl)))), (upOut_cons rfl (ut (ut (ut (ut (ut upT_nil))))) (upOut_cons rfl (ut (ut upT_nil)) (upOut_cons rfl upT_nil upOut_nil))), (cl3 rfl (wi_cons rfl (wi_cons rfl (wi_cons rfl (wi_tl rfl (by repeat first | exact Tn.here | refine Tn.cons rfl ?_) (fun _ => rfl) nob)))) rfl)⟩)
          ·skip
           refine DAny.takeSkip (i := 10) rfl (by kernel_rfl) [] (by kernel_rfl) (by kernel_rfl) (by kernel_rfl) (congrArg some hc6240) rfl rfl ?_
           refine DAny.takeSkip (i := 11) rfl (by kernel_rfl) [] (by kernel_rfl) (by kernel_rfl) (by kernel_rfl) (congrArg some hc6240) rfl rfl ?_
           refine DAny.takeSkip (i := 12) rfl (by kernel_rfl) [] (by kernel_rfl) (by kernel_rfl) (by kernel_rfl) (congrArg some hc6240) rfl rfl ?_
           refine DAny.takeSkip (i := 13) rfl (by kernel_rfl) [] (by kernel_rfl) (by kernel_rfl) (by kernel_rfl) (congrArg some hc6240) rfl rfl ?_
           refine DAny.takeSkip (i := 14) rfl (by kernel_rfl) [] (by kernel_rfl) (by kernel_rfl) (by kernel_rfl) (congrArg some hc6240) rfl rfl ?_
           refine DAny.takeSkip (i := 15) rfl (by kernel_rfl) [] (by kernel_rfl) (by kernel_rfl) (by kernel_rfl) (congrArg some hc6240) rfl rfl ?_
           refine DAny.takeSkip (i := 16) rfl (by kernel_rfl) [] (by kernel_rfl) (by kernel_rfl) (by kernel_rfl) (congrArg some hc6240) rfl rfl ?_
           refine DAny.takeSkip (i := 17) rfl (by kernel_rfl) [] (by kernel_rfl) (by kernel_rfl) (by kernel_rfl) (congrArg some hc6240) rfl rfl ?_
           refine DAny.takeSkip (i := 18) rfl (by kernel_rfl) [] (by kernel_rfl) (by kernel_rfl) (by kernel_rfl) (congrArg some hc6240) rfl rfl ?_
           refine DT 19 [] rfl rfl (v := V.bool false) (fun _ hz => (.pickK rfl hc6240 rfl)) ?_
           refine DT 20 [] rfl rfl (fun _ hz => (.fn rfl)) ?_
           refine DAny.nil (by kernel_rfl) ?_
           repeat first|apply sq|apply sk|with_reducible first|apply tn|apply bn
           refine Safe.region ?_
           refine Qf E_good ?_
           refine SafeOps.nil ?_
           repeat first|apply sq|apply sk|with_reducible first|apply tn|apply bn
           refine Safe.condN rfl rfl ?_
           repeat first|apply sq|apply sk|with_reducible first|apply tn|apply bn
           refine Safe.region ?_
           refine Qf E_good ?_
           refine Q0 E_good rfl (v := V.agg [I ((gt a56 v60).Kind), I ((gt a56 v60).Id), I ((gt a56 v60).A)]) (.load rfl rfl (.box rfl rfl) rfl) ?_
           refine Q0 E_good rfl (v := V.ptr [12, 23, 16, 6, 17, 1] 0 0) (.fn rfl) ?_
           refine Q0 E_good rfl (v := V.ptr [12, 23, 16, 6, 17, 1] 0 11) (.fn rfl) ?_
           refine SafeOps.store (z := Obj.box [I e72.Task.Id, I e72.Task.Tenant, I e72.Task.Prog, I e72.Task.Pc, I e72.Task.Unit, I e72.Task.Keeps.a0, I e72.Task.Keeps.a1, I e72.Task.Keeps.a2, I e72.Task.Keeps.a3, I e72.Task.State, I e72.Task.Ran, I ((gt a56 v60).Kind), I ((gt a56 v60).Id), I ((gt a56 v60).A)]) E_good rfl rfl rfl rfl rfl rfl rfl (.boxM (c := 14) rfl rfl (Nat.le_of_ble_eq_true rfl) rfl) ?_
           refine SafeOps.gets (τ := ⟨Tryd.f34.ntmps, [(9, V.bool false)], ([12, 7], Obj.box [V.ptr [12, 20] 0 0]) :: ([12, 20], Obj.box [V.sl 1 (rws (fun l => [V.sl 3 (rws api_Instr.cells l)]) a67), V.mapr [12, 18], V.ref [7000, 114, 12, 20, 2] 0 (rws (fun n => [I n]) v68).length]) :: ([12, 23, 16, 2], Obj.box [I ((gt a56 v60).Kind), I ((gt a56 v60).Id), I ((gt a56 v60).A)]) :: ([12, 23, 16, 6, 3], Obj.box [I ((gt a56 v60).Kind), I ((gt a56 v60).Id), I ((gt a56 v60).A)]) :: ([12, 23, 16, 6, 17, 1], Obj.box [I e72.Task.Id, I e72.Task.Tenant, I e72.Task.Prog, I e72.Task.Pc, I e72.Task.Unit, I e72.Task.Keeps.a0, I e72.Task.Keeps.a1, I e72.Task.Keeps.a2, I e72.Task.Keeps.a3, I e72.Task.State, I e72.Task.Ran, I ((gt a56 v60).Kind), I ((gt a56 v60).Id), I ((gt a56 v60).A)]) :: ([7000, 114, 12, 20, 2], Obj.rows 1 (rws (fun n => [I n]) v68) false) :: (pmo [12, 18] (fun n : Int => I n) trace_seen.cells (some (mix ((gt a56 v60).Id) v69, [12, 23, 16, 6, 17, 1])) (mput v69 ((gt a56 v60).Id) e72)), [(Tryd.f33.ntmps, []), (Tryd.f32.ntmps, [(0, V.sl 3 (rws api_Event.cells a56)), (1, V.fn 33 [V.ptr [12, 7] 0 0]), (5, I v60), (7, I (a56.length : Int)), (8, I v60)]), (Tryd.f25.ntmps, [(1, V.sl 3 (rws api_Event.cells a56)), (7, V.ptr [12, 7] 0 0)]), (Tryd.f11.ntmps, [])], [12, 23, 16, 6]⟩) (.cov ⟨rfl, rfl, (ut upT_nil), (uo (uo (uo (uo (uo (uo (upOb_tl rfl (by repeat first | exact Tn.here | refine Tn.cons rfl ?_) rfl))))))), (upOut_cons rfl upT_nil (upOut_cons rfl (ut (ut (ut (ut (ut upT_nil))))) (upOut_cons rfl (ut (ut upT_nil)) (upOut_cons rfl upT_nil upOut_nil)))), (cl3 rfl (wi_cons rfl (wi_cons rfl (wi_cons rfl (wi_cons rfl (wi_cons rfl (wi_cons rfl (wi_tl rfl (by repeat first | exact Tn.here | refine Tn.cons rfl ?_) (fun _ => rfl) (sob rfl)))))))) rfl)⟩) ?_
           refine SafeOps.giveP (M := [12, 18]) (fun n : Int => I n) trace_seen.cells v69 ((gt a56 v60).Id) e72 (trace_seen.mk e72.Task (gt a56 v60)) [12, 23, 16, 6, 17, 1] rfl rfl rfl rfl rfl (fun _ _ _ => rfl) (by repeat first | exact Tg.here | apply Tg.drop rfl rfl | apply Tg.cons rfl rfl) rfl rfl ?_
           refine SafeOps.nil ?_
           repeat first|apply sq|apply sk|with_reducible first|apply tn|apply bn
           refine Safe.region ?_
           refine Qf E_good ?_
           refine Qf E_good ?_
           refine SafeOps.nil ?_
           repeat first|apply sq|apply sk|with_reducible first|apply tn|apply bn
           refine Safe.ret ?_
           repeat (first | with_reducible refine thenQ.r ?_ | with_reducible refine blockQ.r ?_)
           refine inQ.gen (vs := [V.bool false]) (v := V.bool false) (.inr rfl) rfl (.tmp (v := V.bool false) rfl .nil) rfl ?_
           exact SafeOps.got (HJ6077 (false, v68, mput v69 ((gt a56 v60).Id) (trace_seen.mk e72.Task (gt a56 v60))) h) (.cov ⟨rfl, rfl, (ut upT_nil), (uo (uo (uo (upOb_tl rfl (by repeat first | exact Tn.here | refine Tn.cons rfl ?_) rfl)))), (upOut_cons rfl (ut (ut (ut (ut (ut upT_nil))))) (upOut_cons rfl (ut (ut upT_nil)) (upOut_cons rfl upT_nil upOut_nil))), (cl3 rfl (wi_cons rfl (wi_cons rfl (wi_cons rfl (wi_tl rfl (by repeat first | exact Tn.here | refine Tn.cons rfl ?_) (fun _ => rfl) nob)))) rfl)⟩)
         ·skip
          refine DAny.takeSkip (i := 5) rfl (by kernel_rfl) [] (by kernel_rfl) (by kernel_rfl) (by kernel_rfl) (congrArg some hc6239) rfl rfl ?_
          refine DAny.takeSkip (i := 6) rfl (by kernel_rfl) [] (by kernel_rfl) (by kernel_rfl) (by kernel_rfl) (congrArg some hc6239) rfl rfl ?_
          refine DAny.takeSkip (i := 7) rfl (by kernel_rfl) [] (by kernel_rfl) (by kernel_rfl) (by kernel_rfl) (congrArg some hc6239) rfl rfl ?_
          refine DT 8 [] rfl rfl (v := V.bool false) (fun _ hz => (.pickK rfl hc6239 rfl)) ?_
          refine DT 9 [] rfl rfl (fun _ hz => (.fn rfl)) ?_
          refine DAny.takeSkip (i := 10) rfl (by kernel_rfl) [] (by kernel_rfl) (by kernel_rfl) (by kernel_rfl) rfl rfl rfl ?_
          refine DAny.takeSkip (i := 11) rfl (by kernel_rfl) [] (by kernel_rfl) (by kernel_rfl) (by kernel_rfl) rfl rfl rfl ?_
          refine DAny.takeSkip (i := 12) rfl (by kernel_rfl) [] (by kernel_rfl) (by kernel_rfl) (by kernel_rfl) rfl rfl rfl ?_
          refine DAny.takeSkip (i := 13) rfl (by kernel_rfl) [] (by kernel_rfl) (by kernel_rfl) (by kernel_rfl) rfl rfl rfl ?_
          refine DAny.takeSkip (i := 14) rfl (by kernel_rfl) [] (by kernel_rfl) (by kernel_rfl) (by kernel_rfl) rfl rfl rfl ?_
          refine DAny.takeSkip (i := 15) rfl (by kernel_rfl) [] (by kernel_rfl) (by kernel_rfl) (by kernel_rfl) rfl rfl rfl ?_
          refine DAny.takeSkip (i := 16) rfl (by kernel_rfl) [] (by kernel_rfl) (by kernel_rfl) (by kernel_rfl) rfl rfl rfl ?_
          refine DAny.takeSkip (i := 17) rfl (by kernel_rfl) [] (by kernel_rfl) (by kernel_rfl) (by kernel_rfl) rfl rfl rfl ?_
          refine DAny.takeSkip (i := 18) rfl (by kernel_rfl) [] (by kernel_rfl) (by kernel_rfl) (by kernel_rfl) rfl rfl rfl ?_
          refine DT 19 [] rfl rfl (v := V.bool false) (fun _ hz => (.pickK rfl rfl rfl)) ?_
          refine DT 20 [] rfl rfl (fun _ hz => (.fn rfl)) ?_
          refine DAny.nil (by kernel_rfl) ?_
          repeat first|apply sq|apply sk|with_reducible first|apply tn|apply bn
          refine Safe.region ?_
          refine Qf E_good ?_
          refine SafeOps.nil ?_
          repeat first|apply sq|apply sk|with_reducible first|apply tn|apply bn
          refine Safe.condN rfl rfl ?_
          repeat first|apply sq|apply sk|with_reducible first|apply tn|apply bn
          refine Safe.region ?_
          refine Qf E_good ?_
          refine Q0 E_good rfl (v := V.agg [I ((gt a56 v60).Kind), I ((gt a56 v60).Id), I ((gt a56 v60).A)]) (.load rfl rfl (.box rfl rfl) rfl) ?_
          refine Q0 E_good rfl (v := V.ptr [12, 23, 16, 6, 17, 1] 0 0) (.fn rfl) ?_
          refine Q0 E_good rfl (v := V.ptr [12, 23, 16, 6, 17, 1] 0 11) (.fn rfl) ?_
          refine SafeOps.store (z := Obj.box [I e72.Task.Id, I e72.Task.Tenant, I e72.Task.Prog, I e72.Task.Pc, I e72.Task.Unit, I e72.Task.Keeps.a0, I e72.Task.Keeps.a1, I e72.Task.Keeps.a2, I e72.Task.Keeps.a3, I e72.Task.State, I e72.Task.Ran, I ((gt a56 v60).Kind), I ((gt a56 v60).Id), I ((gt a56 v60).A)]) E_good rfl rfl rfl rfl rfl rfl rfl (.boxM (c := 14) rfl rfl (Nat.le_of_ble_eq_true rfl) rfl) ?_
          refine SafeOps.gets (τ := ⟨Tryd.f34.ntmps, [(9, V.bool false)], ([12, 7], Obj.box [V.ptr [12, 20] 0 0]) :: ([12, 20], Obj.box [V.sl 1 (rws (fun l => [V.sl 3 (rws api_Instr.cells l)]) a67), V.mapr [12, 18], V.ref [7000, 114, 12, 20, 2] 0 (rws (fun n => [I n]) v68).length]) :: ([12, 23, 16, 2], Obj.box [I ((gt a56 v60).Kind), I ((gt a56 v60).Id), I ((gt a56 v60).A)]) :: ([12, 23, 16, 6, 3], Obj.box [I ((gt a56 v60).Kind), I ((gt a56 v60).Id), I ((gt a56 v60).A)]) :: ([12, 23, 16, 6, 17, 1], Obj.box [I e72.Task.Id, I e72.Task.Tenant, I e72.Task.Prog, I e72.Task.Pc, I e72.Task.Unit, I e72.Task.Keeps.a0, I e72.Task.Keeps.a1, I e72.Task.Keeps.a2, I e72.Task.Keeps.a3, I e72.Task.State, I e72.Task.Ran, I ((gt a56 v60).Kind), I ((gt a56 v60).Id), I ((gt a56 v60).A)]) :: ([7000, 114, 12, 20, 2], Obj.rows 1 (rws (fun n => [I n]) v68) false) :: (pmo [12, 18] (fun n : Int => I n) trace_seen.cells (some (mix ((gt a56 v60).Id) v69, [12, 23, 16, 6, 17, 1])) (mput v69 ((gt a56 v60).Id) e72)), [(Tryd.f33.ntmps, []), (Tryd.f32.ntmps, [(0, V.sl 3 (rws api_Event.cells a56)), (1, V.fn 33 [V.ptr [12, 7] 0 0]), (5, I v60), (7, I (a56.length : Int)), (8, I v60)]), (Tryd.f25.ntmps, [(1, V.sl 3 (rws api_Event.cells a56)), (7, V.ptr [12, 7] 0 0)]), (Tryd.f11.ntmps, [])], [12, 23, 16, 6]⟩) (.cov ⟨rfl, rfl, (ut upT_nil), (uo (uo (uo (uo (uo (uo (upOb_tl rfl (by repeat first | exact Tn.here | refine Tn.cons rfl ?_) rfl))))))), (upOut_cons rfl upT_nil (upOut_cons rfl (ut (ut (ut (ut (ut upT_nil))))) (upOut_cons rfl (ut (ut upT_nil)) (upOut_cons rfl upT_nil upOut_nil)))), (cl3 rfl (wi_cons rfl (wi_cons rfl (wi_cons rfl (wi_cons rfl (wi_cons rfl (wi_cons rfl (wi_tl rfl (by repeat first | exact Tn.here | refine Tn.cons rfl ?_) (fun _ => rfl) (sob rfl)))))))) rfl)⟩) ?_
          refine SafeOps.giveP (M := [12, 18]) (fun n : Int => I n) trace_seen.cells v69 ((gt a56 v60).Id) e72 (trace_seen.mk e72.Task (gt a56 v60)) [12, 23, 16, 6, 17, 1] rfl rfl rfl rfl rfl (fun _ _ _ => rfl) (by repeat first | exact Tg.here | apply Tg.drop rfl rfl | apply Tg.cons rfl rfl) rfl rfl ?_
          refine SafeOps.nil ?_
          repeat first|apply sq|apply sk|with_reducible first|apply tn|apply bn
          refine Safe.region ?_
          refine Qf E_good ?_
          refine Qf E_good ?_
          refine SafeOps.nil ?_
          repeat first|apply sq|apply sk|with_reducible first|apply tn|apply bn
          refine Safe.ret ?_
          repeat (first | with_reducible refine thenQ.r ?_ | with_reducible refine blockQ.r ?_)
          refine inQ.gen (vs := [V.bool false]) (v := V.bool false) (.inr rfl) rfl (.tmp (v := V.bool false) rfl .nil) rfl ?_
          exact SafeOps.got (HJ6077 (false, v68, mput v69 ((gt a56 v60).Id) (trace_seen.mk e72.Task (gt a56 v60))) h) (.cov ⟨rfl, rfl, (ut upT_nil), (uo (uo (uo (upOb_tl rfl (by repeat first | exact Tn.here | refine Tn.cons rfl ?_) rfl)))), (upOut_cons rfl (ut (ut (ut (ut (ut upT_nil))))) (upOut_cons rfl (ut (ut upT_nil)) (upOut_cons rfl upT_nil upOut_nil))), (cl3 rfl (wi_cons rfl (wi_cons rfl (wi_cons rfl (wi_tl rfl (by repeat first | exact Tn.here | refine Tn.cons rfl ?_) (fun _ => rfl) nob)))) rfl)⟩)
        ·skip
         refine DAny.takeSkip (i := 2) rfl (by kernel_rfl) [] (by kernel_rfl) (by kernel_rfl) (by kernel_rfl) (congrArg some hc6238) rfl rfl ?_
         refine DT 3 [] rfl rfl (v := V.bool false) (fun _ hz => (.pickK rfl hc6238 rfl)) ?_
         refine DT 4 [] rfl rfl (fun _ hz => (.fn rfl)) ?_
         refine DAny.takeSkip (i := 5) rfl (by kernel_rfl) [] (by kernel_rfl) (by kernel_rfl) (by kernel_rfl) rfl rfl rfl ?_
         refine DAny.takeSkip (i := 6) rfl (by kernel_rfl) [] (by kernel_rfl) (by kernel_rfl) (by kernel_rfl) rfl rfl rfl ?_
         refine DAny.takeSkip (i := 7) rfl (by kernel_rfl) [] (by kernel_rfl) (by kernel_rfl) (by kernel_rfl) rfl rfl rfl ?_
         refine DT 8 [] rfl rfl (v := V.bool false) (fun _ hz => (.pickK rfl rfl rfl)) ?_
         refine DT 9 [] rfl rfl (fun _ hz => (.fn rfl)) ?_
         refine DAny.takeSkip (i := 10) rfl (by kernel_rfl) [] (by kernel_rfl) (by kernel_rfl) (by kernel_rfl) rfl rfl rfl ?_
         refine DAny.takeSkip (i := 11) rfl (by kernel_rfl) [] (by kernel_rfl) (by kernel_rfl) (by kernel_rfl) rfl rfl rfl ?_
         refine DAny.takeSkip (i := 12) rfl (by kernel_rfl) [] (by kernel_rfl) (by kernel_rfl) (by kernel_rfl) rfl rfl rfl ?_
         refine DAny.takeSkip (i := 13) rfl (by kernel_rfl) [] (by kernel_rfl) (by kernel_rfl) (by kernel_rfl) rfl rfl rfl ?_
         refine DAny.takeSkip (i := 14) rfl (by kernel_rfl) [] (by kernel_rfl) (by kernel_rfl) (by kernel_rfl) rfl rfl rfl ?_
         refine DAny.takeSkip (i := 15) rfl (by kernel_rfl) [] (by kernel_rfl) (by kernel_rfl) (by kernel_rfl) rfl rfl rfl ?_
         refine DAny.takeSkip (i := 16) rfl (by kernel_rfl) [] (by kernel_rfl) (by kernel_rfl) (by kernel_rfl) rfl rfl rfl ?_
         refine DAny.takeSkip (i := 17) rfl (by kernel_rfl) [] (by kernel_rfl) (by kernel_rfl) (by kernel_rfl) rfl rfl rfl ?_
         refine DAny.takeSkip (i := 18) rfl (by kernel_rfl) [] (by kernel_rfl) (by kernel_rfl) (by kernel_rfl) rfl rfl rfl ?_
         refine DT 19 [] rfl rfl (v := V.bool false) (fun _ hz => (.pickK rfl rfl rfl)) ?_
         refine DT 20 [] rfl rfl (fun _ hz => (.fn rfl)) ?_
         refine DAny.nil (by kernel_rfl) ?_
         repeat first|apply sq|apply sk|with_reducible first|apply tn|apply bn
         refine Safe.region ?_
         refine Qf E_good ?_
         refine SafeOps.nil ?_
         repeat first|apply sq|apply sk|with_reducible first|apply tn|apply bn
         refine Safe.condN rfl rfl ?_
         repeat first|apply sq|apply sk|with_reducible first|apply tn|apply bn
         refine Safe.region ?_
         refine Qf E_good ?_
         refine Q0 E_good rfl (v := V.agg [I ((gt a56 v60).Kind), I ((gt a56 v60).Id), I ((gt a56 v60).A)]) (.load rfl rfl (.box rfl rfl) rfl) ?_
         refine Q0 E_good rfl (v := V.ptr [12, 23, 16, 6, 17, 1] 0 0) (.fn rfl) ?_
         refine Q0 E_good rfl (v := V.ptr [12, 23, 16, 6, 17, 1] 0 11) (.fn rfl) ?_
         refine SafeOps.store (z := Obj.box [I e72.Task.Id, I e72.Task.Tenant, I e72.Task.Prog, I e72.Task.Pc, I e72.Task.Unit, I e72.Task.Keeps.a0, I e72.Task.Keeps.a1, I e72.Task.Keeps.a2, I e72.Task.Keeps.a3, I e72.Task.State, I e72.Task.Ran, I ((gt a56 v60).Kind), I ((gt a56 v60).Id), I ((gt a56 v60).A)]) E_good rfl rfl rfl rfl rfl rfl rfl (.boxM (c := 14) rfl rfl (Nat.le_of_ble_eq_true rfl) rfl) ?_
         refine SafeOps.gets (τ := ⟨Tryd.f34.ntmps, [(9, V.bool false)], ([12, 7], Obj.box [V.ptr [12, 20] 0 0]) :: ([12, 20], Obj.box [V.sl 1 (rws (fun l => [V.sl 3 (rws api_Instr.cells l)]) a67), V.mapr [12, 18], V.ref [7000, 114, 12, 20, 2] 0 (rws (fun n => [I n]) v68).length]) :: ([12, 23, 16, 2], Obj.box [I ((gt a56 v60).Kind), I ((gt a56 v60).Id), I ((gt a56 v60).A)]) :: ([12, 23, 16, 6, 3], Obj.box [I ((gt a56 v60).Kind), I ((gt a56 v60).Id), I ((gt a56 v60).A)]) :: ([12, 23, 16, 6, 17, 1], Obj.box [I e72.Task.Id, I e72.Task.Tenant, I e72.Task.Prog, I e72.Task.Pc, I e72.Task.Unit, I e72.Task.Keeps.a0, I e72.Task.Keeps.a1, I e72.Task.Keeps.a2, I e72.Task.Keeps.a3, I e72.Task.State, I e72.Task.Ran, I ((gt a56 v60).Kind), I ((gt a56 v60).Id), I ((gt a56 v60).A)]) :: ([7000, 114, 12, 20, 2], Obj.rows 1 (rws (fun n => [I n]) v68) false) :: (pmo [12, 18] (fun n : Int => I n) trace_seen.cells (some (mix ((gt a56 v60).Id) v69, [12, 23, 16, 6, 17, 1])) (mput v69 ((gt a56 v60).Id) e72)), [(Tryd.f33.ntmps, []), (Tryd.f32.ntmps, [(0, V.sl 3 (rws api_Event.cells a56)), (1, V.fn 33 [V.ptr [12, 7] 0 0]), (5, I v60), (7, I (a56.length : Int)), (8, I v60)]), (Tryd.f25.ntmps, [(1, V.sl 3 (rws api_Event.cells a56)), (7, V.ptr [12, 7] 0 0)]), (Tryd.f11.ntmps, [])], [12, 23, 16, 6]⟩) (.cov ⟨rfl, rfl, (ut upT_nil), (uo (uo (uo (uo (uo (uo (upOb_tl rfl (by repeat first | exact Tn.here | refine Tn.cons rfl ?_) rfl))))))), (upOut_cons rfl upT_nil (upOut_cons rfl (ut (ut (ut (ut (ut upT_nil))))) (upOut_cons rfl (ut (ut upT_nil)) (upOut_cons rfl upT_nil upOut_nil)))), (cl3 rfl (wi_cons rfl (wi_cons rfl (wi_cons rfl (wi_cons rfl (wi_cons rfl (wi_cons rfl (wi_tl rfl (by repeat first | exact Tn.here | refine Tn.cons rfl ?_) (fun _ => rfl) (sob rfl)))))))) rfl)⟩) ?_
         refine SafeOps.giveP (M := [12, 18]) (fun n : Int => I n) trace_seen.cells v69 ((gt a56 v60).Id) e72 (trace_seen.mk e72.Task (gt a56 v60)) [12, 23, 16, 6, 17, 1] rfl rfl rfl rfl rfl (fun _ _ _ => rfl) (by repeat first | exact Tg.here | apply Tg.drop rfl rfl | apply Tg.cons rfl rfl) rfl rfl ?_
         refine SafeOps.nil ?_
         repeat first|apply sq|apply sk|with_reducible first|apply tn|apply bn
         refine Safe.region ?_
         refine Qf E_good ?_
         refine Qf E_good ?_
         refine SafeOps.nil ?_
         repeat first|apply sq|apply sk|with_reducible first|apply tn|apply bn
         refine Safe.ret ?_
         repeat (first | with_reducible refine thenQ.r ?_ | with_reducible refine blockQ.r ?_)
         refine inQ.gen (vs := [V.bool false]) (v := V.bool false) (.inr rfl) rfl (.tmp (v := V.bool false) rfl .nil) rfl ?_
         exact SafeOps.got (HJ6077 (false, v68, mput v69 ((gt a56 v60).Id) (trace_seen.mk e72.Task (gt a56 v60))) h) (.cov ⟨rfl, rfl, (ut upT_nil), (uo (uo (uo (upOb_tl rfl (by repeat first | exact Tn.here | refine Tn.cons rfl ?_) rfl)))), (upOut_cons rfl (ut (ut (ut (ut (ut upT_nil))))) (upOut_cons rfl (ut (ut upT_nil)) (upOut_cons rfl upT_nil upOut_nil))), (cl3 rfl (wi_cons rfl (wi_cons rfl (wi_cons rfl (wi_tl rfl (by repeat first | exact Tn.here | refine Tn.cons rfl ?_) (fun _ => rfl) nob)))) rfl)⟩)
       ·skip
        refine Safe.condN rfl hc6237 ?_
        repeat first|apply sq|apply sk|with_reducible first|apply tn|apply bn
        refine Safe.region ?_
        refine Q0 E_good rfl (v := V.bool (((gt a56 v60).Kind) == 4)) (.fn rfl) ?_
        refine Qf E_good ?_
        refine SafeOps.nil ?_
        repeat first|apply sq|apply sk|with_reducible first|apply tn|apply bn
        refine ifG h (fun hc6242 h => ?_) (fun hc6242 h => ?_)
        ·skip
         refine Safe.condK rfl hc6242 ?_
         repeat first|apply sq|apply sk|with_reducible first|apply tn|apply bn
         refine Safe.region ?_
         refine Qf E_good ?_
         refine Q0 E_good rfl (v := V.ptr [12, 23, 16, 6, 17, 1] 0 0) (.fn rfl) ?_
         refine Q0 E_good rfl (v := V.ptr [12, 23, 16, 6, 17, 1] 0 0) (.fn rfl) ?_
         refine Q0 E_good rfl (v := V.ptr [12, 23, 16, 6, 17, 1] 0 9) (.fn rfl) ?_
         refine Q0 E_good rfl (v := I e72.Task.State) (.load rfl rfl (.box rfl rfl) rfl) ?_
         refine Q0 E_good rfl (v := V.bool (go_life_Waits e72.Task.State)) (.callP rfl rfl (go_life_Waits_sc e72.Task.State _ rfl) rfl) ?_
         refine Qf E_good ?_
         refine SafeOps.bjoin 4 87 (b := ((go_life_Waits e72.Task.State) && (((gt a56 v60).A) == 0))) (b1 := (((gt a56 v60).A) == 0)) (b0 := false) (fun hc6243 K => ?_) (fun hc6243 K => ?_) bj_and ?_
         ·skip
          refine qT E_good hc6243 (v := V.ptr [12, 23, 16, 6, 3] 0 2) (.fn rfl) ?_
          refine qT E_good hc6243 (v := I ((gt a56 v60).A)) (.load rfl rfl (.box rfl rfl) rfl) ?_
          refine qT E_good hc6243 (v := V.bool (((gt a56 v60).A) == 0)) (.fn rfl) ?_
          refine Q0 E_good rfl (v := V.bool (((gt a56 v60).A) == 0)) (.pickK rfl hc6243 rfl) ?_
          exact SafeOps.drop' 4 rfl rfl rfl K
         ·skip
          refine sT hc6243 ?_
          refine sT hc6243 ?_
          refine sT hc6243 ?_
          refine Q0 E_good rfl (v := V.bool false) (.pickK rfl hc6243 rfl) ?_
          exact SafeOps.drop' 4 rfl rfl rfl K
         refine Qf E_good ?_
         refine SafeOps.nil ?_
         repeat first|apply sq|apply sk|with_reducible first|apply tn|apply bn
         refine Safe.region ?_
         refine Qf E_good ?_
         refine SafeOps.nil ?_
         repeat first|apply sq|apply sk|with_reducible first|apply tn|apply bn
         refine ifG h (fun hc6244 h => ?_) (fun hc6244 h => ?_)
         ·skip
          refine Safe.condK rfl hc6244 ?_
          repeat first|apply sq|apply sk|with_reducible first|apply tn|apply bn
          refine Safe.region ?_
          refine Qf E_good ?_
          refine Q0 E_good rfl (v := V.ptr [12, 23, 16, 6, 17, 1] 0 0) (.fn rfl) ?_
          refine Q0 E_good rfl (v := V.ptr [12, 23, 16, 6, 17, 1] 0 0) (.fn rfl) ?_
          refine Q0 E_good rfl (v := V.ptr [12, 23, 16, 6, 17, 1] 0 9) (.fn rfl) ?_
          refine SafeOps.store (z := Obj.box [I e72.Task.Id, I e72.Task.Tenant, I e72.Task.Prog, I e72.Task.Pc, I e72.Task.Unit, I e72.Task.Keeps.a0, I e72.Task.Keeps.a1, I e72.Task.Keeps.a2, I e72.Task.Keeps.a3, I 1, I e72.Task.Ran, I e72.last.Kind, I e72.last.Id, I e72.last.A]) E_good rfl rfl rfl rfl rfl rfl rfl (.boxM (c := 14) rfl rfl (Nat.le_of_ble_eq_true rfl) rfl) ?_
          refine SafeOps.nil ?_
          repeat first|apply sq|apply sk|with_reducible first|apply tn|apply bn
          refine Safe.region ?_
          refine Qf E_good ?_
          refine Q0 E_good rfl (v := V.agg [I ((gt a56 v60).Kind), I ((gt a56 v60).Id), I ((gt a56 v60).A)]) (.load rfl rfl (.box rfl rfl) rfl) ?_
          refine Q0 E_good rfl (v := V.ptr [12, 23, 16, 6, 17, 1] 0 0) (.fn rfl) ?_
          refine Q0 E_good rfl (v := V.ptr [12, 23, 16, 6, 17, 1] 0 11) (.fn rfl) ?_
          refine SafeOps.store (z := Obj.box [I e72.Task.Id, I e72.Task.Tenant, I e72.Task.Prog, I e72.Task.Pc, I e72.Task.Unit, I e72.Task.Keeps.a0, I e72.Task.Keeps.a1, I e72.Task.Keeps.a2, I e72.Task.Keeps.a3, I 1, I e72.Task.Ran, I ((gt a56 v60).Kind), I ((gt a56 v60).Id), I ((gt a56 v60).A)]) E_good rfl rfl rfl rfl rfl rfl rfl (.boxM (c := 14) rfl rfl (Nat.le_of_ble_eq_true rfl) rfl) ?_
          refine SafeOps.gets (τ := ⟨Tryd.f34.ntmps, [(9, V.bool ((go_life_Waits e72.Task.State) && (((gt a56 v60).A) == 0)))], ([12, 7], Obj.box [V.ptr [12, 20] 0 0]) :: ([12, 20], Obj.box [V.sl 1 (rws (fun l => [V.sl 3 (rws api_Instr.cells l)]) a67), V.mapr [12, 18], V.ref [7000, 114, 12, 20, 2] 0 (rws (fun n => [I n]) v68).length]) :: ([12, 23, 16, 2], Obj.box [I ((gt a56 v60).Kind), I ((gt a56 v60).Id), I ((gt a56 v60).A)]) :: ([12, 23, 16, 6, 3], Obj.box [I ((gt a56 v60).Kind), I ((gt a56 v60).Id), I ((gt a56 v60).A)]) :: ([12, 23, 16, 6, 17, 1], Obj.box [I e72.Task.Id, I e72.Task.Tenant, I e72.Task.Prog, I e72.Task.Pc, I e72.Task.Unit, I e72.Task.Keeps.a0, I e72.Task.Keeps.a1, I e72.Task.Keeps.a2, I e72.Task.Keeps.a3, I 1, I e72.Task.Ran, I ((gt a56 v60).Kind), I ((gt a56 v60).Id), I ((gt a56 v60).A)]) :: ([7000, 114, 12, 20, 2], Obj.rows 1 (rws (fun n => [I n]) v68) false) :: (pmo [12, 18] (fun n : Int => I n) trace_seen.cells (some (mix ((gt a56 v60).Id) v69, [12, 23, 16, 6, 17, 1])) (mput v69 ((gt a56 v60).Id) e72)), [(Tryd.f33.ntmps, []), (Tryd.f32.ntmps, [(0, V.sl 3 (rws api_Event.cells a56)), (1, V.fn 33 [V.ptr [12, 7] 0 0]), (5, I v60), (7, I (a56.length : Int)), (8, I v60)]), (Tryd.f25.ntmps, [(1, V.sl 3 (rws api_Event.cells a56)), (7, V.ptr [12, 7] 0 0)]), (Tryd.f11.ntmps, [])], [12, 23, 16, 6]⟩) (.cov ⟨rfl, rfl, (ut upT_nil), (uo (uo (uo (uo (uo (uo (upOb_tl rfl (by repeat first | exact Tn.here | refine Tn.cons rfl ?_) rfl))))))), (upOut_cons rfl upT_nil (upOut_cons rfl (ut (ut (ut (ut (ut upT_nil))))) (upOut_cons rfl (ut (ut upT_nil)) (upOut_cons rfl upT_nil upOut_nil)))), (cl3 rfl (wi_cons rfl (wi_cons rfl (wi_cons rfl (wi_cons rfl (wi_cons rfl (wi_cons rfl (wi_tl rfl (by repeat first | exact Tn.here | refine Tn.cons rfl ?_) (fun _ => rfl) (sob rfl)))))))) rfl)⟩) ?_
          refine SafeOps.giveP (M := [12, 18]) (fun n : Int => I n) trace_seen.cells v69 ((gt a56 v60).Id) e72 (trace_seen.mk (api_Task.mk e72.Task.Id e72.Task.Tenant e72.Task.Prog e72.Task.Pc e72.Task.Unit e72.Task.Keeps 1 e72.Task.Ran) (gt a56 v60)) [12, 23, 16, 6, 17, 1] rfl rfl rfl rfl rfl (fun _ _ _ => rfl) (by repeat first | exact Tg.here | apply Tg.drop rfl rfl | apply Tg.cons rfl rfl) rfl rfl ?_
          refine SafeOps.nil ?_
          repeat first|apply sq|apply sk|with_reducible first|apply tn|apply bn
          refine Safe.region ?_
          refine Qf E_good ?_
          refine Qf E_good ?_
          refine SafeOps.nil ?_
          repeat first|apply sq|apply sk|with_reducible first|apply tn|apply bn
          refine Safe.ret ?_
          repeat (first | with_reducible refine thenQ.r ?_ | with_reducible refine blockQ.r ?_)
          refine inQ.gen (vs := [V.bool ((go_life_Waits e72.Task.State) && (((gt a56 v60).A) == 0))]) (v := V.bool ((go_life_Waits e72.Task.State) && (((gt a56 v60).A) == 0))) (.inr rfl) rfl (.tmp (v := V.bool ((go_life_Waits e72.Task.State) && (((gt a56 v60).A) == 0))) rfl .nil) rfl ?_
          exact SafeOps.got (HJ6077 (((go_life_Waits e72.Task.State) && (((gt a56 v60).A) == 0)), v68, mput v69 ((gt a56 v60).Id) (trace_seen.mk (api_Task.mk e72.Task.Id e72.Task.Tenant e72.Task.Prog e72.Task.Pc e72.Task.Unit e72.Task.Keeps 1 e72.Task.Ran) (gt a56 v60))) h) (.cov ⟨rfl, rfl, (ut upT_nil), (uo (uo (uo (upOb_tl rfl (by repeat first | exact Tn.here | refine Tn.cons rfl ?_) rfl)))), (upOut_cons rfl (ut (ut (ut (ut (ut upT_nil))))) (upOut_cons rfl (ut (ut upT_nil)) (upOut_cons rfl upT_nil upOut_nil))), (cl3 rfl (wi_cons rfl (wi_cons rfl (wi_cons rfl (wi_tl rfl (by repeat first | exact Tn.here | refine Tn.cons rfl ?_) (fun _ => rfl) nob)))) rfl)⟩)
         ·skip
          refine Safe.condN rfl hc6244 ?_
          repeat first|apply sq|apply sk|with_reducible first|apply tn|apply bn
          refine Safe.region ?_
          refine Qf E_good ?_
          refine Q0 E_good rfl (v := V.agg [I ((gt a56 v60).Kind), I ((gt a56 v60).Id), I ((gt a56 v60).A)]) (.load rfl rfl (.box rfl rfl) rfl) ?_
          refine Q0 E_good rfl (v := V.ptr [12, 23, 16, 6, 17, 1] 0 0) (.fn rfl) ?_
          refine Q0 E_good rfl (v := V.ptr [12, 23, 16, 6, 17, 1] 0 11) (.fn rfl) ?_
          refine SafeOps.store (z := Obj.box [I e72.Task.Id, I e72.Task.Tenant, I e72.Task.Prog, I e72.Task.Pc, I e72.Task.Unit, I e72.Task.Keeps.a0, I e72.Task.Keeps.a1, I e72.Task.Keeps.a2, I e72.Task.Keeps.a3, I e72.Task.State, I e72.Task.Ran, I ((gt a56 v60).Kind), I ((gt a56 v60).Id), I ((gt a56 v60).A)]) E_good rfl rfl rfl rfl rfl rfl rfl (.boxM (c := 14) rfl rfl (Nat.le_of_ble_eq_true rfl) rfl) ?_
          refine SafeOps.gets (τ := ⟨Tryd.f34.ntmps, [(9, V.bool ((go_life_Waits e72.Task.State) && (((gt a56 v60).A) == 0)))], ([12, 7], Obj.box [V.ptr [12, 20] 0 0]) :: ([12, 20], Obj.box [V.sl 1 (rws (fun l => [V.sl 3 (rws api_Instr.cells l)]) a67), V.mapr [12, 18], V.ref [7000, 114, 12, 20, 2] 0 (rws (fun n => [I n]) v68).length]) :: ([12, 23, 16, 2], Obj.box [I ((gt a56 v60).Kind), I ((gt a56 v60).Id), I ((gt a56 v60).A)]) :: ([12, 23, 16, 6, 3], Obj.box [I ((gt a56 v60).Kind), I ((gt a56 v60).Id), I ((gt a56 v60).A)]) :: ([12, 23, 16, 6, 17, 1], Obj.box [I e72.Task.Id, I e72.Task.Tenant, I e72.Task.Prog, I e72.Task.Pc, I e72.Task.Unit, I e72.Task.Keeps.a0, I e72.Task.Keeps.a1, I e72.Task.Keeps.a2, I e72.Task.Keeps.a3, I e72.Task.State, I e72.Task.Ran, I ((gt a56 v60).Kind), I ((gt a56 v60).Id), I ((gt a56 v60).A)]) :: ([7000, 114, 12, 20, 2], Obj.rows 1 (rws (fun n => [I n]) v68) false) :: (pmo [12, 18] (fun n : Int => I n) trace_seen.cells (some (mix ((gt a56 v60).Id) v69, [12, 23, 16, 6, 17, 1])) (mput v69 ((gt a56 v60).Id) e72)), [(Tryd.f33.ntmps, []), (Tryd.f32.ntmps, [(0, V.sl 3 (rws api_Event.cells a56)), (1, V.fn 33 [V.ptr [12, 7] 0 0]), (5, I v60), (7, I (a56.length : Int)), (8, I v60)]), (Tryd.f25.ntmps, [(1, V.sl 3 (rws api_Event.cells a56)), (7, V.ptr [12, 7] 0 0)]), (Tryd.f11.ntmps, [])], [12, 23, 16, 6]⟩) (.cov ⟨rfl, rfl, (ut upT_nil), (uo (uo (uo (uo (uo (uo (upOb_tl rfl (by repeat first | exact Tn.here | refine Tn.cons rfl ?_) rfl))))))), (upOut_cons rfl upT_nil (upOut_cons rfl (ut (ut (ut (ut (ut upT_nil))))) (upOut_cons rfl (ut (ut upT_nil)) (upOut_cons rfl upT_nil upOut_nil)))), (cl3 rfl (wi_cons rfl (wi_cons rfl (wi_cons rfl (wi_cons rfl (wi_cons rfl (wi_cons rfl (wi_tl rfl (by repeat first | exact Tn.here | refine Tn.cons rfl ?_) (fun _ => rfl) (sob rfl)))))))) rfl)⟩) ?_
          refine SafeOps.giveP (M := [12, 18]) (fun n : Int => I n) trace_seen.cells v69 ((gt a56 v60).Id) e72 (trace_seen.mk e72.Task (gt a56 v60)) [12, 23, 16, 6, 17, 1] rfl rfl rfl rfl rfl (fun _ _ _ => rfl) (by repeat first | exact Tg.here | apply Tg.drop rfl rfl | apply Tg.cons rfl rfl) rfl rfl ?_
          refine SafeOps.nil ?_
          repeat first|apply sq|apply sk|with_reducible first|apply tn|apply bn
          refine Safe.region ?_
          refine Qf E_good ?_
          refine Qf E_good ?_
          refine SafeOps.nil ?_
          repeat first|apply sq|apply sk|with_reducible first|apply tn|apply bn
          refine Safe.ret ?_
          repeat (first | with_reducible refine thenQ.r ?_ | with_reducible refine blockQ.r ?_)
          refine inQ.gen (vs := [V.bool ((go_life_Waits e72.Task.State) && (((gt a56 v60).A) == 0))]) (v := V.bool ((go_life_Waits e72.Task.State) && (((gt a56 v60).A) == 0))) (.inr rfl) rfl (.tmp (v := V.bool ((go_life_Waits e72.Task.State) && (((gt a56 v60).A) == 0))) rfl .nil) rfl ?_
          exact SafeOps.got (HJ6077 (((go_life_Waits e72.Task.State) && (((gt a56 v60).A) == 0)), v68, mput v69 ((gt a56 v60).Id) (trace_seen.mk e72.Task (gt a56 v60))) h) (.cov ⟨rfl, rfl, (ut upT_nil), (uo (uo (uo (upOb_tl rfl (by repeat first | exact Tn.here | refine Tn.cons rfl ?_) rfl)))), (upOut_cons rfl (ut (ut (ut (ut (ut upT_nil))))) (upOut_cons rfl (ut (ut upT_nil)) (upOut_cons rfl upT_nil upOut_nil))), (cl3 rfl (wi_cons rfl (wi_cons rfl (wi_cons rfl (wi_tl rfl (by repeat first | exact Tn.here | refine Tn.cons rfl ?_) (fun _ => rfl) nob)))) rfl)⟩)
        ·skip
         refine Safe.condN rfl hc6242 ?_
         repeat first|apply sq|apply sk|with_reducible first|apply tn|apply bn
         refine Safe.region ?_
         refine Q0 E_good rfl (v := V.bool (((gt a56 v60).Kind) == 5)) (.fn rfl) ?_
         refine Qf E_good ?_
         refine SafeOps.nil ?_
         repeat first|apply sq|apply sk|with_reducible first|apply tn|apply bn
         refine ifG h (fun hc6245 h => ?_) (fun hc6245 h => ?_)
         ·skip
          refine Safe.condK rfl hc6245 ?_
          repeat first|apply sq|apply sk|with_reducible first|apply tn|apply bn
          refine Safe.region ?_
          refine Qf E_good ?_
          refine Qf E_good ?_
          refine SafeOps.bjoin 2 98 (b := ((e72.Task.State == 1) && (e72.last.Kind == 2))) (b1 := (e72.last.Kind == 2)) (b0 := false) (fun hc6246 K => ?_) (fun hc6246 K => ?_) bj_and ?_
          ·skip
           refine qT E_good hc6246 (.fn rfl) ?_
           refine Q0 E_good rfl (v := V.bool (e72.last.Kind == 2)) (.pickK rfl hc6246 rfl) ?_
           exact SafeOps.drop' 2 rfl rfl rfl K
          ·skip
           refine sT hc6246 ?_
           refine Q0 E_good rfl (v := V.bool false) (.pickK rfl hc6246 rfl) ?_
           exact SafeOps.drop' 2 rfl rfl rfl K
          refine Qf E_good ?_
          refine SafeOps.bjoin 7 106 (b := (((e72.Task.State == 1) && (e72.last.Kind == 2)) && (e72.last.A == 9))) (b1 := (e72.last.A == 9)) (b0 := false) (fun hc6247 K => ?_) (fun hc6247 K => ?_) bj_and ?_
          ·skip
           refine qT E_good hc6247 (.fn rfl) ?_
           refine qT E_good hc6247 (v := V.ptr [12, 23, 16, 6, 17, 1] 0 0) (.fn rfl) ?_
           refine qT E_good hc6247 (v := V.ptr [12, 23, 16, 6, 17, 1] 0 11) (.fn rfl) ?_
           refine qT E_good hc6247 (v := V.ptr [12, 23, 16, 6, 17, 1] 0 13) (.fn rfl) ?_
           refine qT E_good hc6247 (v := I e72.last.A) (.load rfl rfl (.box rfl rfl) rfl) ?_
           refine qT E_good hc6247 (v := V.bool (e72.last.A == 9)) (.fn rfl) ?_
           refine Q0 E_good rfl (v := V.bool (e72.last.A == 9)) (.pickK rfl hc6247 rfl) ?_
           exact SafeOps.drop' 7 rfl rfl rfl K
          ·skip
           refine sT hc6247 ?_
           refine sT hc6247 ?_
           refine sT hc6247 ?_
           refine sT hc6247 ?_
           refine sT hc6247 ?_
           refine sT hc6247 ?_
           refine Q0 E_good rfl (v := V.bool false) (.pickK rfl hc6247 rfl) ?_
           exact SafeOps.drop' 7 rfl rfl rfl K
          refine Qf E_good ?_
          refine SafeOps.bjoin 4 111 (b := ((((e72.Task.State == 1) && (e72.last.Kind == 2)) && (e72.last.A == 9)) && (((gt a56 v60).A) == 0))) (b1 := (((gt a56 v60).A) == 0)) (b0 := false) (fun hc6248 K => ?_) (fun hc6248 K => ?_) bj_and ?_
          ·skip
           refine qT E_good hc6248 (v := V.ptr [12, 23, 16, 6, 3] 0 2) (.fn rfl) ?_
           refine qT E_good hc6248 (v := I ((gt a56 v60).A)) (.load rfl rfl (.box rfl rfl) rfl) ?_
           refine qT E_good hc6248 (v := V.bool (((gt a56 v60).A) == 0)) (.fn rfl) ?_
           refine Q0 E_good rfl (v := V.bool (((gt a56 v60).A) == 0)) (.pickK rfl hc6248 rfl) ?_
           exact SafeOps.drop' 4 rfl rfl rfl K
          ·skip
           refine sT hc6248 ?_
           refine sT hc6248 ?_
           refine sT hc6248 ?_
           refine Q0 E_good rfl (v := V.bool false) (.pickK rfl hc6248 rfl) ?_
           exact SafeOps.drop' 4 rfl rfl rfl K
          refine Qf E_good ?_
          refine SafeOps.nil ?_
          repeat first|apply sq|apply sk|with_reducible first|apply tn|apply bn
          refine Safe.region ?_
          refine Qf E_good ?_
          refine SafeOps.nil ?_
          repeat first|apply sq|apply sk|with_reducible first|apply tn|apply bn
          refine ifG h (fun hc6249 h => ?_) (fun hc6249 h => ?_)
          ·skip
           refine Safe.condK rfl hc6249 ?_
           repeat first|apply sq|apply sk|with_reducible first|apply tn|apply bn
           refine Safe.region ?_
           refine Qf E_good ?_
           refine Q0 E_good rfl (v := V.ptr [12, 23, 16, 6, 17, 1] 0 0) (.fn rfl) ?_
           refine Q0 E_good rfl (v := V.ptr [12, 23, 16, 6, 17, 1] 0 0) (.fn rfl) ?_
           refine Q0 E_good rfl (v := V.ptr [12, 23, 16, 6, 17, 1] 0 9) (.fn rfl) ?_
           refine SafeOps.store (z := Obj.box [I e72.Task.Id, I e72.Task.Tenant, I e72.Task.Prog, I e72.Task.Pc, I e72.Task.Unit, I e72.Task.Keeps.a0, I e72.Task.Keeps.a1, I e72.Task.Keeps.a2, I e72.Task.Keeps.a3, I 7, I e72.Task.Ran, I e72.last.Kind, I e72.last.Id, I e72.last.A]) E_good rfl rfl rfl rfl rfl rfl rfl (.boxM (c := 14) rfl rfl (Nat.le_of_ble_eq_true rfl) rfl) ?_
           refine SafeOps.nil ?_
           repeat first|apply sq|apply sk|with_reducible first|apply tn|apply bn
           refine Safe.region ?_
           refine Qf E_good ?_
           refine Q0 E_good rfl (v := V.agg [I ((gt a56 v60).Kind), I ((gt a56 v60).Id), I ((gt a56 v60).A)]) (.load rfl rfl (.box rfl rfl) rfl) ?_
           refine Q0 E_good rfl (v := V.ptr [12, 23, 16, 6, 17, 1] 0 0) (.fn rfl) ?_
           refine Q0 E_good rfl (v := V.ptr [12, 23, 16, 6, 17, 1] 0 11) (.fn rfl) ?_
           refine SafeOps.store (z := Obj.box [I e72.Task.Id, I e72.Task.Tenant, I e72.Task.Prog, I e72.Task.Pc, I e72.Task.Unit, I e72.Task.Keeps.a0, I e72.Task.Keeps.a1, I e72.Task.Keeps.a2, I e72.Task.Keeps.a3, I 7, I e72.Task.Ran, I ((gt a56 v60).Kind), I ((gt a56 v60).Id), I ((gt a56 v60).A)]) E_good rfl rfl rfl rfl rfl rfl rfl (.boxM (c := 14) rfl rfl (Nat.le_of_ble_eq_true rfl) rfl) ?_
           refine SafeOps.gets (τ := ⟨Tryd.f34.ntmps, [(9, V.bool ((((e72.Task.State == 1) && (e72.last.Kind == 2)) && (e72.last.A == 9)) && (((gt a56 v60).A) == 0)))], ([12, 7], Obj.box [V.ptr [12, 20] 0 0]) :: ([12, 20], Obj.box [V.sl 1 (rws (fun l => [V.sl 3 (rws api_Instr.cells l)]) a67), V.mapr [12, 18], V.ref [7000, 114, 12, 20, 2] 0 (rws (fun n => [I n]) v68).length]) :: ([12, 23, 16, 2], Obj.box [I ((gt a56 v60).Kind), I ((gt a56 v60).Id), I ((gt a56 v60).A)]) :: ([12, 23, 16, 6, 3], Obj.box [I ((gt a56 v60).Kind), I ((gt a56 v60).Id), I ((gt a56 v60).A)]) :: ([12, 23, 16, 6, 17, 1], Obj.box [I e72.Task.Id, I e72.Task.Tenant, I e72.Task.Prog, I e72.Task.Pc, I e72.Task.Unit, I e72.Task.Keeps.a0, I e72.Task.Keeps.a1, I e72.Task.Keeps.a2, I e72.Task.Keeps.a3, I 7, I e72.Task.Ran, I ((gt a56 v60).Kind), I ((gt a56 v60).Id), I ((gt a56 v60).A)]) :: ([7000, 114, 12, 20, 2], Obj.rows 1 (rws (fun n => [I n]) v68) false) :: (pmo [12, 18] (fun n : Int => I n) trace_seen.cells (some (mix ((gt a56 v60).Id) v69, [12, 23, 16, 6, 17, 1])) (mput v69 ((gt a56 v60).Id) e72)), [(Tryd.f33.ntmps, []), (Tryd.f32.ntmps, [(0, V.sl 3 (rws api_Event.cells a56)), (1, V.fn 33 [V.ptr [12, 7] 0 0]), (5, I v60), (7, I (a56.length : Int)), (8, I v60)]), (Tryd.f25.ntmps, [(1, V.sl 3 (rws api_Event.cells a56)), (7, V.ptr [12, 7] 0 0)]), (Tryd.f11.ntmps, [])], [12, 23, 16, 6]⟩) (.cov ⟨rfl, rfl, (ut upT_nil), (uo (uo (uo (uo (uo (uo (upOb_tl rfl (by repeat first | exact Tn.here | refine Tn.cons rfl ?_) rfl))))))), (upOut_cons rfl upT_nil (upOut_cons rfl (ut (ut (ut (ut (ut upT_nil))))) (upOut_cons rfl (ut (ut upT_nil)) (upOut_cons rfl upT_nil upOut_nil)))), (cl3 rfl (wi_cons rfl (wi_cons rfl (wi_cons rfl (wi_cons rfl (wi_cons rfl (wi_cons rfl (wi_tl rfl (by repeat first | exact Tn.here | refine Tn.cons rfl ?_) (fun _ => rfl) (sob rfl)))))))) rfl)⟩) ?_
           refine SafeOps.giveP (M := [12, 18]) (fun n : Int => I n) trace_seen.cells v69 ((gt a56 v60).Id) e72 (trace_seen.mk (api_Task.mk e72.Task.Id e72.Task.Tenant e72.Task.Prog e72.Task.Pc e72.Task.Unit e72.Task.Keeps 7 e72.Task.Ran) (gt a56 v60)) [12, 23, 16, 6, 17, 1] rfl rfl rfl rfl rfl (fun _ _ _ => rfl) (by repeat first | exact Tg.here | apply Tg.drop rfl rfl | apply Tg.cons rfl rfl) rfl rfl ?_
           refine SafeOps.nil ?_
           repeat first|apply sq|apply sk|with_reducible first|apply tn|apply bn
           refine Safe.region ?_
           refine Qf E_good ?_
           refine Qf E_good ?_
           refine SafeOps.nil ?_
           repeat first|apply sq|apply sk|with_reducible first|apply tn|apply bn
           refine Safe.ret ?_
           repeat (first | with_reducible refine thenQ.r ?_ | with_reducible refine blockQ.r ?_)
           refine inQ.gen (vs := [V.bool ((((e72.Task.State == 1) && (e72.last.Kind == 2)) && (e72.last.A == 9)) && (((gt a56 v60).A) == 0))]) (v := V.bool ((((e72.Task.State == 1) && (e72.last.Kind == 2)) && (e72.last.A == 9)) && (((gt a56 v60).A) == 0))) (.inr rfl) rfl (.tmp (v := V.bool ((((e72.Task.State == 1) && (e72.last.Kind == 2)) && (e72.last.A == 9)) && (((gt a56 v60).A) == 0))) rfl .nil) rfl ?_
           exact SafeOps.got (HJ6077 (((((e72.Task.State == 1) && (e72.last.Kind == 2)) && (e72.last.A == 9)) && (((gt a56 v60).A) == 0)), v68, mput v69 ((gt a56 v60).Id) (trace_seen.mk (api_Task.mk e72.Task.Id e72.Task.Tenant e72.Task.Prog e72.Task.Pc e72.Task.Unit e72.Task.Keeps 7 e72.Task.Ran) (gt a56 v60))) h) (.cov ⟨rfl, rfl, (ut upT_nil), (uo (uo (uo (upOb_tl rfl (by repeat first | exact Tn.here | refine Tn.cons rfl ?_) rfl)))), (upOut_cons rfl (ut (ut (ut (ut (ut upT_nil))))) (upOut_cons rfl (ut (ut upT_nil)) (upOut_cons rfl upT_nil upOut_nil))), (cl3 rfl (wi_cons rfl (wi_cons rfl (wi_cons rfl (wi_tl rfl (by repeat first | exact Tn.here | refine Tn.cons rfl ?_) (fun _ => rfl) nob)))) rfl)⟩)
          ·skip
           refine Safe.condN rfl hc6249 ?_
           repeat first|apply sq|apply sk|with_reducible first|apply tn|apply bn
           refine Safe.region ?_
           refine Qf E_good ?_
           refine Q0 E_good rfl (v := V.agg [I ((gt a56 v60).Kind), I ((gt a56 v60).Id), I ((gt a56 v60).A)]) (.load rfl rfl (.box rfl rfl) rfl) ?_
           refine Q0 E_good rfl (v := V.ptr [12, 23, 16, 6, 17, 1] 0 0) (.fn rfl) ?_
           refine Q0 E_good rfl (v := V.ptr [12, 23, 16, 6, 17, 1] 0 11) (.fn rfl) ?_
           refine SafeOps.store (z := Obj.box [I e72.Task.Id, I e72.Task.Tenant, I e72.Task.Prog, I e72.Task.Pc, I e72.Task.Unit, I e72.Task.Keeps.a0, I e72.Task.Keeps.a1, I e72.Task.Keeps.a2, I e72.Task.Keeps.a3, I e72.Task.State, I e72.Task.Ran, I ((gt a56 v60).Kind), I ((gt a56 v60).Id), I ((gt a56 v60).A)]) E_good rfl rfl rfl rfl rfl rfl rfl (.boxM (c := 14) rfl rfl (Nat.le_of_ble_eq_true rfl) rfl) ?_
           refine SafeOps.gets (τ := ⟨Tryd.f34.ntmps, [(9, V.bool ((((e72.Task.State == 1) && (e72.last.Kind == 2)) && (e72.last.A == 9)) && (((gt a56 v60).A) == 0)))], ([12, 7], Obj.box [V.ptr [12, 20] 0 0]) :: ([12, 20], Obj.box [V.sl 1 (rws (fun l => [V.sl 3 (rws api_Instr.cells l)]) a67), V.mapr [12, 18], V.ref [7000, 114, 12, 20, 2] 0 (rws (fun n => [I n]) v68).length]) :: ([12, 23, 16, 2], Obj.box [I ((gt a56 v60).Kind), I ((gt a56 v60).Id), I ((gt a56 v60).A)]) :: ([12, 23, 16, 6, 3], Obj.box [I ((gt a56 v60).Kind), I ((gt a56 v60).Id), I ((gt a56 v60).A)]) :: ([12, 23, 16, 6, 17, 1], Obj.box [I e72.Task.Id, I e72.Task.Tenant, I e72.Task.Prog, I e72.Task.Pc, I e72.Task.Unit, I e72.Task.Keeps.a0, I e72.Task.Keeps.a1, I e72.Task.Keeps.a2, I e72.Task.Keeps.a3, I e72.Task.State, I e72.Task.Ran, I ((gt a56 v60).Kind), I ((gt a56 v60).Id), I ((gt a56 v60).A)]) :: ([7000, 114, 12, 20, 2], Obj.rows 1 (rws (fun n => [I n]) v68) false) :: (pmo [12, 18] (fun n : Int => I n) trace_seen.cells (some (mix ((gt a56 v60).Id) v69, [12, 23, 16, 6, 17, 1])) (mput v69 ((gt a56 v60).Id) e72)), [(Tryd.f33.ntmps, []), (Tryd.f32.ntmps, [(0, V.sl 3 (rws api_Event.cells a56)), (1, V.fn 33 [V.ptr [12, 7] 0 0]), (5, I v60), (7, I (a56.length : Int)), (8, I v60)]), (Tryd.f25.ntmps, [(1, V.sl 3 (rws api_Event.cells a56)), (7, V.ptr [12, 7] 0 0)]), (Tryd.f11.ntmps, [])], [12, 23, 16, 6]⟩) (.cov ⟨rfl, rfl, (ut upT_nil), (uo (uo (uo (uo (uo (uo (upOb_tl rfl (by repeat first | exact Tn.here | refine Tn.cons rfl ?_) rfl))))))), (upOut_cons rfl upT_nil (upOut_cons rfl (ut (ut (ut (ut (ut upT_nil))))) (upOut_cons rfl (ut (ut upT_nil)) (upOut_cons rfl upT_nil upOut_nil)))), (cl3 rfl (wi_cons rfl (wi_cons rfl (wi_cons rfl (wi_cons rfl (wi_cons rfl (wi_cons rfl (wi_tl rfl (by repeat first | exact Tn.here | refine Tn.cons rfl ?_) (fun _ => rfl) (sob rfl)))))))) rfl)⟩) ?_
           refine SafeOps.giveP (M := [12, 18]) (fun n : Int => I n) trace_seen.cells v69 ((gt a56 v60).Id) e72 (trace_seen.mk e72.Task (gt a56 v60)) [12, 23, 16, 6, 17, 1] rfl rfl rfl rfl rfl (fun _ _ _ => rfl) (by repeat first | exact Tg.here | apply Tg.drop rfl rfl | apply Tg.cons rfl rfl) rfl rfl ?_
           refine SafeOps.nil ?_
           repeat first|apply sq|apply sk|with_reducible first|apply tn|apply bn
           refine Safe.region ?_
           refine Qf E_good ?_
           refine Qf E_good ?_
           refine SafeOps.nil ?_
           repeat first|apply sq|apply sk|with_reducible first|apply tn|apply bn
           refine Safe.ret ?_
           repeat (first | with_reducible refine thenQ.r ?_ | with_reducible refine blockQ.r ?_)
           refine inQ.gen (vs := [V.bool ((((e72.Task.State == 1) && (e72.last.Kind == 2)) && (e72.last.A == 9)) && (((gt a56 v60).A) == 0))]) (v := V.bool ((((e72.Task.State == 1) && (e72.last.Kind == 2)) && (e72.last.A == 9)) && (((gt a56 v60).A) == 0))) (.inr rfl) rfl (.tmp (v := V.bool ((((e72.Task.State == 1) && (e72.last.Kind == 2)) && (e72.last.A == 9)) && (((gt a56 v60).A) == 0))) rfl .nil) rfl ?_
           exact SafeOps.got (HJ6077 (((((e72.Task.State == 1) && (e72.last.Kind == 2)) && (e72.last.A == 9)) && (((gt a56 v60).A) == 0)), v68, mput v69 ((gt a56 v60).Id) (trace_seen.mk e72.Task (gt a56 v60))) h) (.cov ⟨rfl, rfl, (ut upT_nil), (uo (uo (uo (upOb_tl rfl (by repeat first | exact Tn.here | refine Tn.cons rfl ?_) rfl)))), (upOut_cons rfl (ut (ut (ut (ut (ut upT_nil))))) (upOut_cons rfl (ut (ut upT_nil)) (upOut_cons rfl upT_nil upOut_nil))), (cl3 rfl (wi_cons rfl (wi_cons rfl (wi_cons rfl (wi_tl rfl (by repeat first | exact Tn.here | refine Tn.cons rfl ?_) (fun _ => rfl) nob)))) rfl)⟩)
         ·skip
          refine Safe.condN rfl hc6245 ?_
          repeat first|apply sq|apply sk|with_reducible first|apply tn|apply bn
          refine Safe.region ?_
          refine Q0 E_good rfl (v := V.bool (((gt a56 v60).Kind) == 6)) (.fn rfl) ?_
          refine Qf E_good ?_
          refine SafeOps.nil ?_
          repeat first|apply sq|apply sk|with_reducible first|apply tn|apply bn
          refine ifG h (fun hc6250 h => ?_) (fun hc6250 h => ?_)
          ·skip
           refine Safe.condK rfl hc6250 ?_
           repeat first|apply sq|apply sk|with_reducible first|apply tn|apply bn
           refine Safe.region ?_
           refine Qf E_good ?_
           refine Q0 E_good rfl (v := V.ptr [12, 23, 16, 6, 17, 1] 0 0) (.fn rfl) ?_
           refine Q0 E_good rfl (v := V.ptr [12, 23, 16, 6, 17, 1] 0 0) (.fn rfl) ?_
           refine Q0 E_good rfl (v := V.ptr [12, 23, 16, 6, 17, 1] 0 9) (.fn rfl) ?_
           refine Q0 E_good rfl (v := I e72.Task.State) (.load rfl rfl (.box rfl rfl) rfl) ?_
           refine Q0 E_good rfl (v := V.bool (e72.Task.State != 7)) (.fn rfl) ?_
           refine Qf E_good ?_
           refine SafeOps.bjoin 4 129 (b := ((e72.Task.State != 7) && (((gt a56 v60).A) == 0))) (b1 := (((gt a56 v60).A) == 0)) (b0 := false) (fun hc6251 K => ?_) (fun hc6251 K => ?_) bj_and ?_
           ·skip
            refine qT E_good hc6251 (v := V.ptr [12, 23, 16, 6, 3] 0 2) (.fn rfl) ?_
            refine qT E_good hc6251 (v := I ((gt a56 v60).A)) (.load rfl rfl (.box rfl rfl) rfl) ?_
            refine qT E_good hc6251 (v := V.bool (((gt a56 v60).A) == 0)) (.fn rfl) ?_
            refine Q0 E_good rfl (v := V.bool (((gt a56 v60).A) == 0)) (.pickK rfl hc6251 rfl) ?_
            exact SafeOps.drop' 4 rfl rfl rfl K
           ·skip
            refine sT hc6251 ?_
            refine sT hc6251 ?_
            refine sT hc6251 ?_
            refine Q0 E_good rfl (v := V.bool false) (.pickK rfl hc6251 rfl) ?_
            exact SafeOps.drop' 4 rfl rfl rfl K
           refine Qf E_good ?_
           refine SafeOps.nil ?_
           repeat first|apply sq|apply sk|with_reducible first|apply tn|apply bn
           refine Safe.region ?_
           refine Qf E_good ?_
           refine SafeOps.nil ?_
           repeat first|apply sq|apply sk|with_reducible first|apply tn|apply bn
           refine ifG h (fun hc6252 h => ?_) (fun hc6252 h => ?_)
           ·skip
            refine Safe.condK rfl hc6252 ?_
            repeat first|apply sq|apply sk|with_reducible first|apply tn|apply bn
            refine Safe.region ?_
            refine Qf E_good ?_
            refine Q0 E_good rfl (v := V.ptr [12, 23, 16, 6, 17, 1] 0 0) (.fn rfl) ?_
            refine Q0 E_good rfl (v := V.ptr [12, 23, 16, 6, 17, 1] 0 0) (.fn rfl) ?_
            refine Q0 E_good rfl (v := V.ptr [12, 23, 16, 6, 17, 1] 0 9) (.fn rfl) ?_
            refine SafeOps.store (z := Obj.box [I e72.Task.Id, I e72.Task.Tenant, I e72.Task.Prog, I e72.Task.Pc, I e72.Task.Unit, I e72.Task.Keeps.a0, I e72.Task.Keeps.a1, I e72.Task.Keeps.a2, I e72.Task.Keeps.a3, I 7, I e72.Task.Ran, I e72.last.Kind, I e72.last.Id, I e72.last.A]) E_good rfl rfl rfl rfl rfl rfl rfl (.boxM (c := 14) rfl rfl (Nat.le_of_ble_eq_true rfl) rfl) ?_
            refine SafeOps.nil ?_
            repeat first|apply sq|apply sk|with_reducible first|apply tn|apply bn
            refine Safe.region ?_
            refine Qf E_good ?_
            refine Q0 E_good rfl (v := V.agg [I ((gt a56 v60).Kind), I ((gt a56 v60).Id), I ((gt a56 v60).A)]) (.load rfl rfl (.box rfl rfl) rfl) ?_
            refine Q0 E_good rfl (v := V.ptr [12, 23, 16, 6, 17, 1] 0 0) (.fn rfl) ?_
            refine Q0 E_good rfl (v := V.ptr [12, 23, 16, 6, 17, 1] 0 11) (.fn rfl) ?_
            refine SafeOps.store (z := Obj.box [I e72.Task.Id, I e72.Task.Tenant, I e72.Task.Prog, I e72.Task.Pc, I e72.Task.Unit, I e72.Task.Keeps.a0, I e72.Task.Keeps.a1, I e72.Task.Keeps.a2, I e72.Task.Keeps.a3, I 7, I e72.Task.Ran, I ((gt a56 v60).Kind), I ((gt a56 v60).Id), I ((gt a56 v60).A)]) E_good rfl rfl rfl rfl rfl rfl rfl (.boxM (c := 14) rfl rfl (Nat.le_of_ble_eq_true rfl) rfl) ?_
            refine SafeOps.gets (τ := ⟨Tryd.f34.ntmps, [(9, V.bool ((e72.Task.State != 7) && (((gt a56 v60).A) == 0)))], ([12, 7], Obj.box [V.ptr [12, 20] 0 0]) :: ([12, 20], Obj.box [V.sl 1 (rws (fun l => [V.sl 3 (rws api_Instr.cells l)]) a67), V.mapr [12, 18], V.ref [7000, 114, 12, 20, 2] 0 (rws (fun n => [I n]) v68).length]) :: ([12, 23, 16, 2], Obj.box [I ((gt a56 v60).Kind), I ((gt a56 v60).Id), I ((gt a56 v60).A)]) :: ([12, 23, 16, 6, 3], Obj.box [I ((gt a56 v60).Kind), I ((gt a56 v60).Id), I ((gt a56 v60).A)]) :: ([12, 23, 16, 6, 17, 1], Obj.box [I e72.Task.Id, I e72.Task.Tenant, I e72.Task.Prog, I e72.Task.Pc, I e72.Task.Unit, I e72.Task.Keeps.a0, I e72.Task.Keeps.a1, I e72.Task.Keeps.a2, I e72.Task.Keeps.a3, I 7, I e72.Task.Ran, I ((gt a56 v60).Kind), I ((gt a56 v60).Id), I ((gt a56 v60).A)]) :: ([7000, 114, 12, 20, 2], Obj.rows 1 (rws (fun n => [I n]) v68) false) :: (pmo [12, 18] (fun n : Int => I n) trace_seen.cells (some (mix ((gt a56 v60).Id) v69, [12, 23, 16, 6, 17, 1])) (mput v69 ((gt a56 v60).Id) e72)), [(Tryd.f33.ntmps, []), (Tryd.f32.ntmps, [(0, V.sl 3 (rws api_Event.cells a56)), (1, V.fn 33 [V.ptr [12, 7] 0 0]), (5, I v60), (7, I (a56.length : Int)), (8, I v60)]), (Tryd.f25.ntmps, [(1, V.sl 3 (rws api_Event.cells a56)), (7, V.ptr [12, 7] 0 0)]), (Tryd.f11.ntmps, [])], [12, 23, 16, 6]⟩) (.cov ⟨rfl, rfl, (ut upT_nil), (uo (uo (uo (uo (uo (uo (upOb_tl rfl (by repeat first | exact Tn.here | refine Tn.cons rfl ?_) rfl))))))), (upOut_cons rfl upT_nil (upOut_cons rfl (ut (ut (ut (ut (ut upT_nil))))) (upOut_cons rfl (ut (ut upT_nil)) (upOut_cons rfl upT_nil upOut_nil)))), (cl3 rfl (wi_cons rfl (wi_cons rfl (wi_cons rfl (wi_cons rfl (wi_cons rfl (wi_cons rfl (wi_tl rfl (by repeat first | exact Tn.here | refine Tn.cons rfl ?_) (fun _ => rfl) (sob rfl)))))))) rfl)⟩) ?_
            refine SafeOps.giveP (M := [12, 18]) (fun n : Int => I n) trace_seen.cells v69 ((gt a56 v60).Id) e72 (trace_seen.mk (api_Task.mk e72.Task.Id e72.Task.Tenant e72.Task.Prog e72.Task.Pc e72.Task.Unit e72.Task.Keeps 7 e72.Task.Ran) (gt a56 v60)) [12, 23, 16, 6, 17, 1] rfl rfl rfl rfl rfl (fun _ _ _ => rfl) (by repeat first | exact Tg.here | apply Tg.drop rfl rfl | apply Tg.cons rfl rfl) rfl rfl ?_
            refine SafeOps.nil ?_
            repeat first|apply sq|apply sk|with_reducible first|apply tn|apply bn
            refine Safe.region ?_
            refine Qf E_good ?_
            refine Qf E_good ?_
            refine SafeOps.nil ?_
            repeat first|apply sq|apply sk|with_reducible first|apply tn|apply bn
            refine Safe.ret ?_
            repeat (first | with_reducible refine thenQ.r ?_ | with_reducible refine blockQ.r ?_)
            refine inQ.gen (vs := [V.bool ((e72.Task.State != 7) && (((gt a56 v60).A) == 0))]) (v := V.bool ((e72.Task.State != 7) && (((gt a56 v60).A) == 0))) (.inr rfl) rfl (.tmp (v := V.bool ((e72.Task.State != 7) && (((gt a56 v60).A) == 0))) rfl .nil) rfl ?_
            exact SafeOps.got (HJ6077 (((e72.Task.State != 7) && (((gt a56 v60).A) == 0)), v68, mput v69 ((gt a56 v60).Id) (trace_seen.mk (api_Task.mk e72.Task.Id e72.Task.Tenant e72.Task.Prog e72.Task.Pc e72.Task.Unit e72.Task.Keeps 7 e72.Task.Ran) (gt a56 v60))) h) (.cov ⟨rfl, rfl, (ut upT_nil), (uo (uo (uo (upOb_tl rfl (by repeat first | exact Tn.here | refine Tn.cons rfl ?_) rfl)))), (upOut_cons rfl (ut (ut (ut (ut (ut upT_nil))))) (upOut_cons rfl (ut (ut upT_nil)) (upOut_cons rfl upT_nil upOut_nil))), (cl3 rfl (wi_cons rfl (wi_cons rfl (wi_cons rfl (wi_tl rfl (by repeat first | exact Tn.here | refine Tn.cons rfl ?_) (fun _ => rfl) nob)))) rfl)⟩)
           ·skip
            refine Safe.condN rfl hc6252 ?_
            repeat first|apply sq|apply sk|with_reducible first|apply tn|apply bn
            refine Safe.region ?_
            refine Qf E_good ?_
            refine Q0 E_good rfl (v := V.agg [I ((gt a56 v60).Kind), I ((gt a56 v60).Id), I ((gt a56 v60).A)]) (.load rfl rfl (.box rfl rfl) rfl) ?_
            refine Q0 E_good rfl (v := V.ptr [12, 23, 16, 6, 17, 1] 0 0) (.fn rfl) ?_
            refine Q0 E_good rfl (v := V.ptr [12, 23, 16, 6, 17, 1] 0 11) (.fn rfl) ?_
            refine SafeOps.store (z := Obj.box [I e72.Task.Id, I e72.Task.Tenant, I e72.Task.Prog, I e72.Task.Pc, I e72.Task.Unit, I e72.Task.Keeps.a0, I e72.Task.Keeps.a1, I e72.Task.Keeps.a2, I e72.Task.Keeps.a3, I e72.Task.State, I e72.Task.Ran, I ((gt a56 v60).Kind), I ((gt a56 v60).Id), I ((gt a56 v60).A)]) E_good rfl rfl rfl rfl rfl rfl rfl (.boxM (c := 14) rfl rfl (Nat.le_of_ble_eq_true rfl) rfl) ?_
            refine SafeOps.gets (τ := ⟨Tryd.f34.ntmps, [(9, V.bool ((e72.Task.State != 7) && (((gt a56 v60).A) == 0)))], ([12, 7], Obj.box [V.ptr [12, 20] 0 0]) :: ([12, 20], Obj.box [V.sl 1 (rws (fun l => [V.sl 3 (rws api_Instr.cells l)]) a67), V.mapr [12, 18], V.ref [7000, 114, 12, 20, 2] 0 (rws (fun n => [I n]) v68).length]) :: ([12, 23, 16, 2], Obj.box [I ((gt a56 v60).Kind), I ((gt a56 v60).Id), I ((gt a56 v60).A)]) :: ([12, 23, 16, 6, 3], Obj.box [I ((gt a56 v60).Kind), I ((gt a56 v60).Id), I ((gt a56 v60).A)]) :: ([12, 23, 16, 6, 17, 1], Obj.box [I e72.Task.Id, I e72.Task.Tenant, I e72.Task.Prog, I e72.Task.Pc, I e72.Task.Unit, I e72.Task.Keeps.a0, I e72.Task.Keeps.a1, I e72.Task.Keeps.a2, I e72.Task.Keeps.a3, I e72.Task.State, I e72.Task.Ran, I ((gt a56 v60).Kind), I ((gt a56 v60).Id), I ((gt a56 v60).A)]) :: ([7000, 114, 12, 20, 2], Obj.rows 1 (rws (fun n => [I n]) v68) false) :: (pmo [12, 18] (fun n : Int => I n) trace_seen.cells (some (mix ((gt a56 v60).Id) v69, [12, 23, 16, 6, 17, 1])) (mput v69 ((gt a56 v60).Id) e72)), [(Tryd.f33.ntmps, []), (Tryd.f32.ntmps, [(0, V.sl 3 (rws api_Event.cells a56)), (1, V.fn 33 [V.ptr [12, 7] 0 0]), (5, I v60), (7, I (a56.length : Int)), (8, I v60)]), (Tryd.f25.ntmps, [(1, V.sl 3 (rws api_Event.cells a56)), (7, V.ptr [12, 7] 0 0)]), (Tryd.f11.ntmps, [])], [12, 23, 16, 6]⟩) (.cov ⟨rfl, rfl, (ut upT_nil), (uo (uo (uo (uo (uo (uo (upOb_tl rfl (by repeat first | exact Tn.here | refine Tn.cons rfl ?_) rfl))))))), (upOut_cons rfl upT_nil (upOut_cons rfl (ut (ut (ut (ut (ut upT_nil))))) (upOut_cons rfl (ut (ut upT_nil)) (upOut_cons rfl upT_nil upOut_nil)))), (cl3 rfl (wi_cons rfl (wi_cons rfl (wi_cons rfl (wi_cons rfl (wi_cons rfl (wi_cons rfl (wi_tl rfl (by repeat first | exact Tn.here | refine Tn.cons rfl ?_) (fun _ => rfl) (sob rfl)))))))) rfl)⟩) ?_
            refine SafeOps.giveP (M := [12, 18]) (fun n : Int => I n) trace_seen.cells v69 ((gt a56 v60).Id) e72 (trace_seen.mk e72.Task (gt a56 v60)) [12, 23, 16, 6, 17, 1] rfl rfl rfl rfl rfl (fun _ _ _ => rfl) (by repeat first | exact Tg.here | apply Tg.drop rfl rfl | apply Tg.cons rfl rfl) rfl rfl ?_
            refine SafeOps.nil ?_
            repeat first|apply sq|apply sk|with_reducible first|apply tn|apply bn
            refine Safe.region ?_
            refine Qf E_good ?_
            refine Qf E_good ?_
            refine SafeOps.nil ?_
            repeat first|apply sq|apply sk|with_reducible first|apply tn|apply bn
            refine Safe.ret ?_
            repeat (first | with_reducible refine thenQ.r ?_ | with_reducible refine blockQ.r ?_)
            refine inQ.gen (vs := [V.bool ((e72.Task.State != 7) && (((gt a56 v60).A) == 0))]) (v := V.bool ((e72.Task.State != 7) && (((gt a56 v60).A) == 0))) (.inr rfl) rfl (.tmp (v := V.bool ((e72.Task.State != 7) && (((gt a56 v60).A) == 0))) rfl .nil) rfl ?_
            exact SafeOps.got (HJ6077 (((e72.Task.State != 7) && (((gt a56 v60).A) == 0)), v68, mput v69 ((gt a56 v60).Id) (trace_seen.mk e72.Task (gt a56 v60))) h) (.cov ⟨rfl, rfl, (ut upT_nil), (uo (uo (uo (upOb_tl rfl (by repeat first | exact Tn.here | refine Tn.cons rfl ?_) rfl)))), (upOut_cons rfl (ut (ut (ut (ut (ut upT_nil))))) (upOut_cons rfl (ut (ut upT_nil)) (upOut_cons rfl upT_nil upOut_nil))), (cl3 rfl (wi_cons rfl (wi_cons rfl (wi_cons rfl (wi_tl rfl (by repeat first | exact Tn.here | refine Tn.cons rfl ?_) (fun _ => rfl) nob)))) rfl)⟩)
          ·skip
           refine Safe.condN rfl hc6250 ?_
           repeat first|apply sq|apply sk|with_reducible first|apply tn|apply bn
           refine Safe.region ?_
           refine Qf E_good ?_
           refine Q0 E_good rfl (v := V.agg [I ((gt a56 v60).Kind), I ((gt a56 v60).Id), I ((gt a56 v60).A)]) (.load rfl rfl (.box rfl rfl) rfl) ?_
           refine Q0 E_good rfl (v := V.ptr [12, 23, 16, 6, 17, 1] 0 0) (.fn rfl) ?_
           refine Q0 E_good rfl (v := V.ptr [12, 23, 16, 6, 17, 1] 0 11) (.fn rfl) ?_
           refine SafeOps.store (z := Obj.box [I e72.Task.Id, I e72.Task.Tenant, I e72.Task.Prog, I e72.Task.Pc, I e72.Task.Unit, I e72.Task.Keeps.a0, I e72.Task.Keeps.a1, I e72.Task.Keeps.a2, I e72.Task.Keeps.a3, I e72.Task.State, I e72.Task.Ran, I ((gt a56 v60).Kind), I ((gt a56 v60).Id), I ((gt a56 v60).A)]) E_good rfl rfl rfl rfl rfl rfl rfl (.boxM (c := 14) rfl rfl (Nat.le_of_ble_eq_true rfl) rfl) ?_
           refine SafeOps.gets (τ := ⟨Tryd.f34.ntmps, [(9, V.bool false)], ([12, 7], Obj.box [V.ptr [12, 20] 0 0]) :: ([12, 20], Obj.box [V.sl 1 (rws (fun l => [V.sl 3 (rws api_Instr.cells l)]) a67), V.mapr [12, 18], V.ref [7000, 114, 12, 20, 2] 0 (rws (fun n => [I n]) v68).length]) :: ([12, 23, 16, 2], Obj.box [I ((gt a56 v60).Kind), I ((gt a56 v60).Id), I ((gt a56 v60).A)]) :: ([12, 23, 16, 6, 3], Obj.box [I ((gt a56 v60).Kind), I ((gt a56 v60).Id), I ((gt a56 v60).A)]) :: ([12, 23, 16, 6, 17, 1], Obj.box [I e72.Task.Id, I e72.Task.Tenant, I e72.Task.Prog, I e72.Task.Pc, I e72.Task.Unit, I e72.Task.Keeps.a0, I e72.Task.Keeps.a1, I e72.Task.Keeps.a2, I e72.Task.Keeps.a3, I e72.Task.State, I e72.Task.Ran, I ((gt a56 v60).Kind), I ((gt a56 v60).Id), I ((gt a56 v60).A)]) :: ([7000, 114, 12, 20, 2], Obj.rows 1 (rws (fun n => [I n]) v68) false) :: (pmo [12, 18] (fun n : Int => I n) trace_seen.cells (some (mix ((gt a56 v60).Id) v69, [12, 23, 16, 6, 17, 1])) (mput v69 ((gt a56 v60).Id) e72)), [(Tryd.f33.ntmps, []), (Tryd.f32.ntmps, [(0, V.sl 3 (rws api_Event.cells a56)), (1, V.fn 33 [V.ptr [12, 7] 0 0]), (5, I v60), (7, I (a56.length : Int)), (8, I v60)]), (Tryd.f25.ntmps, [(1, V.sl 3 (rws api_Event.cells a56)), (7, V.ptr [12, 7] 0 0)]), (Tryd.f11.ntmps, [])], [12, 23, 16, 6]⟩) (.cov ⟨rfl, rfl, (ut upT_nil), (uo (uo (uo (uo (uo (uo (upOb_tl rfl (by repeat first | exact Tn.here | refine Tn.cons rfl ?_) rfl))))))), (upOut_cons rfl upT_nil (upOut_cons rfl (ut (ut (ut (ut (ut upT_nil))))) (upOut_cons rfl (ut (ut upT_nil)) (upOut_cons rfl upT_nil upOut_nil)))), (cl3 rfl (wi_cons rfl (wi_cons rfl (wi_cons rfl (wi_cons rfl (wi_cons rfl (wi_cons rfl (wi_tl rfl (by repeat first | exact Tn.here | refine Tn.cons rfl ?_) (fun _ => rfl) (sob rfl)))))))) rfl)⟩) ?_
           refine SafeOps.giveP (M := [12, 18]) (fun n : Int => I n) trace_seen.cells v69 ((gt a56 v60).Id) e72 (trace_seen.mk e72.Task (gt a56 v60)) [12, 23, 16, 6, 17, 1] rfl rfl rfl rfl rfl (fun _ _ _ => rfl) (by repeat first | exact Tg.here | apply Tg.drop rfl rfl | apply Tg.cons rfl rfl) rfl rfl ?_
           refine SafeOps.nil ?_
           repeat first|apply sq|apply sk|with_reducible first|apply tn|apply bn
           refine Safe.region ?_
           refine Qf E_good ?_
           refine Qf E_good ?_
           refine SafeOps.nil ?_
           repeat first|apply sq|apply sk|with_reducible first|apply tn|apply bn
           refine Safe.ret ?_
           repeat (first | with_reducible refine thenQ.r ?_ | with_reducible refine blockQ.r ?_)
           refine inQ.gen (vs := [V.bool false]) (v := V.bool false) (.inr rfl) rfl (.tmp (v := V.bool false) rfl .nil) rfl ?_
           exact SafeOps.got (HJ6077 (false, v68, mput v69 ((gt a56 v60).Id) (trace_seen.mk e72.Task (gt a56 v60))) h) (.cov ⟨rfl, rfl, (ut upT_nil), (uo (uo (uo (upOb_tl rfl (by repeat first | exact Tn.here | refine Tn.cons rfl ?_) rfl)))), (upOut_cons rfl (ut (ut (ut (ut (ut upT_nil))))) (upOut_cons rfl (ut (ut upT_nil)) (upOut_cons rfl upT_nil upOut_nil))), (cl3 rfl (wi_cons rfl (wi_cons rfl (wi_cons rfl (wi_tl rfl (by repeat first | exact Tn.here | refine Tn.cons rfl ?_) (fun _ => rfl) nob)))) rfl)⟩)
   ·skip
    refine Safe.condN rfl hc5734 ?_
    repeat first|apply sq|apply sk|with_reducible first|apply tn|apply bn
    refine Safe.exit ?_
    repeat (first | with_reducible refine thenQ.e ?_ | with_reducible refine blockQ.x rfl ?_ | with_reducible refine blockQ.y rfl ?_)
    replace h := inr_out h hr5733
    repeat first|apply sq|apply sk|with_reducible first|apply tn|apply bn
    refine Safe.region ?_
    refine Qf E_good ?_
    refine SafeOps.nil ?_
    repeat first|apply sq|apply sk|with_reducible first|apply tn|apply bn
    refine Safe.ret ?_
    repeat (first | with_reducible refine thenQ.r ?_ | with_reducible refine blockQ.r ?_)
    refine inQ.gen (vs := [I (-1)]) (v := I (-1)) (.inr rfl) rfl (.tmp (v := I (-1)) rfl .nil) rfl ?_
    exact SafeOps.got (HJ5110 (-1, v68, v69) h) (.cov ⟨rfl, rfl, (ut (ut (ut upT_nil))), (uo (uo (uo (upOb_tl rfl (by repeat first | exact Tn.here | refine Tn.cons rfl ?_) rfl)))), (upOut_cons rfl upT_nil upOut_nil), (cl3 rfl (wi_cons rfl (wi_cons rfl (wi_cons rfl (wi_tl rfl (by repeat first | exact Tn.here | refine Tn.cons rfl ?_) (fun _ => rfl) nob)))) rfl)⟩)

noncomputable def go_ravellaw18_live  : Option Bool :=
 (go_trace_Check [[(api_Instr.mk 1 1 0), (api_Instr.mk 9 0 0)]] [(api_Event.mk 1 7 0), (api_Event.mk 2 7 1), (api_Event.mk 2 7 9), (api_Event.mk 5 7 0)]).bind fun (x83, x84) =>
 some ((x84 == 0) && (x83 == 4))

theorem go_ravellaw18_live_sc  (r : Bool) (h : go_ravellaw18_live  = some r) : SC Tryd.prog gl 9 [] (V.bool r) := by
 rw [go_ravellaw18_live] at h
 refine SC.of E_good Tryd.func9 rfl (fun _ _ => Tryd.call9 _ _) rfl ?_
 repeat first|apply sq|apply sk|with_reducible first|apply tn|apply bn
 refine Safe.region ?_
 refine Qf E_good ?_
 refine SafeOps.nil ?_
 repeat first|apply sq|apply sk|with_reducible first|apply tn|apply bn
 refine Safe.region ?_
 refine Q0 E_good rfl (v := V.agg [I 1, I 1, I 0]) (.fn rfl) ?_
 refine Q0 E_good rfl (v := V.agg [I 9, I 0, I 0]) (.fn rfl) ?_
 refine SafeOps.quiet1 E_good rfl rfl rfl (.litM (f := api_Instr.cells) (xs := [(api_Instr.mk 1 1 0), (api_Instr.mk 9 0 0)]) rfl rfl (by decide) rfl rfl rfl rfl rfl) rfl ?_
 refine SafeOps.freeze [7] rfl ?_
 refine SafeOps.see 7 (u := V.sl 3 (rws api_Instr.cells [(api_Instr.mk 1 1 0), (api_Instr.mk 9 0 0)])) rfl (.full rfl rfl) ?_
 refine SafeOps.quiet1 E_good rfl rfl rfl (.litM (f := (fun l => [V.sl 3 (rws api_Instr.cells l)])) (xs := [[(api_Instr.mk 1 1 0), (api_Instr.mk 9 0 0)]]) rfl rfl (by decide) rfl rfl rfl rfl rfl) rfl ?_
 refine Qf E_good ?_
 refine SafeOps.nil ?_
 repeat first|apply sq|apply sk|with_reducible first|apply tn|apply bn
 refine Safe.region ?_
 refine Q0 E_good rfl (v := V.agg [I 1, I 7, I 0]) (.fn rfl) ?_
 refine Q0 E_good rfl (v := V.agg [I 2, I 7, I 1]) (.fn rfl) ?_
 refine Q0 E_good rfl (v := V.agg [I 2, I 7, I 9]) (.fn rfl) ?_
 refine Q0 E_good rfl (v := V.agg [I 5, I 7, I 0]) (.fn rfl) ?_
 refine SafeOps.quiet1 E_good rfl rfl rfl (.litM (f := api_Event.cells) (xs := [(api_Event.mk 1 7 0), (api_Event.mk 2 7 1), (api_Event.mk 2 7 9), (api_Event.mk 5 7 0)]) rfl rfl (by decide) rfl rfl rfl rfl rfl) rfl ?_
 refine Qf E_good ?_
 refine SafeOps.nil ?_
 repeat first|apply sq|apply sk|with_reducible first|apply tn|apply bn
 refine Safe.region ?_
 refine Qf E_good ?_
 refine Qf E_good ?_
 refine bindG h ?_
 rintro ⟨x83, x84⟩ he6259 h
 refine Q0 E_good rfl (v := V.tup [I x83, I x84]) (.callS rfl (.cons (.full rfl rfl) (.cons (.full rfl rfl) .nil)) (go_trace_Check_sc [[(api_Instr.mk 1 1 0), (api_Instr.mk 9 0 0)]] [(api_Event.mk 1 7 0), (api_Event.mk 2 7 1), (api_Event.mk 2 7 9), (api_Event.mk 5 7 0)] _ he6259) (.tupL (.cons (.plain rfl) (.cons (.plain rfl) .nil))) rfl) ?_
 refine Qf E_good ?_
 refine Qf E_good ?_
 refine Qf E_good ?_
 refine Qf E_good ?_
 refine Qf E_good ?_
 refine SafeOps.nil ?_
 repeat first|apply sq|apply sk|with_reducible first|apply tn|apply bn
 refine Safe.region ?_
 refine Qf E_good ?_
 refine Q0 E_good rfl (v := V.bool (x84 == 0)) (.fn rfl) ?_
 refine Qf E_good ?_
 refine SafeOps.bjoin 3 25 (b := ((x84 == 0) && (x83 == 4))) (b1 := (x83 == 4)) (b0 := false) (fun hc6260 K => ?_) (fun hc6260 K => ?_) bj_and ?_
 ·skip
  refine qT E_good hc6260 (.fn rfl) ?_
  refine qT E_good hc6260 (v := V.bool (x83 == 4)) (.fn rfl) ?_
  refine Q0 E_good rfl (v := V.bool (x83 == 4)) (.pickK rfl hc6260 rfl) ?_
  exact SafeOps.drop' 3 rfl rfl rfl K
 ·skip
  refine sT hc6260 ?_
  refine sT hc6260 ?_
  refine Q0 E_good rfl (v := V.bool false) (.pickK rfl hc6260 rfl) ?_
  exact SafeOps.drop' 3 rfl rfl rfl K
 refine Qf E_good ?_
 refine SafeOps.nil ?_
 repeat first|apply sq|apply sk|with_reducible first|apply tn|apply bn
 refine Safe.ret ?_
 repeat (first | with_reducible refine thenQ.r ?_ | with_reducible refine blockQ.r ?_)
 obtain rfl := Option.some.inj h
 exact retQ.gen (vs := [V.bool ((x84 == 0) && (x83 == 4))]) rfl (.tmp rfl .nil) (.free rfl) (by simp) (.inr rfl)

noncomputable def go_ravelref04_Few_s1 (a85 : List (List api_Instr)) : (Int) → Option ((Int) ⊕ (Bool))
 | v86 =>
  if (decide (v86 < (a85.length : Int))) = true then
   if 0 ≤ v86 ∧ v86 < (a85.length : Int) then
    if (decide (((gt a85 v86).length : Int) > 100)) = true then
     inrO (
      some false)
    else
     nextO (IntKind.i64.wrap (v86 + 1))
   else none
  else
   inrO (
    some (decide ((a85.length : Int) ≤ 100)))

noncomputable def go_ravelref04_Few (a85 : List (List api_Instr)) : Option Bool :=
 whileO (go_ravelref04_Few_s1 a85) 0

theorem go_ravelref04_Few_sc (a85 : List (List api_Instr)) (r : Bool) (h : go_ravelref04_Few a85 = some r) : SC Tryd.prog gl 10 [V.sl 1 (rws (fun l => [V.sl 3 (rws api_Instr.cells l)]) a85)] (V.bool r) := by
 rw [go_ravelref04_Few] at h
 refine SC.of E_good Tryd.func10 rfl (fun _ _ => Tryd.call10 _ _) rfl ?_
 repeat first|apply sq|apply sk|with_reducible first|apply tn|apply bn
 refine Safe.region ?_
 refine Qf E_good ?_
 refine SafeOps.nil ?_
 repeat first|apply sq|apply sk|with_reducible first|apply tn|apply bn
 refine Safe.region ?_
 refine Qf E_good ?_
 refine Q0 E_good rfl (v := I (a85.length : Int)) (.fnE rfl lenE) ?_
 refine Qf E_good ?_
 refine SafeOps.nil ?_
 repeat first|apply sq|apply sk|with_reducible first|apply tn|apply bn
 refine Safe.block ?_
 repeat first|apply sq|apply sk|with_reducible first|apply tn|apply bn
 refine Safe.loopW (fun (v86 : Int) => ⟨Tryd.f10.ntmps, [(0, V.sl 1 (rws (fun l => [V.sl 3 (rws api_Instr.cells l)]) a85)), (5, V.sl 1 (rws (fun l => [V.sl 3 (rws api_Instr.cells l)]) a85)), (6, I (a85.length : Int)), (7, I v86)], [], [], []⟩) h (.cov ⟨rfl, rfl, (ut (ut (ut (ut upT_nil)))), upOb_nil, upOut_nil, rfl⟩) ?_
 intro v86 ohr6285 h hr6285
 replace h : go_ravelref04_Few_s1 a85 v86 = some ohr6285 := h
 rw [go_ravelref04_Few_s1] at h
 repeat first|apply sq|apply sk|with_reducible first|apply tn|apply bn
 refine Safe.region ?_
 refine Q0 E_good rfl (v := V.bool (decide (v86 < (a85.length : Int)))) (.fn rfl) ?_
 refine SafeOps.nil ?_
 repeat first|apply sq|apply sk|with_reducible first|apply tn|apply bn
 refine ifG h (fun hc6286 h => ?_) (fun hc6286 h => ?_)
 ·skip
  refine Safe.condK rfl hc6286 ?_
  repeat first|apply sq|apply sk|with_reducible first|apply tn|apply bn
  refine Safe.block ?_
  repeat first|apply sq|apply sk|with_reducible first|apply tn|apply bn
  refine Safe.region ?_
  refine okG h (fun hb6287 h => ?_)
  refine Q0 E_good rfl (v := V.spt 1 (rws (fun l => [V.sl 3 (rws api_Instr.cells l)]) a85) (Int.toNat v86) 0) (.idxSlM (f := (fun l => [V.sl 3 (rws api_Instr.cells l)])) rfl rfl rfl rfl rfl hb6287) ?_
  refine Q0 E_good rfl (v := V.sl 3 (rws api_Instr.cells (gt a85 v86))) (.load rfl rfl (.sptM (f := (fun l => [V.sl 3 (rws api_Instr.cells l)])) hb6287 rfl) rfl) ?_
  refine Qf E_good ?_
  refine SafeOps.nil ?_
  repeat first|apply sq|apply sk|with_reducible first|apply tn|apply bn
  refine Safe.region ?_
  refine Qf E_good ?_
  refine Q0 E_good rfl (v := I ((gt a85 v86).length : Int)) (.fnE rfl lenE) ?_
  refine Q0 E_good rfl (v := V.bool (decide (((gt a85 v86).length : Int) > 100))) (.fn rfl) ?_
  refine SafeOps.nil ?_
  repeat first|apply sq|apply sk|with_reducible first|apply tn|apply bn
  refine ifG h (fun hc6288 h => ?_) (fun hc6288 h => ?_)
  ·skip
   refine Safe.condK rfl hc6288 ?_
   repeat first|apply sq|apply sk|with_reducible first|apply tn|apply bn
   refine Safe.region ?_
   refine Qf E_good ?_
   refine SafeOps.nil ?_
   repeat first|apply sq|apply sk|with_reducible first|apply tn|apply bn
   refine Safe.ret ?_
   repeat (first | with_reducible refine thenQ.r ?_ | with_reducible refine blockQ.r ?_)
   replace h := inr_out h hr6285
   obtain rfl := Option.some.inj h
   exact retQ.gen (vs := [V.bool false]) rfl (.tmp rfl .nil) (.free rfl) (by simp) (.inr rfl)
  ·skip
   refine Safe.condN rfl hc6288 ?_
   repeat first|apply sq|apply sk|with_reducible first|apply tn|apply bn
   refine Safe.region ?_
   refine Q0 E_good rfl (v := I (IntKind.i64.wrap (v86 + 1))) (.fn rfl) ?_
   refine Qf E_good ?_
   refine SafeOps.nil ?_
   repeat first|apply sq|apply sk|with_reducible first|apply tn|apply bn
   exact ⟨_, next_out h, (.cov ⟨rfl, rfl, (ut (ut (ut (ut upT_nil)))), upOb_nil, upOut_nil, rfl⟩)⟩
 ·skip
  refine Safe.condN rfl hc6286 ?_
  repeat first|apply sq|apply sk|with_reducible first|apply tn|apply bn
  refine Safe.exit ?_
  repeat (first | with_reducible refine thenQ.e ?_ | with_reducible refine blockQ.x rfl ?_ | with_reducible refine blockQ.y rfl ?_)
  replace h := inr_out h hr6285
  repeat first|apply sq|apply sk|with_reducible first|apply tn|apply bn
  refine Safe.region ?_
  refine Qf E_good ?_
  refine Q0 E_good rfl (v := I (a85.length : Int)) (.fnE rfl lenE) ?_
  refine Q0 E_good rfl (v := V.bool (decide ((a85.length : Int) ≤ 100))) (.fn rfl) ?_
  refine Qf E_good ?_
  refine SafeOps.nil ?_
  repeat first|apply sq|apply sk|with_reducible first|apply tn|apply bn
  refine Safe.ret ?_
  repeat (first | with_reducible refine thenQ.r ?_ | with_reducible refine blockQ.r ?_)
  obtain rfl := Option.some.inj h
  exact retQ.gen (vs := [V.bool (decide ((a85.length : Int) ≤ 100))]) rfl (.tmp rfl .nil) (.free rfl) (by simp) (.inr rfl)

noncomputable def go_trace_Of_s1 (a97 : List api_Event) (a98 : Int) : ((List api_Event) × Int) → Option (((List api_Event) × Int) ⊕ (List api_Event))
 | (v99, v100) =>
  if (decide (v100 < (a97.length : Int))) = true then
   if 0 ≤ v100 ∧ v100 < (a97.length : Int) then
    if (((gt a97 v100).Id) == a98) = true then
     if few (v99 ++ [(gt a97 v100)]).length then
      nextO (v99 ++ [(gt a97 v100)], IntKind.i64.wrap (v100 + 1))
     else none
    else
     nextO (v99, IntKind.i64.wrap (v100 + 1))
   else none
  else
   inrO (
    some v99)

noncomputable def go_trace_Of (a97 : List api_Event) (a98 : Int) : Option (List api_Event) :=
 whileO (go_trace_Of_s1 a97 a98) ([], 0)

theorem go_trace_Of_sc (a97 : List api_Event) (a98 : Int) (r : List api_Event) (h : go_trace_Of a97 a98 = some r) : SC Tryd.prog gl 13 [V.sl 3 (rws api_Event.cells a97), I a98] (V.own 3 (rws api_Event.cells r)) := by
 rw [go_trace_Of] at h
 refine SC.of E_good Tryd.func13 rfl (fun _ _ => Tryd.call13 _ _) rfl ?_
 repeat first|apply sq|apply sk|with_reducible first|apply tn|apply bn
 refine Safe.region ?_
 refine Qf E_good ?_
 refine SafeOps.nil ?_
 repeat first|apply sq|apply sk|with_reducible first|apply tn|apply bn
 refine Safe.region ?_
 refine Qf E_good ?_
 refine Q0 E_good rfl (v := I (a97.length : Int)) (.fnE rfl lenE) ?_
 refine Qf E_good ?_
 refine SafeOps.nil ?_
 repeat first|apply sq|apply sk|with_reducible first|apply tn|apply bn
 refine Safe.block ?_
 repeat first|apply sq|apply sk|with_reducible first|apply tn|apply bn
 refine Safe.loopW (fun ((v99, v100) : (List api_Event) × Int) => ⟨Tryd.f13.ntmps, [(1, I a98), (4, V.ref [7000, 118, 4] 0 (rws api_Event.cells v99).length), (7, V.sl 3 (rws api_Event.cells a97)), (8, I (a97.length : Int)), (9, I v100)], [([7000, 118, 4], Obj.rows 3 (rws api_Event.cells v99) false)], [], []⟩) h (.empty [7000, 118, 4] 3 rfl (.cov ⟨rfl, rfl, (ut (upT_cons (.nilref _) (ut (ut (ut upT_nil))))), (uo upOb_nil), upOut_nil, rfl⟩)) ?_
 rintro ⟨v99, v100⟩ ohr6382 h hr6382
 replace h : go_trace_Of_s1 a97 a98 (v99, v100) = some ohr6382 := h
 rw [go_trace_Of_s1] at h
 repeat first|apply sq|apply sk|with_reducible first|apply tn|apply bn
 refine Safe.region ?_
 refine Q0 E_good rfl (v := V.bool (decide (v100 < (a97.length : Int)))) (.fn rfl) ?_
 refine SafeOps.nil ?_
 repeat first|apply sq|apply sk|with_reducible first|apply tn|apply bn
 refine ifG h (fun hc6383 h => ?_) (fun hc6383 h => ?_)
 ·skip
  refine Safe.condK rfl hc6383 ?_
  repeat first|apply sq|apply sk|with_reducible first|apply tn|apply bn
  refine Safe.block ?_
  repeat first|apply sq|apply sk|with_reducible first|apply tn|apply bn
  refine Safe.region ?_
  refine okG h (fun hb6384 h => ?_)
  refine Q0 E_good rfl (v := V.spt 3 (rws api_Event.cells a97) (Int.toNat v100) 0) (.idxSlM (f := api_Event.cells) rfl rfl rfl rfl rfl hb6384) ?_
  refine Q0 E_good rfl (v := V.agg [I ((gt a97 v100).Kind), I ((gt a97 v100).Id), I ((gt a97 v100).A)]) (.load rfl rfl (.sptM (f := api_Event.cells) hb6384 rfl) rfl) ?_
  refine SafeOps.quiet1 E_good rfl rfl rfl (.alloc rfl rfl) rfl ?_
  refine SafeOps.store (z := Obj.box [I ((gt a97 v100).Kind), I ((gt a97 v100).Id), I ((gt a97 v100).A)]) E_good rfl rfl rfl rfl rfl rfl rfl (.boxM (c := 3) rfl rfl (Nat.le_of_ble_eq_true rfl) rfl) ?_
  refine SafeOps.nil ?_
  repeat first|apply sq|apply sk|with_reducible first|apply tn|apply bn
  refine Safe.region ?_
  refine Q0 E_good rfl (v := V.ptr [6] 0 1) (.fn rfl) ?_
  refine Q0 E_good rfl (v := I ((gt a97 v100).Id)) (.load rfl rfl (.box rfl rfl) rfl) ?_
  refine Qf E_good ?_
  refine Q0 E_good rfl (v := V.bool (((gt a97 v100).Id) == a98)) (.fn rfl) ?_
  refine SafeOps.nil ?_
  repeat first|apply sq|apply sk|with_reducible first|apply tn|apply bn
  refine ifG h (fun hc6385 h => ?_) (fun hc6385 h => ?_)
  ·skip
   refine Safe.condK rfl hc6385 ?_
   repeat first|apply sq|apply sk|with_reducible first|apply tn|apply bn
   refine Safe.region ?_
   refine Qf E_good ?_
   refine Q0 E_good rfl (v := V.agg [I ((gt a97 v100).Kind), I ((gt a97 v100).Id), I ((gt a97 v100).A)]) (.load rfl rfl (.box rfl rfl) rfl) ?_
   refine SafeOps.quiet1 E_good rfl rfl rfl (.litM (f := api_Event.cells) (xs := [(gt a97 v100)]) rfl rfl (by decide) rfl rfl rfl rfl rfl) rfl ?_
   refine okG h (fun hb6386 h => ?_)
   refine SafeOps.appendM api_Event.cells (xs := v99) (ys := [(gt a97 v100)]) E_good rfl rfl rfl rfl rfl rfl rfl rfl rfl (.own rfl) (.own rfl) (fun _ => rfl) hb6386 ?_
   refine Qf E_good ?_
   refine SafeOps.nil ?_
   repeat first|apply sq|apply sk|with_reducible first|apply tn|apply bn
   refine Safe.region ?_
   refine Q0 E_good rfl (v := I (IntKind.i64.wrap (v100 + 1))) (.fn rfl) ?_
   refine Qf E_good ?_
   refine SafeOps.nil ?_
   repeat first|apply sq|apply sk|with_reducible first|apply tn|apply bn
   exact ⟨_, next_out h, (.ren [20] [7000, 118, 4] (.cov ⟨rfl, rfl, (ut (ut (ut (ut (ut upT_nil))))), (uo upOb_nil), upOut_nil, rfl⟩))⟩
  ·skip
   refine Safe.condN rfl hc6385 ?_
   repeat first|apply sq|apply sk|with_reducible first|apply tn|apply bn
   refine Safe.region ?_
   refine Q0 E_good rfl (v := I (IntKind.i64.wrap (v100 + 1))) (.fn rfl) ?_
   refine Qf E_good ?_
   refine SafeOps.nil ?_
   repeat first|apply sq|apply sk|with_reducible first|apply tn|apply bn
   exact ⟨_, next_out h, (.cov ⟨rfl, rfl, (ut (ut (ut (ut (ut upT_nil))))), (uo upOb_nil), upOut_nil, rfl⟩)⟩
 ·skip
  refine Safe.condN rfl hc6383 ?_
  repeat first|apply sq|apply sk|with_reducible first|apply tn|apply bn
  refine Safe.exit ?_
  repeat (first | with_reducible refine thenQ.e ?_ | with_reducible refine blockQ.x rfl ?_ | with_reducible refine blockQ.y rfl ?_)
  replace h := inr_out h hr6382
  repeat first|apply sq|apply sk|with_reducible first|apply tn|apply bn
  refine Safe.region ?_
  refine Qf E_good ?_
  refine Qf E_good ?_
  refine SafeOps.nil ?_
  repeat first|apply sq|apply sk|with_reducible first|apply tn|apply bn
  refine Safe.ret ?_
  repeat (first | with_reducible refine thenQ.r ?_ | with_reducible refine blockQ.r ?_)
  obtain rfl := Option.some.inj h
  exact retQ.gen (vs := [V.ref [7000, 118, 4] 0 (rws api_Event.cells v99).length]) rfl (.tmp rfl .nil) (by exact (.own rfl rfl)) (by simp) (.inr rfl)
end Go.Proofs.YtpkegoikocfchaaDoor
