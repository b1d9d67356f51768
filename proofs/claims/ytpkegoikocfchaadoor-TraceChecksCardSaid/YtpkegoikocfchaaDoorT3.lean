/- Helper lemmas for the claim's theorem: an abstract machine over the model, proved sound; no condition beyond each lemma's own. -/
import Derived.Test.YtpkegoikocfchaaDoorT2
set_option linter.unusedVariables false
set_option linter.unusedSimpArgs false
set_option linter.unnecessarySimpa false
set_option linter.unusedSectionVars false
namespace Go.Proofs.YtpkegoikocfchaaDoor
open Go Go.AM
set_option maxRecDepth 100000
set_option maxHeartbeats 1000000
set_option linter.unusedVariables false
set_option linter.unusedSimpArgs false
noncomputable def go_ravelref18_One_s1 (a166 : List (List api_Instr)) (a167 : List api_Event) : (Int × Int × Int × Int × Int × Int × Int × Int × Int × Int × Int × Int) → Option ((Int × Int × Int × Int × Int × Int × Int × Int × Int × Int × Int × Int) ⊕ (api_Task × Bool))
 | (v168, v169, v170, v171, v172, v173, v174, v175, v176, v177, v178, v179) =>
  if (decide (v168 < (a167.length : Int))) = true then
   if 0 ≤ v168 ∧ v168 < (a167.length : Int) then
    if (v168 == 0) = true then
     (go_ravelref12_New ((gt a167 v168).Id) 0 ((gt a167 v168).A)).bind fun (x180, x181) =>
     if (((((gt a167 v168).Kind) != 1) || (x181 != 0)) || (decide (((gt a167 v168).A) ≥ (a166.length : Int)))) = true then
      inrO (
       some ((api_Task.mk v169 v170 v171 v172 v173 (A4_Int.mk v174 v175 v176 v177) v178 v179), false))
     else
      nextO (IntKind.i64.wrap (v168 + 1), x180.Id, x180.Tenant, x180.Prog, x180.Pc, x180.Unit, x180.Keeps.a0, x180.Keeps.a1, x180.Keeps.a2, x180.Keeps.a3, x180.State, x180.Ran)
    else
     if 0 ≤ (IntKind.i64.wrap (v168 - 1)) ∧ (IntKind.i64.wrap (v168 - 1)) < (a167.length : Int) then
      if (((gt a167 v168).Kind) == 2) = true then
       if 0 ≤ v171 ∧ v171 < (a166.length : Int) then
        (go_ravelref13_Next (api_Task.mk v169 v170 v171 v172 v173 (A4_Int.mk v174 v175 v176 v177) v178 v179) (gt a166 v171)).bind fun (x182, x183) =>
        if (((!(v178 == 1)) || ((((gt a167 (IntKind.i64.wrap (v168 - 1))).Kind) == 2) && (((gt a167 (IntKind.i64.wrap (v168 - 1))).A) == 9))) || (((gt a167 v168).A) != x182.Op)) = true then
         inrO (
          some ((api_Task.mk v169 v170 v171 v172 v173 (A4_Int.mk v174 v175 v176 v177) v178 v179), false))
        else
         (go_ravelref13_Do (api_Task.mk v169 v170 v171 v172 v173 (A4_Int.mk v174 v175 v176 v177) 2 v179) (gt a166 v171)).bind fun (x184, x185, x186) =>
         if (x186 != 0) = true then
          inrO (
           some ((api_Task.mk v169 v170 v171 v172 v173 (A4_Int.mk v174 v175 v176 v177) 2 v179), false))
         else
          nextO (IntKind.i64.wrap (v168 + 1), x184.Id, x184.Tenant, x184.Prog, x184.Pc, x184.Unit, x184.Keeps.a0, x184.Keeps.a1, x184.Keeps.a2, x184.Keeps.a3, 1, x184.Ran)
       else none
      else
       if (((gt a167 v168).Kind) == 3) = true then
        if (!(v178 == 1)) = true then
         inrO (
          some ((api_Task.mk v169 v170 v171 v172 v173 (A4_Int.mk v174 v175 v176 v177) v178 v179), false))
        else
         if (((gt a167 (IntKind.i64.wrap (v168 - 1))).Kind) != 2) = true then
          inrO (
           some ((api_Task.mk v169 v170 v171 v172 v173 (A4_Int.mk v174 v175 v176 v177) v178 v179), false))
         else
          if (((gt a167 v168).A) == 0) = true then
           inrO (
            some ((api_Task.mk v169 v170 v171 v172 v173 (A4_Int.mk v174 v175 v176 v177) v178 v179), false))
          else
           if (((gt a167 v168).A) != (go_ravelref18_Held ((gt a167 (IntKind.i64.wrap (v168 - 1))).A))) = true then
            inrO (
             some ((api_Task.mk v169 v170 v171 v172 v173 (A4_Int.mk v174 v175 v176 v177) v178 v179), false))
           else
            nextO (IntKind.i64.wrap (v168 + 1), v169, v170, v171, v172, v173, v174, v175, v176, v177, (gt a167 v168).A, v179)
       else
        if (((gt a167 v168).Kind) == 4) = true then
         if ((!(go_ravelref12_Waits v178)) || (((gt a167 v168).A) != 0)) = true then
          inrO (
           some ((api_Task.mk v169 v170 v171 v172 v173 (A4_Int.mk v174 v175 v176 v177) v178 v179), false))
         else
          nextO (IntKind.i64.wrap (v168 + 1), v169, v170, v171, v172, v173, v174, v175, v176, v177, 1, v179)
        else
         if (((gt a167 v168).Kind) == 5) = true then
          if ((((!(v178 == 1)) || (((gt a167 (IntKind.i64.wrap (v168 - 1))).Kind) != 2)) || (((gt a167 (IntKind.i64.wrap (v168 - 1))).A) != 9)) || (((gt a167 v168).A) != 0)) = true then
           inrO (
            some ((api_Task.mk v169 v170 v171 v172 v173 (A4_Int.mk v174 v175 v176 v177) v178 v179), false))
          else
           nextO (IntKind.i64.wrap (v168 + 1), v169, v170, v171, v172, v173, v174, v175, v176, v177, 7, v179)
         else
          if (((((gt a167 v168).Kind) != 6) || (v178 == 7)) || (((gt a167 v168).A) != 0)) = true then
           inrO (
            some ((api_Task.mk v169 v170 v171 v172 v173 (A4_Int.mk v174 v175 v176 v177) v178 v179), false))
          else
           nextO (IntKind.i64.wrap (v168 + 1), v169, v170, v171, v172, v173, v174, v175, v176, v177, 7, v179)
     else none
   else none
  else
   inrO (
    some ((api_Task.mk v169 v170 v171 v172 v173 (A4_Int.mk v174 v175 v176 v177) v178 v179), true))

noncomputable def go_ravelref18_One (a166 : List (List api_Instr)) (a167 : List api_Event) : Option (api_Task × Bool) :=
 whileO (go_ravelref18_One_s1 a166 a167) (0, 0, 0, 0, 0, 0, 0, 0, 0, 0, 0, 0)

theorem go_ravelref18_One_sc (a166 : List (List api_Instr)) (a167 : List api_Event) (r : api_Task × Bool) (h : go_ravelref18_One a166 a167 = some r) : SC Tryd.prog gl 30 [V.sl 1 (rws (fun l => [V.sl 3 (rws api_Instr.cells l)]) a166), V.sl 3 (rws api_Event.cells a167)] (V.tup [V.agg [I r.1.Id, I r.1.Tenant, I r.1.Prog, I r.1.Pc, I r.1.Unit, I r.1.Keeps.a0, I r.1.Keeps.a1, I r.1.Keeps.a2, I r.1.Keeps.a3, I r.1.State, I r.1.Ran], V.bool r.2]) := by
 rw [go_ravelref18_One] at h
 refine SC.of E_good Tryd.func30 rfl (fun _ _ => Tryd.call30 _ _) rfl ?_
 repeat first|apply sq|apply sk|with_reducible first|apply tn|apply bn
 refine Safe.region ?_
 refine SafeOps.quiet1 E_good rfl rfl rfl (.alloc rfl rfl) rfl ?_
 refine Qf E_good ?_
 refine SafeOps.nil ?_
 repeat first|apply sq|apply sk|with_reducible first|apply tn|apply bn
 refine Safe.region ?_
 refine Q0 E_good rfl (v := V.agg [I 0, I 0, I 0, I 0, I 0, I 0, I 0, I 0, I 0, I 0, I 0]) (.fn rfl) ?_
 refine SafeOps.quiet1 E_good rfl rfl rfl (.alloc rfl rfl) rfl ?_
 refine SafeOps.store (z := Obj.box [I 0, I 0, I 0, I 0, I 0, I 0, I 0, I 0, I 0, I 0, I 0]) E_good rfl rfl rfl rfl rfl rfl rfl (.boxM (c := 11) rfl rfl (Nat.le_of_ble_eq_true rfl) rfl) ?_
 refine SafeOps.nil ?_
 repeat first|apply sq|apply sk|with_reducible first|apply tn|apply bn
 refine Safe.region ?_
 refine Qf E_good ?_
 refine Q0 E_good rfl (v := I (a167.length : Int)) (.fnE rfl lenE) ?_
 refine Qf E_good ?_
 refine SafeOps.nil ?_
 repeat first|apply sq|apply sk|with_reducible first|apply tn|apply bn
 refine Safe.block ?_
 repeat first|apply sq|apply sk|with_reducible first|apply tn|apply bn
 refine Safe.loopW (fun ((v168, v169, v170, v171, v172, v173, v174, v175, v176, v177, v178, v179) : Int × Int × Int × Int × Int × Int × Int × Int × Int × Int × Int × Int) => ⟨Tryd.f30.ntmps, [(0, V.sl 1 (rws (fun l => [V.sl 3 (rws api_Instr.cells l)]) a166)), (1, V.sl 3 (rws api_Event.cells a167)), (4, V.ptr [4] 0 0), (6, V.ptr [6] 0 0), (20, V.sl 3 (rws api_Event.cells a167)), (21, I (a167.length : Int)), (22, I v168)], [([4], Obj.box [I 0, I 0, I 0, I 0, I 0, I 0, I 0, I 0, I 0, I 0, I 0]), ([6], Obj.box [I v169, I v170, I v171, I v172, I v173, I v174, I v175, I v176, I v177, I v178, I v179])], [], []⟩) h (.cov ⟨rfl, rfl, (ut (ut (ut (ut (ut (ut (ut upT_nil))))))), (uo (uo upOb_nil)), upOut_nil, rfl⟩) ?_
 rintro ⟨v168, v169, v170, v171, v172, v173, v174, v175, v176, v177, v178, v179⟩ ohr19634 h hr19634
 replace h : go_ravelref18_One_s1 a166 a167 (v168, v169, v170, v171, v172, v173, v174, v175, v176, v177, v178, v179) = some ohr19634 := h
 rw [go_ravelref18_One_s1] at h
 repeat first|apply sq|apply sk|with_reducible first|apply tn|apply bn
 refine Safe.region ?_
 refine Q0 E_good rfl (v := V.bool (decide (v168 < (a167.length : Int)))) (.fn rfl) ?_
 refine SafeOps.nil ?_
 repeat first|apply sq|apply sk|with_reducible first|apply tn|apply bn
 refine ifG h (fun hc19635 h => ?_) (fun hc19635 h => ?_)
 ·skip
  refine Safe.condK rfl hc19635 ?_
  repeat first|apply sq|apply sk|with_reducible first|apply tn|apply bn
  refine Safe.block ?_
  repeat first|apply sq|apply sk|with_reducible first|apply tn|apply bn
  refine Safe.region ?_
  refine Qf E_good ?_
  refine okG h (fun hb19636 h => ?_)
  refine Q0 E_good rfl (v := V.spt 3 (rws api_Event.cells a167) (Int.toNat v168) 0) (.idxSlM (f := api_Event.cells) rfl rfl rfl rfl rfl hb19636) ?_
  refine Q0 E_good rfl (v := V.agg [I ((gt a167 v168).Kind), I ((gt a167 v168).Id), I ((gt a167 v168).A)]) (.load rfl rfl (.sptM (f := api_Event.cells) hb19636 rfl) rfl) ?_
  refine SafeOps.quiet1 E_good rfl rfl rfl (.alloc rfl rfl) rfl ?_
  refine Qf E_good ?_
  refine SafeOps.store (z := Obj.box [I ((gt a167 v168).Kind), I ((gt a167 v168).Id), I ((gt a167 v168).A)]) E_good rfl rfl rfl rfl rfl rfl rfl (.boxM (c := 3) rfl rfl (Nat.le_of_ble_eq_true rfl) rfl) ?_
  refine SafeOps.nil ?_
  repeat first|apply sq|apply sk|with_reducible first|apply tn|apply bn
  refine Safe.region ?_
  refine Qf E_good ?_
  refine Q0 E_good rfl (v := V.bool (v168 == 0)) (.fn rfl) ?_
  refine SafeOps.nil ?_
  repeat first|apply sq|apply sk|with_reducible first|apply tn|apply bn
  refine ifG h (fun hc19643 h => ?_) (fun hc19643 h => ?_)
  ·skip
   refine Safe.condK rfl hc19643 ?_
   repeat first|apply sq|apply sk|with_reducible first|apply tn|apply bn
   refine Safe.region ?_
   refine Q0 E_good rfl (v := V.ptr [8] 0 1) (.fn rfl) ?_
   refine Q0 E_good rfl (v := I ((gt a167 v168).Id)) (.load rfl rfl (.box rfl rfl) rfl) ?_
   refine Q0 E_good rfl (v := V.ptr [8] 0 2) (.fn rfl) ?_
   refine Q0 E_good rfl (v := I ((gt a167 v168).A)) (.load rfl rfl (.box rfl rfl) rfl) ?_
   refine bindG h ?_
   rintro ⟨x180, x181⟩ he19646 h
   refine Q0 E_good rfl (v := V.tup [V.agg [I x180.Id, I x180.Tenant, I x180.Prog, I x180.Pc, I x180.Unit, I x180.Keeps.a0, I x180.Keeps.a1, I x180.Keeps.a2, I x180.Keeps.a3, I x180.State, I x180.Ran], I x181]) (.callP rfl rfl (go_ravelref12_New_sc ((gt a167 v168).Id) 0 ((gt a167 v168).A) _ he19646) rfl) ?_
   refine Qf E_good ?_
   refine Qf E_good ?_
   refine Qf E_good ?_
   refine SafeOps.quiet1 E_good rfl rfl rfl (.alloc rfl rfl) rfl ?_
   refine SafeOps.store (z := Obj.box [I x180.Id, I x180.Tenant, I x180.Prog, I x180.Pc, I x180.Unit, I x180.Keeps.a0, I x180.Keeps.a1, I x180.Keeps.a2, I x180.Keeps.a3, I x180.State, I x180.Ran]) E_good rfl rfl rfl rfl rfl rfl rfl (.boxM (c := 11) rfl rfl (Nat.le_of_ble_eq_true rfl) rfl) ?_
   refine Qf E_good ?_
   refine SafeOps.nil ?_
   repeat first|apply sq|apply sk|with_reducible first|apply tn|apply bn
   refine Safe.region ?_
   refine Q0 E_good rfl (v := V.ptr [8] 0 0) (.fn rfl) ?_
   refine Q0 E_good rfl (v := I ((gt a167 v168).Kind)) (.load rfl rfl (.box rfl rfl) rfl) ?_
   refine Q0 E_good rfl (v := V.bool (((gt a167 v168).Kind) != 1)) (.fn rfl) ?_
   refine Qf E_good ?_
   refine SafeOps.bjoin 3 43 (b := ((((gt a167 v168).Kind) != 1) || (x181 != 0))) (b1 := true) (b0 := (x181 != 0)) (fun hc19647 K => ?_) (fun hc19647 K => ?_) bj_or ?_
   ·skip
    refine sF hc19647 ?_
    refine sF hc19647 ?_
    refine Q0 E_good rfl (v := V.bool true) (.pickK rfl hc19647 rfl) ?_
    exact SafeOps.drop' 3 rfl rfl rfl K
   ·skip
    refine qF E_good hc19647 (.fn rfl) ?_
    refine qF E_good hc19647 (v := V.bool (x181 != 0)) (.fn rfl) ?_
    refine Q0 E_good rfl (v := V.bool (x181 != 0)) (.pickK rfl hc19647 rfl) ?_
    exact SafeOps.drop' 3 rfl rfl rfl K
   refine Qf E_good ?_
   refine SafeOps.bjoin 6 50 (b := (((((gt a167 v168).Kind) != 1) || (x181 != 0)) || (decide (((gt a167 v168).A) ≥ (a166.length : Int))))) (b1 := true) (b0 := decide (((gt a167 v168).A) ≥ (a166.length : Int))) (fun hc19648 K => ?_) (fun hc19648 K => ?_) bj_or ?_
   ·skip
    refine sF hc19648 ?_
    refine sF hc19648 ?_
    refine sF hc19648 ?_
    refine sF hc19648 ?_
    refine sF hc19648 ?_
    refine Q0 E_good rfl (v := V.bool true) (.pickK rfl hc19648 rfl) ?_
    exact SafeOps.drop' 6 rfl rfl rfl K
   ·skip
    refine qF E_good hc19648 (v := V.ptr [8] 0 2) (.fn rfl) ?_
    refine qF E_good hc19648 (v := I ((gt a167 v168).A)) (.load rfl rfl (.box rfl rfl) rfl) ?_
    refine qF E_good hc19648 (.fn rfl) ?_
    refine qF E_good hc19648 (v := I (a166.length : Int)) (.fnE rfl lenE) ?_
    refine qF E_good hc19648 (v := V.bool (decide (((gt a167 v168).A) ≥ (a166.length : Int)))) (.fn rfl) ?_
    refine Q0 E_good rfl (v := V.bool (decide (((gt a167 v168).A) ≥ (a166.length : Int)))) (.pickK rfl hc19648 rfl) ?_
    exact SafeOps.drop' 6 rfl rfl rfl K
   refine SafeOps.nil ?_
   repeat first|apply sq|apply sk|with_reducible first|apply tn|apply bn
   refine ifG h (fun hc19649 h => ?_) (fun hc19649 h => ?_)
   ·skip
    refine Safe.condK rfl hc19649 ?_
    repeat first|apply sq|apply sk|with_reducible first|apply tn|apply bn
    refine Safe.region ?_
    refine Q0 E_good rfl (v := V.agg [I v169, I v170, I v171, I v172, I v173, I v174, I v175, I v176, I v177, I v178, I v179]) (.load rfl rfl (.box rfl rfl) rfl) ?_
    refine SafeOps.store (z := Obj.box [I v169, I v170, I v171, I v172, I v173, I v174, I v175, I v176, I v177, I v178, I v179]) E_good rfl rfl rfl rfl rfl rfl rfl (.boxM (c := 11) rfl rfl (Nat.le_of_ble_eq_true rfl) rfl) ?_
    refine Qf E_good ?_
    refine SafeOps.nil ?_
    repeat first|apply sq|apply sk|with_reducible first|apply tn|apply bn
    refine Safe.ret ?_
    repeat (first | with_reducible refine thenQ.r ?_ | with_reducible refine blockQ.r ?_)
    replace h := inr_out h hr19634
    obtain rfl := Option.some.inj h
    exact retQ.gen (vs := [V.agg [I v169, I v170, I v171, I v172, I v173, I v174, I v175, I v176, I v177, I v178, I v179], V.bool false]) rfl (.cell (v := V.agg [I v169, I v170, I v171, I v172, I v173, I v174, I v175, I v176, I v177, I v178, I v179]) rfl rfl (.box rfl rfl) rfl (.tmp rfl .nil)) (.free rfl) (by simp) (.inr rfl)
   ·skip
    refine Safe.condN rfl hc19649 ?_
    repeat first|apply sq|apply sk|with_reducible first|apply tn|apply bn
    refine Safe.region ?_
    refine Q0 E_good rfl (v := V.agg [I x180.Id, I x180.Tenant, I x180.Prog, I x180.Pc, I x180.Unit, I x180.Keeps.a0, I x180.Keeps.a1, I x180.Keeps.a2, I x180.Keeps.a3, I x180.State, I x180.Ran]) (.load rfl rfl (.box rfl rfl) rfl) ?_
    refine SafeOps.store (z := Obj.box [I x180.Id, I x180.Tenant, I x180.Prog, I x180.Pc, I x180.Unit, I x180.Keeps.a0, I x180.Keeps.a1, I x180.Keeps.a2, I x180.Keeps.a3, I x180.State, I x180.Ran]) E_good rfl rfl rfl rfl rfl rfl rfl (.boxM (c := 11) rfl rfl (Nat.le_of_ble_eq_true rfl) rfl) ?_
    refine SafeOps.nil ?_
    repeat first|apply sq|apply sk|with_reducible first|apply tn|apply bn
    refine Safe.exit ?_
    repeat (first | with_reducible refine thenQ.e ?_ | with_reducible refine blockQ.x rfl ?_ | with_reducible refine blockQ.y rfl ?_)
    repeat first|apply sq|apply sk|with_reducible first|apply tn|apply bn
    refine Safe.region ?_
    refine Q0 E_good rfl (v := I (IntKind.i64.wrap (v168 + 1))) (.fn rfl) ?_
    refine Qf E_good ?_
    refine SafeOps.nil ?_
    repeat first|apply sq|apply sk|with_reducible first|apply tn|apply bn
    exact ⟨_, next_out h, (.cov ⟨rfl, rfl, (ut (ut (ut (ut (ut (ut (ut upT_nil))))))), (uo (uo upOb_nil)), upOut_nil, rfl⟩)⟩
  ·skip
   refine Safe.condN rfl hc19643 ?_
   repeat first|apply sq|apply sk|with_reducible first|apply tn|apply bn
   refine Safe.region ?_
   refine Qf E_good ?_
   refine Qf E_good ?_
   refine Q0 E_good rfl (v := I (IntKind.i64.wrap (v168 - 1))) (.fn rfl) ?_
   refine okG h (fun hb19650 h => ?_)
   refine Q0 E_good rfl (v := V.spt 3 (rws api_Event.cells a167) (Int.toNat (IntKind.i64.wrap (v168 - 1))) 0) (.idxSlM (f := api_Event.cells) rfl rfl rfl rfl rfl hb19650) ?_
   refine Q0 E_good rfl (v := V.agg [I ((gt a167 (IntKind.i64.wrap (v168 - 1))).Kind), I ((gt a167 (IntKind.i64.wrap (v168 - 1))).Id), I ((gt a167 (IntKind.i64.wrap (v168 - 1))).A)]) (.load rfl rfl (.sptM (f := api_Event.cells) hb19650 rfl) rfl) ?_
   refine SafeOps.quiet1 E_good rfl rfl rfl (.alloc rfl rfl) rfl ?_
   refine SafeOps.store (z := Obj.box [I ((gt a167 (IntKind.i64.wrap (v168 - 1))).Kind), I ((gt a167 (IntKind.i64.wrap (v168 - 1))).Id), I ((gt a167 (IntKind.i64.wrap (v168 - 1))).A)]) E_good rfl rfl rfl rfl rfl rfl rfl (.boxM (c := 3) rfl rfl (Nat.le_of_ble_eq_true rfl) rfl) ?_
   refine SafeOps.nil ?_
   repeat first|apply sq|apply sk|with_reducible first|apply tn|apply bn
   refine Safe.region ?_
   refine Q0 E_good rfl (v := V.ptr [6] 0 9) (.fn rfl) ?_
   refine Q0 E_good rfl (v := I v178) (.load rfl rfl (.box rfl rfl) rfl) ?_
   refine Q0 E_good rfl (v := V.bool (v178 == 1)) (.fn rfl) ?_
   refine Qf E_good ?_
   refine SafeOps.nil ?_
   repeat first|apply sq|apply sk|with_reducible first|apply tn|apply bn
   refine Safe.region ?_
   refine Q0 E_good rfl (v := V.ptr [8] 0 0) (.fn rfl) ?_
   refine Q0 E_good rfl (v := I ((gt a167 v168).Kind)) (.load rfl rfl (.box rfl rfl) rfl) ?_
   refine Q0 E_good rfl (v := V.bool (((gt a167 v168).Kind) == 2)) (.fn rfl) ?_
   refine SafeOps.nil ?_
   repeat first|apply sq|apply sk|with_reducible first|apply tn|apply bn
   refine ifG h (fun hc19651 h => ?_) (fun hc19651 h => ?_)
   ·skip
    refine Safe.condK rfl hc19651 ?_
    repeat first|apply sq|apply sk|with_reducible first|apply tn|apply bn
    refine Safe.region ?_
    refine Qf E_good ?_
    refine Q0 E_good rfl (v := V.ptr [6] 0 2) (.fn rfl) ?_
    refine Q0 E_good rfl (v := I v171) (.load rfl rfl (.box rfl rfl) rfl) ?_
    refine okG h (fun hb19652 h => ?_)
    refine Q0 E_good rfl (v := V.spt 1 (rws (fun l => [V.sl 3 (rws api_Instr.cells l)]) a166) (Int.toNat v171) 0) (.idxSlM (f := (fun l => [V.sl 3 (rws api_Instr.cells l)])) rfl rfl rfl rfl rfl hb19652) ?_
    refine Q0 E_good rfl (v := V.sl 3 (rws api_Instr.cells (gt a166 v171))) (.load rfl rfl (.sptM (f := (fun l => [V.sl 3 (rws api_Instr.cells l)])) hb19652 rfl) rfl) ?_
    refine Qf E_good ?_
    refine SafeOps.nil ?_
    repeat first|apply sq|apply sk|with_reducible first|apply tn|apply bn
    refine Safe.region ?_
    refine Q0 E_good rfl (v := V.agg [I v169, I v170, I v171, I v172, I v173, I v174, I v175, I v176, I v177, I v178, I v179]) (.load rfl rfl (.box rfl rfl) rfl) ?_
    refine Qf E_good ?_
    refine bindG h ?_
    rintro ⟨x182, x183⟩ he19655 h
    refine Q0 E_good rfl (v := V.tup [V.agg [I x182.Op, I x182.A, I x182.B], I x183]) (.callP rfl rfl (go_ravelref13_Next_sc (api_Task.mk v169 v170 v171 v172 v173 (A4_Int.mk v174 v175 v176 v177) v178 v179) (gt a166 v171) _ he19655) rfl) ?_
    refine Qf E_good ?_
    refine Qf E_good ?_
    refine Qf E_good ?_
    refine SafeOps.quiet1 E_good rfl rfl rfl (.alloc rfl rfl) rfl ?_
    refine SafeOps.store (z := Obj.box [I x182.Op, I x182.A, I x182.B]) E_good rfl rfl rfl rfl rfl rfl rfl (.boxM (c := 3) rfl rfl (Nat.le_of_ble_eq_true rfl) rfl) ?_
    refine Qf E_good ?_
    refine SafeOps.nil ?_
    repeat first|apply sq|apply sk|with_reducible first|apply tn|apply bn
    refine Safe.region ?_
    refine Qf E_good ?_
    refine Q0 E_good rfl (v := V.bool (!(v178 == 1))) (.fn rfl) ?_
    refine Qf E_good ?_
    refine SafeOps.bjoin 9 86 (b := ((!(v178 == 1)) || ((((gt a167 (IntKind.i64.wrap (v168 - 1))).Kind) == 2) && (((gt a167 (IntKind.i64.wrap (v168 - 1))).A) == 9)))) (b1 := true) (b0 := ((((gt a167 (IntKind.i64.wrap (v168 - 1))).Kind) == 2) && (((gt a167 (IntKind.i64.wrap (v168 - 1))).A) == 9))) (fun hc19656 K => ?_) (fun hc19656 K => ?_) bj_or ?_
    ·skip
     refine sF hc19656 ?_
     refine sF hc19656 ?_
     refine sF hc19656 ?_
     refine sF hc19656 ?_
     refine SafeOps.skip rfl rfl rfl ?_
     refine SafeOps.skip rfl rfl rfl ?_
     refine SafeOps.skip rfl rfl rfl ?_
     refine sF hc19656 ?_
     refine Q0 E_good rfl (v := V.bool true) (.pickK rfl hc19656 rfl) ?_
     exact SafeOps.drop' 9 rfl rfl rfl K
    ·skip
     refine qF E_good hc19656 (v := V.ptr [11] 0 0) (.fn rfl) ?_
     refine qF E_good hc19656 (v := I ((gt a167 (IntKind.i64.wrap (v168 - 1))).Kind)) (.load rfl rfl (.box rfl rfl) rfl) ?_
     refine qF E_good hc19656 (v := V.bool (((gt a167 (IntKind.i64.wrap (v168 - 1))).Kind) == 2)) (.fn rfl) ?_
     refine qF E_good hc19656 (.fn rfl) ?_
     refine SafeOps.bjoin 4 85 (b := ((((gt a167 (IntKind.i64.wrap (v168 - 1))).Kind) == 2) && (((gt a167 (IntKind.i64.wrap (v168 - 1))).A) == 9))) (b1 := (((gt a167 (IntKind.i64.wrap (v168 - 1))).A) == 9)) (b0 := false) (fun hc19657 K => ?_) (fun hc19657 K => ?_) bj_and ?_
     ·skip
      refine qT E_good hc19657 (v := V.ptr [11] 0 2) (.fn rfl) ?_
      refine qT E_good hc19657 (v := I ((gt a167 (IntKind.i64.wrap (v168 - 1))).A)) (.load rfl rfl (.box rfl rfl) rfl) ?_
      refine qT E_good hc19657 (v := V.bool (((gt a167 (IntKind.i64.wrap (v168 - 1))).A) == 9)) (.fn rfl) ?_
      refine qF E_good hc19656 (v := V.bool (((gt a167 (IntKind.i64.wrap (v168 - 1))).A) == 9)) (.pickK rfl hc19657 rfl) ?_
      exact SafeOps.drop' 4 rfl rfl rfl K
     ·skip
      refine sT hc19657 ?_
      refine sT hc19657 ?_
      refine sT hc19657 ?_
      refine qF E_good hc19656 (v := V.bool false) (.pickK rfl hc19657 rfl) ?_
      exact SafeOps.drop' 4 rfl rfl rfl K
     refine Q0 E_good rfl (v := V.bool ((((gt a167 (IntKind.i64.wrap (v168 - 1))).Kind) == 2) && (((gt a167 (IntKind.i64.wrap (v168 - 1))).A) == 9))) (.pickK rfl hc19656 rfl) ?_
     exact SafeOps.drop' 6 rfl rfl rfl K
    refine Qf E_good ?_
    refine SafeOps.bjoin 6 93 (b := (((!(v178 == 1)) || ((((gt a167 (IntKind.i64.wrap (v168 - 1))).Kind) == 2) && (((gt a167 (IntKind.i64.wrap (v168 - 1))).A) == 9))) || (((gt a167 v168).A) != x182.Op))) (b1 := true) (b0 := (((gt a167 v168).A) != x182.Op)) (fun hc19658 K => ?_) (fun hc19658 K => ?_) bj_or ?_
    ·skip
     refine sF hc19658 ?_
     refine sF hc19658 ?_
     refine sF hc19658 ?_
     refine sF hc19658 ?_
     refine sF hc19658 ?_
     refine Q0 E_good rfl (v := V.bool true) (.pickK rfl hc19658 rfl) ?_
     exact SafeOps.drop' 6 rfl rfl rfl K
    ·skip
     refine qF E_good hc19658 (v := V.ptr [8] 0 2) (.fn rfl) ?_
     refine qF E_good hc19658 (v := I ((gt a167 v168).A)) (.load rfl rfl (.box rfl rfl) rfl) ?_
     refine qF E_good hc19658 (v := V.ptr [14] 0 0) (.fn rfl) ?_
     refine qF E_good hc19658 (v := I x182.Op) (.load rfl rfl (.box rfl rfl) rfl) ?_
     refine qF E_good hc19658 (v := V.bool (((gt a167 v168).A) != x182.Op)) (.fn rfl) ?_
     refine Q0 E_good rfl (v := V.bool (((gt a167 v168).A) != x182.Op)) (.pickK rfl hc19658 rfl) ?_
     exact SafeOps.drop' 6 rfl rfl rfl K
    refine SafeOps.nil ?_
    repeat first|apply sq|apply sk|with_reducible first|apply tn|apply bn
    refine ifG h (fun hc19659 h => ?_) (fun hc19659 h => ?_)
    ·skip
     refine Safe.condK rfl hc19659 ?_
     repeat first|apply sq|apply sk|with_reducible first|apply tn|apply bn
     refine Safe.region ?_
     refine Q0 E_good rfl (v := V.agg [I v169, I v170, I v171, I v172, I v173, I v174, I v175, I v176, I v177, I v178, I v179]) (.load rfl rfl (.box rfl rfl) rfl) ?_
     refine SafeOps.store (z := Obj.box [I v169, I v170, I v171, I v172, I v173, I v174, I v175, I v176, I v177, I v178, I v179]) E_good rfl rfl rfl rfl rfl rfl rfl (.boxM (c := 11) rfl rfl (Nat.le_of_ble_eq_true rfl) rfl) ?_
     refine Qf E_good ?_
     refine SafeOps.nil ?_
     repeat first|apply sq|apply sk|with_reducible first|apply tn|apply bn
     refine Safe.ret ?_
     repeat (first | with_reducible refine thenQ.r ?_ | with_reducible refine blockQ.r ?_)
     replace h := inr_out h hr19634
     obtain rfl := Option.some.inj h
     exact retQ.gen (vs := [V.agg [I v169, I v170, I v171, I v172, I v173, I v174, I v175, I v176, I v177, I v178, I v179], V.bool false]) rfl (.cell (v := V.agg [I v169, I v170, I v171, I v172, I v173, I v174, I v175, I v176, I v177, I v178, I v179]) rfl rfl (.box rfl rfl) rfl (.tmp rfl .nil)) (.free rfl) (by simp) (.inr rfl)
    ·skip
     refine Safe.condN rfl hc19659 ?_
     repeat first|apply sq|apply sk|with_reducible first|apply tn|apply bn
     refine Safe.region ?_
     refine Q0 E_good rfl (v := V.ptr [6] 0 9) (.fn rfl) ?_
     refine SafeOps.store (z := Obj.box [I v169, I v170, I v171, I v172, I v173, I v174, I v175, I v176, I v177, I 2, I v179]) E_good rfl rfl rfl rfl rfl rfl rfl (.boxM (c := 11) rfl rfl (Nat.le_of_ble_eq_true rfl) rfl) ?_
     refine SafeOps.nil ?_
     repeat first|apply sq|apply sk|with_reducible first|apply tn|apply bn
     refine Safe.region ?_
     refine Q0 E_good rfl (v := V.agg [I v169, I v170, I v171, I v172, I v173, I v174, I v175, I v176, I v177, I 2, I v179]) (.load rfl rfl (.box rfl rfl) rfl) ?_
     refine Qf E_good ?_
     refine bindG h ?_
     rintro ⟨x184, x185, x186⟩ he19663 h
     refine Q0 E_good rfl (v := V.tup [V.agg [I x184.Id, I x184.Tenant, I x184.Prog, I x184.Pc, I x184.Unit, I x184.Keeps.a0, I x184.Keeps.a1, I x184.Keeps.a2, I x184.Keeps.a3, I x184.State, I x184.Ran], V.agg [I x185.Kind, I x185.A, I x185.B], I x186]) (.callP rfl rfl (go_ravelref13_Do_sc (api_Task.mk v169 v170 v171 v172 v173 (A4_Int.mk v174 v175 v176 v177) 2 v179) (gt a166 v171) _ he19663) rfl) ?_
     refine Qf E_good ?_
     refine Qf E_good ?_
     refine Qf E_good ?_
     refine Qf E_good ?_
     refine SafeOps.quiet1 E_good rfl rfl rfl (.alloc rfl rfl) rfl ?_
     refine SafeOps.quiet1 E_good rfl rfl rfl (.alloc rfl rfl) rfl ?_
     refine SafeOps.store (z := Obj.box [I x184.Id, I x184.Tenant, I x184.Prog, I x184.Pc, I x184.Unit, I x184.Keeps.a0, I x184.Keeps.a1, I x184.Keeps.a2, I x184.Keeps.a3, I x184.State, I x184.Ran]) E_good rfl rfl rfl rfl rfl rfl rfl (.boxM (c := 11) rfl rfl (Nat.le_of_ble_eq_true rfl) rfl) ?_
     refine SafeOps.store (z := Obj.box [I x185.Kind, I x185.A, I x185.B]) E_good rfl rfl rfl rfl rfl rfl rfl (.boxM (c := 3) rfl rfl (Nat.le_of_ble_eq_true rfl) rfl) ?_
     refine Qf E_good ?_
     refine SafeOps.nil ?_
     repeat first|apply sq|apply sk|with_reducible first|apply tn|apply bn
     refine Safe.region ?_
     refine Qf E_good ?_
     refine Q0 E_good rfl (v := V.bool (x186 != 0)) (.fn rfl) ?_
     refine SafeOps.nil ?_
     repeat first|apply sq|apply sk|with_reducible first|apply tn|apply bn
     refine ifG h (fun hc19664 h => ?_) (fun hc19664 h => ?_)
     ·skip
      refine Safe.condK rfl hc19664 ?_
      repeat first|apply sq|apply sk|with_reducible first|apply tn|apply bn
      refine Safe.region ?_
      refine Q0 E_good rfl (v := V.agg [I v169, I v170, I v171, I v172, I v173, I v174, I v175, I v176, I v177, I 2, I v179]) (.load rfl rfl (.box rfl rfl) rfl) ?_
      refine SafeOps.store (z := Obj.box [I v169, I v170, I v171, I v172, I v173, I v174, I v175, I v176, I v177, I 2, I v179]) E_good rfl rfl rfl rfl rfl rfl rfl (.boxM (c := 11) rfl rfl (Nat.le_of_ble_eq_true rfl) rfl) ?_
      refine Qf E_good ?_
      refine SafeOps.nil ?_
      repeat first|apply sq|apply sk|with_reducible first|apply tn|apply bn
      refine Safe.ret ?_
      repeat (first | with_reducible refine thenQ.r ?_ | with_reducible refine blockQ.r ?_)
      replace h := inr_out h hr19634
      obtain rfl := Option.some.inj h
      exact retQ.gen (vs := [V.agg [I v169, I v170, I v171, I v172, I v173, I v174, I v175, I v176, I v177, I 2, I v179], V.bool false]) rfl (.cell (v := V.agg [I v169, I v170, I v171, I v172, I v173, I v174, I v175, I v176, I v177, I 2, I v179]) rfl rfl (.box rfl rfl) rfl (.tmp rfl .nil)) (.free rfl) (by simp) (.inr rfl)
     ·skip
      refine Safe.condN rfl hc19664 ?_
      repeat first|apply sq|apply sk|with_reducible first|apply tn|apply bn
      refine Safe.region ?_
      refine Q0 E_good rfl (v := V.ptr [16] 0 9) (.fn rfl) ?_
      refine SafeOps.store (z := Obj.box [I x184.Id, I x184.Tenant, I x184.Prog, I x184.Pc, I x184.Unit, I x184.Keeps.a0, I x184.Keeps.a1, I x184.Keeps.a2, I x184.Keeps.a3, I 1, I x184.Ran]) E_good rfl rfl rfl rfl rfl rfl rfl (.boxM (c := 11) rfl rfl (Nat.le_of_ble_eq_true rfl) rfl) ?_
      refine SafeOps.nil ?_
      repeat first|apply sq|apply sk|with_reducible first|apply tn|apply bn
      refine Safe.region ?_
      refine Q0 E_good rfl (v := V.agg [I x184.Id, I x184.Tenant, I x184.Prog, I x184.Pc, I x184.Unit, I x184.Keeps.a0, I x184.Keeps.a1, I x184.Keeps.a2, I x184.Keeps.a3, I 1, I x184.Ran]) (.load rfl rfl (.box rfl rfl) rfl) ?_
      refine SafeOps.store (z := Obj.box [I x184.Id, I x184.Tenant, I x184.Prog, I x184.Pc, I x184.Unit, I x184.Keeps.a0, I x184.Keeps.a1, I x184.Keeps.a2, I x184.Keeps.a3, I 1, I x184.Ran]) E_good rfl rfl rfl rfl rfl rfl rfl (.boxM (c := 11) rfl rfl (Nat.le_of_ble_eq_true rfl) rfl) ?_
      refine SafeOps.nil ?_
      repeat first|apply sq|apply sk|with_reducible first|apply tn|apply bn
      refine Safe.region ?_
      refine Q0 E_good rfl (v := I (IntKind.i64.wrap (v168 + 1))) (.fn rfl) ?_
      refine Qf E_good ?_
      refine SafeOps.nil ?_
      repeat first|apply sq|apply sk|with_reducible first|apply tn|apply bn
      exact ⟨_, next_out h, (.cov ⟨rfl, rfl, (ut (ut (ut (ut (ut (ut (ut upT_nil))))))), (uo (uo upOb_nil)), upOut_nil, rfl⟩)⟩
   ·skip
    refine Safe.condN rfl hc19651 ?_
    repeat first|apply sq|apply sk|with_reducible first|apply tn|apply bn
    refine Safe.region ?_
    refine Q0 E_good rfl (v := V.ptr [8] 0 0) (.fn rfl) ?_
    refine Q0 E_good rfl (v := I ((gt a167 v168).Kind)) (.load rfl rfl (.box rfl rfl) rfl) ?_
    refine Q0 E_good rfl (v := V.bool (((gt a167 v168).Kind) == 3)) (.fn rfl) ?_
    refine SafeOps.nil ?_
    repeat first|apply sq|apply sk|with_reducible first|apply tn|apply bn
    refine ifG h (fun hc19665 h => ?_) (fun hc19665 h => ?_)
    ·skip
     refine Safe.condK rfl hc19665 ?_
     repeat first|apply sq|apply sk|with_reducible first|apply tn|apply bn
     refine Safe.regionD (n := 20) [] [] E_good mixed rfl ?_
     refine DT 0 [] rfl rfl (fun _ hz => (.fn rfl)) ?_
     refine DT 1 [] rfl rfl (v := V.bool (!(v178 == 1))) (fun _ hz => (.fn rfl)) ?_
     refine DT 2 [] rfl rfl (fun _ hz => (.fn rfl)) ?_
     refine ifG h (fun hc19666 h => ?_) (fun hc19666 h => ?_)
     ·skip
      refine DAny.takeSkip (i := 3) rfl (by kernel_rfl) [] (by kernel_rfl) (by kernel_rfl) (by kernel_rfl) (congrArg (fun b => some (!b)) hc19666) rfl rfl ?_
      refine DAny.takeSkip (i := 4) rfl (by kernel_rfl) [] (by kernel_rfl) (by kernel_rfl) (by kernel_rfl) (congrArg (fun b => some (!b)) hc19666) rfl rfl ?_
      refine DAny.takeSkip (i := 5) rfl (by kernel_rfl) [] (by kernel_rfl) (by kernel_rfl) (by kernel_rfl) (congrArg (fun b => some (!b)) hc19666) rfl rfl ?_
      refine DT 6 [] rfl rfl (v := V.bool true) (fun _ hz => (.pickK rfl hc19666 rfl)) ?_
      refine DT 7 [] rfl rfl (fun _ hz => (.fn rfl)) ?_
      refine DAny.takeSkip (i := 8) rfl (by kernel_rfl) [] (by kernel_rfl) (by kernel_rfl) (by kernel_rfl) rfl rfl rfl ?_
      refine DAny.takeSkip (i := 9) rfl (by kernel_rfl) [] (by kernel_rfl) (by kernel_rfl) (by kernel_rfl) rfl rfl rfl ?_
      refine DAny.takeSkip (i := 10) rfl (by kernel_rfl) [] (by kernel_rfl) (by kernel_rfl) (by kernel_rfl) rfl rfl rfl ?_
      refine DT 11 [] rfl rfl (v := V.bool true) (fun _ hz => (.pickK rfl rfl rfl)) ?_
      refine DT 12 [] rfl rfl (fun _ hz => (.fn rfl)) ?_
      refine DAny.takeSkip (i := 13) rfl (by kernel_rfl) [] (by kernel_rfl) (by kernel_rfl) (by kernel_rfl) rfl rfl rfl ?_
      refine DAny.takeSkip (i := 14) rfl (by kernel_rfl) [] (by kernel_rfl) (by kernel_rfl) (by kernel_rfl) rfl rfl rfl ?_
      refine DAny.takeSkip (i := 15) rfl (by kernel_rfl) [] (by kernel_rfl) (by kernel_rfl) (by kernel_rfl) rfl rfl rfl ?_
      refine DAny.takeSkip (i := 16) rfl (by kernel_rfl) [] (by kernel_rfl) (by kernel_rfl) (by kernel_rfl) rfl rfl rfl ?_
      refine DAny.takeSkip (i := 17) rfl (by kernel_rfl) [] (by kernel_rfl) (by kernel_rfl) (by kernel_rfl) rfl rfl rfl ?_
      refine DAny.takeSkip (i := 18) rfl (by kernel_rfl) [] (by kernel_rfl) (by kernel_rfl) (by kernel_rfl) rfl rfl rfl ?_
      refine DT 19 [] rfl rfl (v := V.bool true) (fun _ hz => (.pickK rfl rfl rfl)) ?_
      refine DAny.nil (by kernel_rfl) ?_
      repeat first|apply sq|apply sk|with_reducible first|apply tn|apply bn
      refine Safe.condK rfl rfl ?_
      repeat first|apply sq|apply sk|with_reducible first|apply tn|apply bn
      refine Safe.region ?_
      refine Q0 E_good rfl (v := V.agg [I v169, I v170, I v171, I v172, I v173, I v174, I v175, I v176, I v177, I v178, I v179]) (.load rfl rfl (.box rfl rfl) rfl) ?_
      refine SafeOps.store (z := Obj.box [I v169, I v170, I v171, I v172, I v173, I v174, I v175, I v176, I v177, I v178, I v179]) E_good rfl rfl rfl rfl rfl rfl rfl (.boxM (c := 11) rfl rfl (Nat.le_of_ble_eq_true rfl) rfl) ?_
      refine Qf E_good ?_
      refine SafeOps.nil ?_
      repeat first|apply sq|apply sk|with_reducible first|apply tn|apply bn
      refine Safe.ret ?_
      repeat (first | with_reducible refine thenQ.r ?_ | with_reducible refine blockQ.r ?_)
      replace h := inr_out h hr19634
      obtain rfl := Option.some.inj h
      exact retQ.gen (vs := [V.agg [I v169, I v170, I v171, I v172, I v173, I v174, I v175, I v176, I v177, I v178, I v179], V.bool false]) rfl (.cell (v := V.agg [I v169, I v170, I v171, I v172, I v173, I v174, I v175, I v176, I v177, I v178, I v179]) rfl rfl (.box rfl rfl) rfl (.tmp rfl .nil)) (.free rfl) (by simp) (.inr rfl)
     ·skip
      refine DAny.take (i := 3) rfl (by kernel_rfl) [] (by kernel_rfl) (by kernel_rfl) (by kernel_rfl) (congrArg (fun b => some (!b)) hc19666) rfl rfl (v := V.ptr [11] 0 0) (fun _ hz => (.fn rfl)) ?_
      refine DAny.take (i := 4) rfl (by kernel_rfl) [] (by kernel_rfl) (by kernel_rfl) (by kernel_rfl) (congrArg (fun b => some (!b)) hc19666) rfl rfl (v := I ((gt a167 (IntKind.i64.wrap (v168 - 1))).Kind)) (fun _ hz => (.load rfl rfl (.box (hz _ _ rfl rfl) rfl) rfl)) ?_
      refine DAny.take (i := 5) rfl (by kernel_rfl) [] (by kernel_rfl) (by kernel_rfl) (by kernel_rfl) (congrArg (fun b => some (!b)) hc19666) rfl rfl (v := V.bool (((gt a167 (IntKind.i64.wrap (v168 - 1))).Kind) != 2)) (fun _ hz => (.fn rfl)) ?_
      refine DT 6 [] rfl rfl (v := V.bool (((gt a167 (IntKind.i64.wrap (v168 - 1))).Kind) != 2)) (fun _ hz => (.pickK rfl hc19666 rfl)) ?_
      refine DT 7 [] rfl rfl (fun _ hz => (.fn rfl)) ?_
      refine ifG h (fun hc19667 h => ?_) (fun hc19667 h => ?_)
      ·skip
       refine DAny.takeSkip (i := 8) rfl (by kernel_rfl) [] (by kernel_rfl) (by kernel_rfl) (by kernel_rfl) (congrArg (fun b => some (!b)) hc19667) rfl rfl ?_
       refine DAny.takeSkip (i := 9) rfl (by kernel_rfl) [] (by kernel_rfl) (by kernel_rfl) (by kernel_rfl) (congrArg (fun b => some (!b)) hc19667) rfl rfl ?_
       refine DAny.takeSkip (i := 10) rfl (by kernel_rfl) [] (by kernel_rfl) (by kernel_rfl) (by kernel_rfl) (congrArg (fun b => some (!b)) hc19667) rfl rfl ?_
       refine DT 11 [] rfl rfl (v := V.bool true) (fun _ hz => (.pickK rfl hc19667 rfl)) ?_
       refine DT 12 [] rfl rfl (fun _ hz => (.fn rfl)) ?_
       refine DAny.takeSkip (i := 13) rfl (by kernel_rfl) [] (by kernel_rfl) (by kernel_rfl) (by kernel_rfl) rfl rfl rfl ?_
       refine DAny.takeSkip (i := 14) rfl (by kernel_rfl) [] (by kernel_rfl) (by kernel_rfl) (by kernel_rfl) rfl rfl rfl ?_
       refine DAny.takeSkip (i := 15) rfl (by kernel_rfl) [] (by kernel_rfl) (by kernel_rfl) (by kernel_rfl) rfl rfl rfl ?_
       refine DAny.takeSkip (i := 16) rfl (by kernel_rfl) [] (by kernel_rfl) (by kernel_rfl) (by kernel_rfl) rfl rfl rfl ?_
       refine DAny.takeSkip (i := 17) rfl (by kernel_rfl) [] (by kernel_rfl) (by kernel_rfl) (by kernel_rfl) rfl rfl rfl ?_
       refine DAny.takeSkip (i := 18) rfl (by kernel_rfl) [] (by kernel_rfl) (by kernel_rfl) (by kernel_rfl) rfl rfl rfl ?_
       refine DT 19 [] rfl rfl (v := V.bool true) (fun _ hz => (.pickK rfl rfl rfl)) ?_
       refine DAny.nil (by kernel_rfl) ?_
       repeat first|apply sq|apply sk|with_reducible first|apply tn|apply bn
       refine Safe.condK rfl rfl ?_
       repeat first|apply sq|apply sk|with_reducible first|apply tn|apply bn
       refine Safe.region ?_
       refine Q0 E_good rfl (v := V.agg [I v169, I v170, I v171, I v172, I v173, I v174, I v175, I v176, I v177, I v178, I v179]) (.load rfl rfl (.box rfl rfl) rfl) ?_
       refine SafeOps.store (z := Obj.box [I v169, I v170, I v171, I v172, I v173, I v174, I v175, I v176, I v177, I v178, I v179]) E_good rfl rfl rfl rfl rfl rfl rfl (.boxM (c := 11) rfl rfl (Nat.le_of_ble_eq_true rfl) rfl) ?_
       refine Qf E_good ?_
       refine SafeOps.nil ?_
       repeat first|apply sq|apply sk|with_reducible first|apply tn|apply bn
       refine Safe.ret ?_
       repeat (first | with_reducible refine thenQ.r ?_ | with_reducible refine blockQ.r ?_)
       replace h := inr_out h hr19634
       obtain rfl := Option.some.inj h
       exact retQ.gen (vs := [V.agg [I v169, I v170, I v171, I v172, I v173, I v174, I v175, I v176, I v177, I v178, I v179], V.bool false]) rfl (.cell (v := V.agg [I v169, I v170, I v171, I v172, I v173, I v174, I v175, I v176, I v177, I v178, I v179]) rfl rfl (.box rfl rfl) rfl (.tmp rfl .nil)) (.free rfl) (by simp) (.inr rfl)
      ·skip
       refine DAny.take (i := 8) rfl (by kernel_rfl) [] (by kernel_rfl) (by kernel_rfl) (by kernel_rfl) (congrArg (fun b => some (!b)) hc19667) rfl rfl (v := V.ptr [8] 0 2) (fun _ hz => (.fn rfl)) ?_
       refine DAny.take (i := 9) rfl (by kernel_rfl) [] (by kernel_rfl) (by kernel_rfl) (by kernel_rfl) (congrArg (fun b => some (!b)) hc19667) rfl rfl (v := I ((gt a167 v168).A)) (fun _ hz => (.load rfl rfl (.box (hz _ _ rfl rfl) rfl) rfl)) ?_
       refine DAny.take (i := 10) rfl (by kernel_rfl) [] (by kernel_rfl) (by kernel_rfl) (by kernel_rfl) (congrArg (fun b => some (!b)) hc19667) rfl rfl (v := V.bool (((gt a167 v168).A) == 0)) (fun _ hz => (.fn rfl)) ?_
       refine DT 11 [] rfl rfl (v := V.bool (((gt a167 v168).A) == 0)) (fun _ hz => (.pickK rfl hc19667 rfl)) ?_
       refine DT 12 [] rfl rfl (fun _ hz => (.fn rfl)) ?_
       refine ifG h (fun hc19668 h => ?_) (fun hc19668 h => ?_)
       ·skip
        refine DAny.takeSkip (i := 13) rfl (by kernel_rfl) [] (by kernel_rfl) (by kernel_rfl) (by kernel_rfl) (congrArg (fun b => some (!b)) hc19668) rfl rfl ?_
        refine DAny.takeSkip (i := 14) rfl (by kernel_rfl) [] (by kernel_rfl) (by kernel_rfl) (by kernel_rfl) (congrArg (fun b => some (!b)) hc19668) rfl rfl ?_
        refine DAny.takeSkip (i := 15) rfl (by kernel_rfl) [] (by kernel_rfl) (by kernel_rfl) (by kernel_rfl) (congrArg (fun b => some (!b)) hc19668) rfl rfl ?_
        refine DAny.takeSkip (i := 16) rfl (by kernel_rfl) [] (by kernel_rfl) (by kernel_rfl) (by kernel_rfl) (congrArg (fun b => some (!b)) hc19668) rfl rfl ?_
        refine DAny.takeSkip (i := 17) rfl (by kernel_rfl) [] (by kernel_rfl) (by kernel_rfl) (by kernel_rfl) (congrArg (fun b => some (!b)) hc19668) rfl rfl ?_
        refine DAny.takeSkip (i := 18) rfl (by kernel_rfl) [] (by kernel_rfl) (by kernel_rfl) (by kernel_rfl) (congrArg (fun b => some (!b)) hc19668) rfl rfl ?_
        refine DT 19 [] rfl rfl (v := V.bool true) (fun _ hz => (.pickK rfl hc19668 rfl)) ?_
        refine DAny.nil (by kernel_rfl) ?_
        repeat first|apply sq|apply sk|with_reducible first|apply tn|apply bn
        refine Safe.condK rfl rfl ?_
        repeat first|apply sq|apply sk|with_reducible first|apply tn|apply bn
        refine Safe.region ?_
        refine Q0 E_good rfl (v := V.agg [I v169, I v170, I v171, I v172, I v173, I v174, I v175, I v176, I v177, I v178, I v179]) (.load rfl rfl (.box rfl rfl) rfl) ?_
        refine SafeOps.store (z := Obj.box [I v169, I v170, I v171, I v172, I v173, I v174, I v175, I v176, I v177, I v178, I v179]) E_good rfl rfl rfl rfl rfl rfl rfl (.boxM (c := 11) rfl rfl (Nat.le_of_ble_eq_true rfl) rfl) ?_
        refine Qf E_good ?_
        refine SafeOps.nil ?_
        repeat first|apply sq|apply sk|with_reducible first|apply tn|apply bn
        refine Safe.ret ?_
        repeat (first | with_reducible refine thenQ.r ?_ | with_reducible refine blockQ.r ?_)
        replace h := inr_out h hr19634
        obtain rfl := Option.some.inj h
        exact retQ.gen (vs := [V.agg [I v169, I v170, I v171, I v172, I v173, I v174, I v175, I v176, I v177, I v178, I v179], V.bool false]) rfl (.cell (v := V.agg [I v169, I v170, I v171, I v172, I v173, I v174, I v175, I v176, I v177, I v178, I v179]) rfl rfl (.box rfl rfl) rfl (.tmp rfl .nil)) (.free rfl) (by simp) (.inr rfl)
       ·skip
        refine DAny.take (i := 13) rfl (by kernel_rfl) [] (by kernel_rfl) (by kernel_rfl) (by kernel_rfl) (congrArg (fun b => some (!b)) hc19668) rfl rfl (v := V.ptr [8] 0 2) (fun _ hz => (.fn rfl)) ?_
        refine DAny.take (i := 14) rfl (by kernel_rfl) [] (by kernel_rfl) (by kernel_rfl) (by kernel_rfl) (congrArg (fun b => some (!b)) hc19668) rfl rfl (v := I ((gt a167 v168).A)) (fun _ hz => (.load rfl rfl (.box (hz _ _ rfl rfl) rfl) rfl)) ?_
        refine DAny.take (i := 15) rfl (by kernel_rfl) [] (by kernel_rfl) (by kernel_rfl) (by kernel_rfl) (congrArg (fun b => some (!b)) hc19668) rfl rfl (v := V.ptr [11] 0 2) (fun _ hz => (.fn rfl)) ?_
        refine DAny.take (i := 16) rfl (by kernel_rfl) [] (by kernel_rfl) (by kernel_rfl) (by kernel_rfl) (congrArg (fun b => some (!b)) hc19668) rfl rfl (v := I ((gt a167 (IntKind.i64.wrap (v168 - 1))).A)) (fun _ hz => (.load rfl rfl (.box (hz _ _ rfl rfl) rfl) rfl)) ?_
        refine DAny.take (i := 17) rfl (by kernel_rfl) [] (by kernel_rfl) (by kernel_rfl) (by kernel_rfl) (congrArg (fun b => some (!b)) hc19668) rfl rfl (v := I (go_ravelref18_Held ((gt a167 (IntKind.i64.wrap (v168 - 1))).A))) (fun _ hz => (.callP rfl rfl (go_ravelref18_Held_sc ((gt a167 (IntKind.i64.wrap (v168 - 1))).A) _ rfl) rfl)) ?_
        refine DAny.take (i := 18) rfl (by kernel_rfl) [] (by kernel_rfl) (by kernel_rfl) (by kernel_rfl) (congrArg (fun b => some (!b)) hc19668) rfl rfl (v := V.bool (((gt a167 v168).A) != (go_ravelref18_Held ((gt a167 (IntKind.i64.wrap (v168 - 1))).A)))) (fun _ hz => (.fn rfl)) ?_
        refine DT 19 [] rfl rfl (v := V.bool (((gt a167 v168).A) != (go_ravelref18_Held ((gt a167 (IntKind.i64.wrap (v168 - 1))).A)))) (fun _ hz => (.pickK rfl hc19668 rfl)) ?_
        refine DAny.nil (by kernel_rfl) ?_
        repeat first|apply sq|apply sk|with_reducible first|apply tn|apply bn
        refine ifG h (fun hc19669 h => ?_) (fun hc19669 h => ?_)
        ·skip
         refine Safe.condK rfl hc19669 ?_
         repeat first|apply sq|apply sk|with_reducible first|apply tn|apply bn
         refine Safe.region ?_
         refine Q0 E_good rfl (v := V.agg [I v169, I v170, I v171, I v172, I v173, I v174, I v175, I v176, I v177, I v178, I v179]) (.load rfl rfl (.box rfl rfl) rfl) ?_
         refine SafeOps.store (z := Obj.box [I v169, I v170, I v171, I v172, I v173, I v174, I v175, I v176, I v177, I v178, I v179]) E_good rfl rfl rfl rfl rfl rfl rfl (.boxM (c := 11) rfl rfl (Nat.le_of_ble_eq_true rfl) rfl) ?_
         refine Qf E_good ?_
         refine SafeOps.nil ?_
         repeat first|apply sq|apply sk|with_reducible first|apply tn|apply bn
         refine Safe.ret ?_
         repeat (first | with_reducible refine thenQ.r ?_ | with_reducible refine blockQ.r ?_)
         replace h := inr_out h hr19634
         obtain rfl := Option.some.inj h
         exact retQ.gen (vs := [V.agg [I v169, I v170, I v171, I v172, I v173, I v174, I v175, I v176, I v177, I v178, I v179], V.bool false]) rfl (.cell (v := V.agg [I v169, I v170, I v171, I v172, I v173, I v174, I v175, I v176, I v177, I v178, I v179]) rfl rfl (.box rfl rfl) rfl (.tmp rfl .nil)) (.free rfl) (by simp) (.inr rfl)
        ·skip
         refine Safe.condN rfl hc19669 ?_
         repeat first|apply sq|apply sk|with_reducible first|apply tn|apply bn
         refine Safe.region ?_
         refine Q0 E_good rfl (v := V.ptr [8] 0 2) (.fn rfl) ?_
         refine Q0 E_good rfl (v := I ((gt a167 v168).A)) (.load rfl rfl (.box rfl rfl) rfl) ?_
         refine Q0 E_good rfl (v := V.ptr [6] 0 9) (.fn rfl) ?_
         refine SafeOps.store (z := Obj.box [I v169, I v170, I v171, I v172, I v173, I v174, I v175, I v176, I v177, I ((gt a167 v168).A), I v179]) E_good rfl rfl rfl rfl rfl rfl rfl (.boxM (c := 11) rfl rfl (Nat.le_of_ble_eq_true rfl) rfl) ?_
         refine SafeOps.nil ?_
         repeat first|apply sq|apply sk|with_reducible first|apply tn|apply bn
         refine Safe.region ?_
         refine Q0 E_good rfl (v := I (IntKind.i64.wrap (v168 + 1))) (.fn rfl) ?_
         refine Qf E_good ?_
         refine SafeOps.nil ?_
         repeat first|apply sq|apply sk|with_reducible first|apply tn|apply bn
         exact ⟨_, next_out h, (.cov ⟨rfl, rfl, (ut (ut (ut (ut (ut (ut (ut upT_nil))))))), (uo (uo upOb_nil)), upOut_nil, rfl⟩)⟩
    ·skip
     refine Safe.condN rfl hc19665 ?_
     repeat first|apply sq|apply sk|with_reducible first|apply tn|apply bn
     refine Safe.region ?_
     refine Q0 E_good rfl (v := V.ptr [8] 0 0) (.fn rfl) ?_
     refine Q0 E_good rfl (v := I ((gt a167 v168).Kind)) (.load rfl rfl (.box rfl rfl) rfl) ?_
     refine Q0 E_good rfl (v := V.bool (((gt a167 v168).Kind) == 4)) (.fn rfl) ?_
     refine SafeOps.nil ?_
     repeat first|apply sq|apply sk|with_reducible first|apply tn|apply bn
     refine ifG h (fun hc19670 h => ?_) (fun hc19670 h => ?_)
     ·skip
      refine Safe.condK rfl hc19670 ?_
      repeat first|apply sq|apply sk|with_reducible first|apply tn|apply bn
      refine Safe.region ?_
      refine Q0 E_good rfl (v := V.ptr [6] 0 9) (.fn rfl) ?_
      refine Q0 E_good rfl (v := I v178) (.load rfl rfl (.box rfl rfl) rfl) ?_
      refine Q0 E_good rfl (v := V.bool (go_ravelref12_Waits v178)) (.callP rfl rfl (go_ravelref12_Waits_sc v178 _ rfl) rfl) ?_
      refine Q0 E_good rfl (v := V.bool (!(go_ravelref12_Waits v178))) (.fn rfl) ?_
      refine Qf E_good ?_
      refine SafeOps.bjoin 4 146 (b := ((!(go_ravelref12_Waits v178)) || (((gt a167 v168).A) != 0))) (b1 := true) (b0 := (((gt a167 v168).A) != 0)) (fun hc19671 K => ?_) (fun hc19671 K => ?_) bj_or ?_
      ·skip
       refine sF hc19671 ?_
       refine sF hc19671 ?_
       refine sF hc19671 ?_
       refine Q0 E_good rfl (v := V.bool true) (.pickK rfl hc19671 rfl) ?_
       exact SafeOps.drop' 4 rfl rfl rfl K
      ·skip
       refine qF E_good hc19671 (v := V.ptr [8] 0 2) (.fn rfl) ?_
       refine qF E_good hc19671 (v := I ((gt a167 v168).A)) (.load rfl rfl (.box rfl rfl) rfl) ?_
       refine qF E_good hc19671 (v := V.bool (((gt a167 v168).A) != 0)) (.fn rfl) ?_
       refine Q0 E_good rfl (v := V.bool (((gt a167 v168).A) != 0)) (.pickK rfl hc19671 rfl) ?_
       exact SafeOps.drop' 4 rfl rfl rfl K
      refine SafeOps.nil ?_
      repeat first|apply sq|apply sk|with_reducible first|apply tn|apply bn
      refine ifG h (fun hc19672 h => ?_) (fun hc19672 h => ?_)
      ·skip
       refine Safe.condK rfl hc19672 ?_
       repeat first|apply sq|apply sk|with_reducible first|apply tn|apply bn
       refine Safe.region ?_
       refine Q0 E_good rfl (v := V.agg [I v169, I v170, I v171, I v172, I v173, I v174, I v175, I v176, I v177, I v178, I v179]) (.load rfl rfl (.box rfl rfl) rfl) ?_
       refine SafeOps.store (z := Obj.box [I v169, I v170, I v171, I v172, I v173, I v174, I v175, I v176, I v177, I v178, I v179]) E_good rfl rfl rfl rfl rfl rfl rfl (.boxM (c := 11) rfl rfl (Nat.le_of_ble_eq_true rfl) rfl) ?_
       refine Qf E_good ?_
       refine SafeOps.nil ?_
       repeat first|apply sq|apply sk|with_reducible first|apply tn|apply bn
       refine Safe.ret ?_
       repeat (first | with_reducible refine thenQ.r ?_ | with_reducible refine blockQ.r ?_)
       replace h := inr_out h hr19634
       obtain rfl := Option.some.inj h
       exact retQ.gen (vs := [V.agg [I v169, I v170, I v171, I v172, I v173, I v174, I v175, I v176, I v177, I v178, I v179], V.bool false]) rfl (.cell (v := V.agg [I v169, I v170, I v171, I v172, I v173, I v174, I v175, I v176, I v177, I v178, I v179]) rfl rfl (.box rfl rfl) rfl (.tmp rfl .nil)) (.free rfl) (by simp) (.inr rfl)
      ·skip
       refine Safe.condN rfl hc19672 ?_
       repeat first|apply sq|apply sk|with_reducible first|apply tn|apply bn
       refine Safe.region ?_
       refine Q0 E_good rfl (v := V.ptr [6] 0 9) (.fn rfl) ?_
       refine SafeOps.store (z := Obj.box [I v169, I v170, I v171, I v172, I v173, I v174, I v175, I v176, I v177, I 1, I v179]) E_good rfl rfl rfl rfl rfl rfl rfl (.boxM (c := 11) rfl rfl (Nat.le_of_ble_eq_true rfl) rfl) ?_
       refine SafeOps.nil ?_
       repeat first|apply sq|apply sk|with_reducible first|apply tn|apply bn
       refine Safe.region ?_
       refine Q0 E_good rfl (v := I (IntKind.i64.wrap (v168 + 1))) (.fn rfl) ?_
       refine Qf E_good ?_
       refine SafeOps.nil ?_
       repeat first|apply sq|apply sk|with_reducible first|apply tn|apply bn
       exact ⟨_, next_out h, (.cov ⟨rfl, rfl, (ut (ut (ut (ut (ut (ut (ut upT_nil))))))), (uo (uo upOb_nil)), upOut_nil, rfl⟩)⟩
     ·skip
      refine Safe.condN rfl hc19670 ?_
      repeat first|apply sq|apply sk|with_reducible first|apply tn|apply bn
      refine Safe.region ?_
      refine Q0 E_good rfl (v := V.ptr [8] 0 0) (.fn rfl) ?_
      refine Q0 E_good rfl (v := I ((gt a167 v168).Kind)) (.load rfl rfl (.box rfl rfl) rfl) ?_
      refine Q0 E_good rfl (v := V.bool (((gt a167 v168).Kind) == 5)) (.fn rfl) ?_
      refine SafeOps.nil ?_
      repeat first|apply sq|apply sk|with_reducible first|apply tn|apply bn
      refine ifG h (fun hc19673 h => ?_) (fun hc19673 h => ?_)
      ·skip
       refine Safe.condK rfl hc19673 ?_
       repeat first|apply sq|apply sk|with_reducible first|apply tn|apply bn
       refine Safe.region ?_
       refine Qf E_good ?_
       refine Q0 E_good rfl (v := V.bool (!(v178 == 1))) (.fn rfl) ?_
       refine Qf E_good ?_
       refine SafeOps.bjoin 4 158 (b := ((!(v178 == 1)) || (((gt a167 (IntKind.i64.wrap (v168 - 1))).Kind) != 2))) (b1 := true) (b0 := (((gt a167 (IntKind.i64.wrap (v168 - 1))).Kind) != 2)) (fun hc19674 K => ?_) (fun hc19674 K => ?_) bj_or ?_
       ·skip
        refine sF hc19674 ?_
        refine sF hc19674 ?_
        refine sF hc19674 ?_
        refine Q0 E_good rfl (v := V.bool true) (.pickK rfl hc19674 rfl) ?_
        exact SafeOps.drop' 4 rfl rfl rfl K
       ·skip
        refine qF E_good hc19674 (v := V.ptr [11] 0 0) (.fn rfl) ?_
        refine qF E_good hc19674 (v := I ((gt a167 (IntKind.i64.wrap (v168 - 1))).Kind)) (.load rfl rfl (.box rfl rfl) rfl) ?_
        refine qF E_good hc19674 (v := V.bool (((gt a167 (IntKind.i64.wrap (v168 - 1))).Kind) != 2)) (.fn rfl) ?_
        refine Q0 E_good rfl (v := V.bool (((gt a167 (IntKind.i64.wrap (v168 - 1))).Kind) != 2)) (.pickK rfl hc19674 rfl) ?_
        exact SafeOps.drop' 4 rfl rfl rfl K
       refine Qf E_good ?_
       refine SafeOps.bjoin 4 163 (b := (((!(v178 == 1)) || (((gt a167 (IntKind.i64.wrap (v168 - 1))).Kind) != 2)) || (((gt a167 (IntKind.i64.wrap (v168 - 1))).A) != 9))) (b1 := true) (b0 := (((gt a167 (IntKind.i64.wrap (v168 - 1))).A) != 9)) (fun hc19675 K => ?_) (fun hc19675 K => ?_) bj_or ?_
       ·skip
        refine sF hc19675 ?_
        refine sF hc19675 ?_
        refine sF hc19675 ?_
        refine Q0 E_good rfl (v := V.bool true) (.pickK rfl hc19675 rfl) ?_
        exact SafeOps.drop' 4 rfl rfl rfl K
       ·skip
        refine qF E_good hc19675 (v := V.ptr [11] 0 2) (.fn rfl) ?_
        refine qF E_good hc19675 (v := I ((gt a167 (IntKind.i64.wrap (v168 - 1))).A)) (.load rfl rfl (.box rfl rfl) rfl) ?_
        refine qF E_good hc19675 (v := V.bool (((gt a167 (IntKind.i64.wrap (v168 - 1))).A) != 9)) (.fn rfl) ?_
        refine Q0 E_good rfl (v := V.bool (((gt a167 (IntKind.i64.wrap (v168 - 1))).A) != 9)) (.pickK rfl hc19675 rfl) ?_
        exact SafeOps.drop' 4 rfl rfl rfl K
       refine Qf E_good ?_
       refine SafeOps.bjoin 4 168 (b := ((((!(v178 == 1)) || (((gt a167 (IntKind.i64.wrap (v168 - 1))).Kind) != 2)) || (((gt a167 (IntKind.i64.wrap (v168 - 1))).A) != 9)) || (((gt a167 v168).A) != 0))) (b1 := true) (b0 := (((gt a167 v168).A) != 0)) (fun hc19676 K => ?_) (fun hc19676 K => ?_) bj_or ?_
       ·skip
        refine sF hc19676 ?_
        refine sF hc19676 ?_
        refine sF hc19676 ?_
        refine Q0 E_good rfl (v := V.bool true) (.pickK rfl hc19676 rfl) ?_
        exact SafeOps.drop' 4 rfl rfl rfl K
       ·skip
        refine qF E_good hc19676 (v := V.ptr [8] 0 2) (.fn rfl) ?_
        refine qF E_good hc19676 (v := I ((gt a167 v168).A)) (.load rfl rfl (.box rfl rfl) rfl) ?_
        refine qF E_good hc19676 (v := V.bool (((gt a167 v168).A) != 0)) (.fn rfl) ?_
        refine Q0 E_good rfl (v := V.bool (((gt a167 v168).A) != 0)) (.pickK rfl hc19676 rfl) ?_
        exact SafeOps.drop' 4 rfl rfl rfl K
       refine SafeOps.nil ?_
       repeat first|apply sq|apply sk|with_reducible first|apply tn|apply bn
       refine ifG h (fun hc19677 h => ?_) (fun hc19677 h => ?_)
       ·skip
        refine Safe.condK rfl hc19677 ?_
        repeat first|apply sq|apply sk|with_reducible first|apply tn|apply bn
        refine Safe.region ?_
        refine Q0 E_good rfl (v := V.agg [I v169, I v170, I v171, I v172, I v173, I v174, I v175, I v176, I v177, I v178, I v179]) (.load rfl rfl (.box rfl rfl) rfl) ?_
        refine SafeOps.store (z := Obj.box [I v169, I v170, I v171, I v172, I v173, I v174, I v175, I v176, I v177, I v178, I v179]) E_good rfl rfl rfl rfl rfl rfl rfl (.boxM (c := 11) rfl rfl (Nat.le_of_ble_eq_true rfl) rfl) ?_
        refine Qf E_good ?_
        refine SafeOps.nil ?_
        repeat first|apply sq|apply sk|with_reducible first|apply tn|apply bn
        refine Safe.ret ?_
        repeat (first | with_reducible refine thenQ.r ?_ | with_reducible refine blockQ.r ?_)
        replace h := inr_out h hr19634
        obtain rfl := Option.some.inj h
        exact retQ.gen (vs := [V.agg [I v169, I v170, I v171, I v172, I v173, I v174, I v175, I v176, I v177, I v178, I v179], V.bool false]) rfl (.cell (v := V.agg [I v169, I v170, I v171, I v172, I v173, I v174, I v175, I v176, I v177, I v178, I v179]) rfl rfl (.box rfl rfl) rfl (.tmp rfl .nil)) (.free rfl) (by simp) (.inr rfl)
       ·skip
        refine Safe.condN rfl hc19677 ?_
        repeat first|apply sq|apply sk|with_reducible first|apply tn|apply bn
        refine Safe.region ?_
        refine Q0 E_good rfl (v := V.ptr [6] 0 9) (.fn rfl) ?_
        refine SafeOps.store (z := Obj.box [I v169, I v170, I v171, I v172, I v173, I v174, I v175, I v176, I v177, I 7, I v179]) E_good rfl rfl rfl rfl rfl rfl rfl (.boxM (c := 11) rfl rfl (Nat.le_of_ble_eq_true rfl) rfl) ?_
        refine SafeOps.nil ?_
        repeat first|apply sq|apply sk|with_reducible first|apply tn|apply bn
        refine Safe.region ?_
        refine Q0 E_good rfl (v := I (IntKind.i64.wrap (v168 + 1))) (.fn rfl) ?_
        refine Qf E_good ?_
        refine SafeOps.nil ?_
        repeat first|apply sq|apply sk|with_reducible first|apply tn|apply bn
        exact ⟨_, next_out h, (.cov ⟨rfl, rfl, (ut (ut (ut (ut (ut (ut (ut upT_nil))))))), (uo (uo upOb_nil)), upOut_nil, rfl⟩)⟩
      ·skip
       refine Safe.condN rfl hc19673 ?_
       repeat first|apply sq|apply sk|with_reducible first|apply tn|apply bn
       refine Safe.region ?_
       refine Q0 E_good rfl (v := V.ptr [8] 0 0) (.fn rfl) ?_
       refine Q0 E_good rfl (v := I ((gt a167 v168).Kind)) (.load rfl rfl (.box rfl rfl) rfl) ?_
       refine Q0 E_good rfl (v := V.bool (((gt a167 v168).Kind) != 6)) (.fn rfl) ?_
       refine Qf E_good ?_
       refine SafeOps.bjoin 4 178 (b := ((((gt a167 v168).Kind) != 6) || (v178 == 7))) (b1 := true) (b0 := (v178 == 7)) (fun hc19678 K => ?_) (fun hc19678 K => ?_) bj_or ?_
       ·skip
        refine sF hc19678 ?_
        refine sF hc19678 ?_
        refine sF hc19678 ?_
        refine Q0 E_good rfl (v := V.bool true) (.pickK rfl hc19678 rfl) ?_
        exact SafeOps.drop' 4 rfl rfl rfl K
       ·skip
        refine qF E_good hc19678 (v := V.ptr [6] 0 9) (.fn rfl) ?_
        refine qF E_good hc19678 (v := I v178) (.load rfl rfl (.box rfl rfl) rfl) ?_
        refine qF E_good hc19678 (v := V.bool (v178 == 7)) (.fn rfl) ?_
        refine Q0 E_good rfl (v := V.bool (v178 == 7)) (.pickK rfl hc19678 rfl) ?_
        exact SafeOps.drop' 4 rfl rfl rfl K
       refine Qf E_good ?_
       refine SafeOps.bjoin 4 183 (b := (((((gt a167 v168).Kind) != 6) || (v178 == 7)) || (((gt a167 v168).A) != 0))) (b1 := true) (b0 := (((gt a167 v168).A) != 0)) (fun hc19679 K => ?_) (fun hc19679 K => ?_) bj_or ?_
       ·skip
        refine sF hc19679 ?_
        refine sF hc19679 ?_
        refine sF hc19679 ?_
        refine Q0 E_good rfl (v := V.bool true) (.pickK rfl hc19679 rfl) ?_
        exact SafeOps.drop' 4 rfl rfl rfl K
       ·skip
        refine qF E_good hc19679 (v := V.ptr [8] 0 2) (.fn rfl) ?_
        refine qF E_good hc19679 (v := I ((gt a167 v168).A)) (.load rfl rfl (.box rfl rfl) rfl) ?_
        refine qF E_good hc19679 (v := V.bool (((gt a167 v168).A) != 0)) (.fn rfl) ?_
        refine Q0 E_good rfl (v := V.bool (((gt a167 v168).A) != 0)) (.pickK rfl hc19679 rfl) ?_
        exact SafeOps.drop' 4 rfl rfl rfl K
       refine SafeOps.nil ?_
       repeat first|apply sq|apply sk|with_reducible first|apply tn|apply bn
       refine ifG h (fun hc19680 h => ?_) (fun hc19680 h => ?_)
       ·skip
        refine Safe.condK rfl hc19680 ?_
        repeat first|apply sq|apply sk|with_reducible first|apply tn|apply bn
        refine Safe.region ?_
        refine Q0 E_good rfl (v := V.agg [I v169, I v170, I v171, I v172, I v173, I v174, I v175, I v176, I v177, I v178, I v179]) (.load rfl rfl (.box rfl rfl) rfl) ?_
        refine SafeOps.store (z := Obj.box [I v169, I v170, I v171, I v172, I v173, I v174, I v175, I v176, I v177, I v178, I v179]) E_good rfl rfl rfl rfl rfl rfl rfl (.boxM (c := 11) rfl rfl (Nat.le_of_ble_eq_true rfl) rfl) ?_
        refine Qf E_good ?_
        refine SafeOps.nil ?_
        repeat first|apply sq|apply sk|with_reducible first|apply tn|apply bn
        refine Safe.ret ?_
        repeat (first | with_reducible refine thenQ.r ?_ | with_reducible refine blockQ.r ?_)
        replace h := inr_out h hr19634
        obtain rfl := Option.some.inj h
        exact retQ.gen (vs := [V.agg [I v169, I v170, I v171, I v172, I v173, I v174, I v175, I v176, I v177, I v178, I v179], V.bool false]) rfl (.cell (v := V.agg [I v169, I v170, I v171, I v172, I v173, I v174, I v175, I v176, I v177, I v178, I v179]) rfl rfl (.box rfl rfl) rfl (.tmp rfl .nil)) (.free rfl) (by simp) (.inr rfl)
       ·skip
        refine Safe.condN rfl hc19680 ?_
        repeat first|apply sq|apply sk|with_reducible first|apply tn|apply bn
        refine Safe.region ?_
        refine Q0 E_good rfl (v := V.ptr [6] 0 9) (.fn rfl) ?_
        refine SafeOps.store (z := Obj.box [I v169, I v170, I v171, I v172, I v173, I v174, I v175, I v176, I v177, I 7, I v179]) E_good rfl rfl rfl rfl rfl rfl rfl (.boxM (c := 11) rfl rfl (Nat.le_of_ble_eq_true rfl) rfl) ?_
        refine SafeOps.nil ?_
        repeat first|apply sq|apply sk|with_reducible first|apply tn|apply bn
        refine Safe.region ?_
        refine Q0 E_good rfl (v := I (IntKind.i64.wrap (v168 + 1))) (.fn rfl) ?_
        refine Qf E_good ?_
        refine SafeOps.nil ?_
        repeat first|apply sq|apply sk|with_reducible first|apply tn|apply bn
        exact ⟨_, next_out h, (.cov ⟨rfl, rfl, (ut (ut (ut (ut (ut (ut (ut upT_nil))))))), (uo (uo upOb_nil)), upOut_nil, rfl⟩)⟩
 ·skip
  refine Safe.condN rfl hc19635 ?_
  repeat first|apply sq|apply sk|with_reducible first|apply tn|apply bn
  refine Safe.exit ?_
  repeat (first | with_reducible refine thenQ.e ?_ | with_reducible refine blockQ.x rfl ?_ | with_reducible refine blockQ.y rfl ?_)
  replace h := inr_out h hr19634
  repeat first|apply sq|apply sk|with_reducible first|apply tn|apply bn
  refine Safe.region ?_
  refine Q0 E_good rfl (v := V.agg [I v169, I v170, I v171, I v172, I v173, I v174, I v175, I v176, I v177, I v178, I v179]) (.load rfl rfl (.box rfl rfl) rfl) ?_
  refine SafeOps.store (z := Obj.box [I v169, I v170, I v171, I v172, I v173, I v174, I v175, I v176, I v177, I v178, I v179]) E_good rfl rfl rfl rfl rfl rfl rfl (.boxM (c := 11) rfl rfl (Nat.le_of_ble_eq_true rfl) rfl) ?_
  refine Qf E_good ?_
  refine SafeOps.nil ?_
  repeat first|apply sq|apply sk|with_reducible first|apply tn|apply bn
  refine Safe.ret ?_
  repeat (first | with_reducible refine thenQ.r ?_ | with_reducible refine blockQ.r ?_)
  obtain rfl := Option.some.inj h
  exact retQ.gen (vs := [V.agg [I v169, I v170, I v171, I v172, I v173, I v174, I v175, I v176, I v177, I v178, I v179], V.bool true]) rfl (.cell (v := V.agg [I v169, I v170, I v171, I v172, I v173, I v174, I v175, I v176, I v177, I v178, I v179]) rfl rfl (.box rfl rfl) rfl (.tmp rfl .nil)) (.free rfl) (by simp) (.inr rfl)

noncomputable def go_ravelref18_Check_s1 (a187 : List (List api_Instr)) (a188 : List api_Event) : (Int) → Option ((Int) ⊕ (Int × Int))
 | v189 =>
  if (decide (v189 < (a188.length : Int))) = true then
   if 0 ≤ v189 ∧ v189 < (a188.length : Int) then
    if 0 ≤ (IntKind.i64.wrap (v189 + 1)) ∧ (IntKind.i64.wrap (v189 + 1)) ≤ (a188.length : Int) then
     (go_ravelref18_Of (sub a188 0 (IntKind.i64.wrap (v189 + 1))) ((gt a188 v189).Id)).bind fun x190 =>
     (go_ravelref18_One a187 x190).bind fun (x191, x192) =>
     if (!x192) = true then
      inrO (
       some (v189, 0))
     else
      nextO (IntKind.i64.wrap (v189 + 1))
    else none
   else none
  else
   inrO (
    some ((a188.length : Int), 0))

noncomputable def go_ravelref18_Check (a187 : List (List api_Instr)) (a188 : List api_Event) : Option (Int × Int) :=
 (go_ravelref04_CheckAll a187).bind fun x193 =>
 if ((x193 != 0) || (decide ((a188.length : Int) > 65536))) = true then
  some (0, 1)
 else
  whileO (go_ravelref18_Check_s1 a187 a188) 0

theorem go_ravelref18_Check_sc (a187 : List (List api_Instr)) (a188 : List api_Event) (r : Int × Int) (h : go_ravelref18_Check a187 a188 = some r) : SC Tryd.prog gl 14 [V.sl 1 (rws (fun l => [V.sl 3 (rws api_Instr.cells l)]) a187), V.sl 3 (rws api_Event.cells a188)] (V.tup [I r.1, I r.2]) := by
 rw [go_ravelref18_Check] at h
 refine SC.of E_good Tryd.func14 rfl (fun _ _ => Tryd.call14 _ _) rfl ?_
 repeat first|apply sq|apply sk|with_reducible first|apply tn|apply bn
 refine Safe.region ?_
 refine Qf E_good ?_
 refine Qf E_good ?_
 refine SafeOps.nil ?_
 repeat first|apply sq|apply sk|with_reducible first|apply tn|apply bn
 refine Safe.region ?_
 refine Qf E_good ?_
 refine bindG h ?_
 intro x193 he19713 h
 refine Q0 E_good rfl (v := I x193) (.callP rfl rfl (go_ravelref04_CheckAll_sc a187 _ he19713) rfl) ?_
 refine Q0 E_good rfl (v := V.bool (x193 != 0)) (.fn rfl) ?_
 refine Qf E_good ?_
 refine SafeOps.bjoin 4 17 (b := ((x193 != 0) || (decide ((a188.length : Int) > 65536)))) (b1 := true) (b0 := decide ((a188.length : Int) > 65536)) (fun hc19714 K => ?_) (fun hc19714 K => ?_) bj_or ?_
 ·skip
  refine sF hc19714 ?_
  refine sF hc19714 ?_
  refine sF hc19714 ?_
  refine Q0 E_good rfl (v := V.bool true) (.pickK rfl hc19714 rfl) ?_
  exact SafeOps.drop' 4 rfl rfl rfl K
 ·skip
  refine qF E_good hc19714 (.fn rfl) ?_
  refine qF E_good hc19714 (v := I (a188.length : Int)) (.fnE rfl lenE) ?_
  refine qF E_good hc19714 (v := V.bool (decide ((a188.length : Int) > 65536))) (.fn rfl) ?_
  refine Q0 E_good rfl (v := V.bool (decide ((a188.length : Int) > 65536))) (.pickK rfl hc19714 rfl) ?_
  exact SafeOps.drop' 4 rfl rfl rfl K
 refine SafeOps.nil ?_
 repeat first|apply sq|apply sk|with_reducible first|apply tn|apply bn
 refine ifG h (fun hc19715 h => ?_) (fun hc19715 h => ?_)
 ·skip
  refine Safe.condK rfl hc19715 ?_
  repeat first|apply sq|apply sk|with_reducible first|apply tn|apply bn
  refine Safe.region ?_
  refine Qf E_good ?_
  refine Qf E_good ?_
  refine SafeOps.nil ?_
  repeat first|apply sq|apply sk|with_reducible first|apply tn|apply bn
  refine Safe.ret ?_
  repeat (first | with_reducible refine thenQ.r ?_ | with_reducible refine blockQ.r ?_)
  obtain rfl := Option.some.inj h
  exact retQ.gen (vs := [I 0, I 1]) rfl (.tmp rfl (.tmp rfl .nil)) (.free rfl) (by simp) (.inr rfl)
 ·skip
  refine Safe.condN rfl hc19715 ?_
  repeat first|apply sq|apply sk|with_reducible first|apply tn|apply bn
  refine Safe.region ?_
  refine Qf E_good ?_
  refine Q0 E_good rfl (v := I (a188.length : Int)) (.fnE rfl lenE) ?_
  refine Qf E_good ?_
  refine SafeOps.nil ?_
  repeat first|apply sq|apply sk|with_reducible first|apply tn|apply bn
  refine Safe.block ?_
  repeat first|apply sq|apply sk|with_reducible first|apply tn|apply bn
  refine Safe.loopW (fun (v189 : Int) => ⟨Tryd.f14.ntmps, [(0, V.sl 1 (rws (fun l => [V.sl 3 (rws api_Instr.cells l)]) a187)), (1, V.sl 3 (rws api_Event.cells a188)), (18, V.sl 3 (rws api_Event.cells a188)), (19, I (a188.length : Int)), (20, I v189)], [], [], []⟩) h (.cov ⟨rfl, rfl, (ut (ut (ut (ut (ut upT_nil))))), upOb_nil, upOut_nil, rfl⟩) ?_
  intro v189 ohr19736 h hr19736
  replace h : go_ravelref18_Check_s1 a187 a188 v189 = some ohr19736 := h
  rw [go_ravelref18_Check_s1] at h
  repeat first|apply sq|apply sk|with_reducible first|apply tn|apply bn
  refine Safe.region ?_
  refine Q0 E_good rfl (v := V.bool (decide (v189 < (a188.length : Int)))) (.fn rfl) ?_
  refine SafeOps.nil ?_
  repeat first|apply sq|apply sk|with_reducible first|apply tn|apply bn
  refine ifG h (fun hc19737 h => ?_) (fun hc19737 h => ?_)
  ·skip
   refine Safe.condK rfl hc19737 ?_
   repeat first|apply sq|apply sk|with_reducible first|apply tn|apply bn
   refine Safe.block ?_
   repeat first|apply sq|apply sk|with_reducible first|apply tn|apply bn
   refine Safe.region ?_
   refine Qf E_good ?_
   refine okG h (fun hb19738 h => ?_)
   refine Q0 E_good rfl (v := V.spt 3 (rws api_Event.cells a188) (Int.toNat v189) 0) (.idxSlM (f := api_Event.cells) rfl rfl rfl rfl rfl hb19738) ?_
   refine Q0 E_good rfl (v := V.agg [I ((gt a188 v189).Kind), I ((gt a188 v189).Id), I ((gt a188 v189).A)]) (.load rfl rfl (.sptM (f := api_Event.cells) hb19738 rfl) rfl) ?_
   refine SafeOps.quiet1 E_good rfl rfl rfl (.alloc rfl rfl) rfl ?_
   refine Qf E_good ?_
   refine SafeOps.store (z := Obj.box [I ((gt a188 v189).Kind), I ((gt a188 v189).Id), I ((gt a188 v189).A)]) E_good rfl rfl rfl rfl rfl rfl rfl (.boxM (c := 3) rfl rfl (Nat.le_of_ble_eq_true rfl) rfl) ?_
   refine SafeOps.nil ?_
   repeat first|apply sq|apply sk|with_reducible first|apply tn|apply bn
   refine Safe.regionD (n := 15) [(13, [8])] [] E_good mixed rfl ?_
   refine DT 0 [[8]] rfl rfl (fun _ hz => (.fn rfl)) ?_
   refine DT 1 [[8]] rfl rfl (fun _ hz => (.fn rfl)) ?_
   refine DT 2 [[8]] rfl rfl (fun _ hz => (.fn rfl)) ?_
   refine DT 3 [[8]] rfl rfl (v := I (IntKind.i64.wrap (v189 + 1))) (fun _ hz => (.fn rfl)) ?_
   refine okG h (fun hb19739 h => ?_)
   refine DT 4 [[8]] rfl rfl (v := V.sl 3 (rws api_Event.cells (sub a188 0 (IntKind.i64.wrap (v189 + 1))))) (fun _ hz => (.slH (f := api_Event.cells) rfl rfl rfl rfl rfl hb19739)) ?_
   refine DT 5 [[8]] rfl rfl (v := V.ptr [7] 0 1) (fun _ hz => (.fn rfl)) ?_
   refine DT 6 [[8]] rfl rfl (v := I ((gt a188 v189).Id)) (fun _ hz => (.load rfl rfl (.box (hz _ _ rfl rfl) rfl) rfl)) ?_
   refine DAny.fork (i := 7) (j := 12) rfl rfl (by kernel_rfl) ?_ ?_
   ·skip
    refine bindG h ?_
    intro x190 he19741 h
    refine .quiet rfl rfl rfl (v := V.ref [33, 0] 0 (rws api_Event.cells x190).length) (.callP rfl rfl (go_ravelref18_Of_sc (sub a188 0 (IntKind.i64.wrap (v189 + 1))) ((gt a188 v189).Id) _ he19741) rfl) rfl ?_
    refine bindG h ?_
    rintro ⟨x191, x192⟩ he19744 h
    refine DT 8 [[8]] rfl rfl (v := V.tup [V.agg [I x191.Id, I x191.Tenant, I x191.Prog, I x191.Pc, I x191.Unit, I x191.Keeps.a0, I x191.Keeps.a1, I x191.Keeps.a2, I x191.Keeps.a3, I x191.State, I x191.Ran], V.bool x192]) (fun _ hz => (.callS rfl (.cons (.free rfl) (.cons (.full (hz _ _ rfl rfl) rfl) .nil)) (go_ravelref18_One_sc a187 x190 _ he19744) (.tupL (.cons (.aggL (.cons (.plain rfl) (.cons (.plain rfl) (.cons (.plain rfl) (.cons (.plain rfl) (.cons (.plain rfl) (.cons (.plain rfl) (.cons (.plain rfl) (.cons (.plain rfl) (.cons (.plain rfl) (.cons (.plain rfl) (.cons (.plain rfl) .nil)))))))))))) (.cons (.plain rfl) .nil))) rfl)) ?_
    refine DT 9 [[8]] rfl rfl (fun _ hz => (.fn rfl)) ?_
    refine DT 10 [[8]] rfl rfl (fun _ hz => (.fn rfl)) ?_
    refine DT 11 [[8]] rfl rfl (fun _ hz => (.fn rfl)) ?_
    refine DAny.only (i := 12) rfl (by kernel_rfl) (.quiet rfl rfl rfl (.alloc rfl rfl) rfl ?_)
    refine DAny.only (i := 13) rfl (by kernel_rfl) (.store (z := Obj.box [I x191.Id, I x191.Tenant, I x191.Prog, I x191.Pc, I x191.Unit, I x191.Keeps.a0, I x191.Keeps.a1, I x191.Keeps.a2, I x191.Keeps.a3, I x191.State, I x191.Ran]) rfl rfl rfl rfl rfl rfl rfl (.boxM (c := 11) rfl rfl (Nat.le_of_ble_eq_true rfl) rfl) rfl ?_)
    refine DT 14 [[8]] rfl rfl (fun _ hz => (.fn rfl)) ?_
    refine DAny.nil (by kernel_rfl) ?_
    repeat first|apply sq|apply sk|with_reducible first|apply tn|apply bn
    refine Safe.region ?_
    refine Qf E_good ?_
    refine Q0 E_good rfl (v := V.bool (!x192)) (.fn rfl) ?_
    refine SafeOps.nil ?_
    repeat first|apply sq|apply sk|with_reducible first|apply tn|apply bn
    refine ifG h (fun hc19745 h => ?_) (fun hc19745 h => ?_)
    ·skip
     refine Safe.condK rfl hc19745 ?_
     repeat first|apply sq|apply sk|with_reducible first|apply tn|apply bn
     refine Safe.region ?_
     refine Qf E_good ?_
     refine Qf E_good ?_
     refine Qf E_good ?_
     refine SafeOps.nil ?_
     repeat first|apply sq|apply sk|with_reducible first|apply tn|apply bn
     refine Safe.ret ?_
     repeat (first | with_reducible refine thenQ.r ?_ | with_reducible refine blockQ.r ?_)
     replace h := inr_out h hr19736
     obtain rfl := Option.some.inj h
     exact retQ.gen (vs := [I v189, I 0]) rfl (.tmp rfl (.tmp rfl .nil)) (.free rfl) (by simp) (.inr rfl)
    ·skip
     refine Safe.condN rfl hc19745 ?_
     repeat first|apply sq|apply sk|with_reducible first|apply tn|apply bn
     refine Safe.region ?_
     refine Q0 E_good rfl (v := I (IntKind.i64.wrap (v189 + 1))) (.fn rfl) ?_
     refine Qf E_good ?_
     refine SafeOps.nil ?_
     repeat first|apply sq|apply sk|with_reducible first|apply tn|apply bn
     exact ⟨_, next_out h, (.cov ⟨rfl, rfl, (ut (ut (ut (ut (ut upT_nil))))), upOb_nil, upOut_nil, rfl⟩)⟩
   ·skip
    refine .quiet rfl rfl rfl (.alloc rfl rfl) rfl ?_
    refine bindG h ?_
    intro x190 he19741 h
    refine DAny.only (i := 7) rfl (by kernel_rfl) (.quiet rfl rfl rfl (v := V.ref [33, 0] 0 (rws api_Event.cells x190).length) (.callP rfl rfl (go_ravelref18_Of_sc (sub a188 0 (IntKind.i64.wrap (v189 + 1))) ((gt a188 v189).Id) _ he19741) rfl) rfl ?_)
    refine bindG h ?_
    rintro ⟨x191, x192⟩ he19744 h
    refine DT 8 [[8]] rfl rfl (v := V.tup [V.agg [I x191.Id, I x191.Tenant, I x191.Prog, I x191.Pc, I x191.Unit, I x191.Keeps.a0, I x191.Keeps.a1, I x191.Keeps.a2, I x191.Keeps.a3, I x191.State, I x191.Ran], V.bool x192]) (fun _ hz => (.callS rfl (.cons (.free rfl) (.cons (.full (hz _ _ rfl rfl) rfl) .nil)) (go_ravelref18_One_sc a187 x190 _ he19744) (.tupL (.cons (.aggL (.cons (.plain rfl) (.cons (.plain rfl) (.cons (.plain rfl) (.cons (.plain rfl) (.cons (.plain rfl) (.cons (.plain rfl) (.cons (.plain rfl) (.cons (.plain rfl) (.cons (.plain rfl) (.cons (.plain rfl) (.cons (.plain rfl) .nil)))))))))))) (.cons (.plain rfl) .nil))) rfl)) ?_
    refine DT 9 [[8]] rfl rfl (fun _ hz => (.fn rfl)) ?_
    refine DT 10 [[8]] rfl rfl (fun _ hz => (.fn rfl)) ?_
    refine DT 11 [[8]] rfl rfl (fun _ hz => (.fn rfl)) ?_
    refine DAny.only (i := 13) rfl (by kernel_rfl) (.store (z := Obj.box [I x191.Id, I x191.Tenant, I x191.Prog, I x191.Pc, I x191.Unit, I x191.Keeps.a0, I x191.Keeps.a1, I x191.Keeps.a2, I x191.Keeps.a3, I x191.State, I x191.Ran]) rfl rfl rfl rfl rfl rfl rfl (.boxM (c := 11) rfl rfl (Nat.le_of_ble_eq_true rfl) rfl) rfl ?_)
    refine DT 14 [[8]] rfl rfl (fun _ hz => (.fn rfl)) ?_
    refine DAny.nil (by kernel_rfl) ?_
    repeat first|apply sq|apply sk|with_reducible first|apply tn|apply bn
    refine Safe.region ?_
    refine Qf E_good ?_
    refine Q0 E_good rfl (v := V.bool (!x192)) (.fn rfl) ?_
    refine SafeOps.nil ?_
    repeat first|apply sq|apply sk|with_reducible first|apply tn|apply bn
    refine ifG h (fun hc19745 h => ?_) (fun hc19745 h => ?_)
    ·skip
     refine Safe.condK rfl hc19745 ?_
     repeat first|apply sq|apply sk|with_reducible first|apply tn|apply bn
     refine Safe.region ?_
     refine Qf E_good ?_
     refine Qf E_good ?_
     refine Qf E_good ?_
     refine SafeOps.nil ?_
     repeat first|apply sq|apply sk|with_reducible first|apply tn|apply bn
     refine Safe.ret ?_
     repeat (first | with_reducible refine thenQ.r ?_ | with_reducible refine blockQ.r ?_)
     replace h := inr_out h hr19736
     obtain rfl := Option.some.inj h
     exact retQ.gen (vs := [I v189, I 0]) rfl (.tmp rfl (.tmp rfl .nil)) (.free rfl) (by simp) (.inr rfl)
    ·skip
     refine Safe.condN rfl hc19745 ?_
     repeat first|apply sq|apply sk|with_reducible first|apply tn|apply bn
     refine Safe.region ?_
     refine Q0 E_good rfl (v := I (IntKind.i64.wrap (v189 + 1))) (.fn rfl) ?_
     refine Qf E_good ?_
     refine SafeOps.nil ?_
     repeat first|apply sq|apply sk|with_reducible first|apply tn|apply bn
     exact ⟨_, next_out h, (.cov ⟨rfl, rfl, (ut (ut (ut (ut (ut upT_nil))))), upOb_nil, upOut_nil, rfl⟩)⟩
  ·skip
   refine Safe.condN rfl hc19737 ?_
   repeat first|apply sq|apply sk|with_reducible first|apply tn|apply bn
   refine Safe.exit ?_
   repeat (first | with_reducible refine thenQ.e ?_ | with_reducible refine blockQ.x rfl ?_ | with_reducible refine blockQ.y rfl ?_)
   replace h := inr_out h hr19736
   repeat first|apply sq|apply sk|with_reducible first|apply tn|apply bn
   refine Safe.region ?_
   refine Qf E_good ?_
   refine Q0 E_good rfl (v := I (a188.length : Int)) (.fnE rfl lenE) ?_
   refine Qf E_good ?_
   refine Qf E_good ?_
   refine SafeOps.nil ?_
   repeat first|apply sq|apply sk|with_reducible first|apply tn|apply bn
   refine Safe.ret ?_
   repeat (first | with_reducible refine thenQ.r ?_ | with_reducible refine blockQ.r ?_)
   obtain rfl := Option.some.inj h
   exact retQ.gen (vs := [I (a188.length : Int), I 0]) rfl (.tmp rfl (.tmp rfl .nil)) (.free rfl) (by simp) (.inr rfl)
end Go.Proofs.YtpkegoikocfchaaDoor
