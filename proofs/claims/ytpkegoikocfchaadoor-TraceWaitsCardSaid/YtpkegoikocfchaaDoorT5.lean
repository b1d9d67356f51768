/- Helper lemmas for the claim's theorem: an abstract machine over the model, proved sound; no condition beyond each lemma's own. -/
import Derived.Test.YtpkegoikocfchaaDoorT4
set_option linter.unusedVariables false
set_option linter.unusedSimpArgs false
set_option linter.unnecessarySimpa false
set_option linter.unusedSectionVars false
namespace Go.Proofs.YtpkegoikocfchaaDoor
open Go Go.AM
set_option maxRecDepth 100000
set_option maxHeartbeats 1000000
set_option linter.unusedVariables false
set_option linter.unusedSimpArgs false
noncomputable def go_ravellaw18_TraceWaits_j26 (x273 : List api_Event) (v274 : Int) (v275 : Int) (b276 : Bool) : Option ((Int × Int) ⊕ ((Int) ⊕ (Bool))) :=
 if ((b276 && (((gt x273 v274).Kind) != 4)) && (((gt x273 v274).Kind) != 6)) = true then
  inrO (
   inrO (
    some false))
 else
  if (((gt x273 v274).Kind) == 4) = true then
   if (v274 == 0) = true then
    inrO (
     inrO (
      some false))
   else
    if 0 ≤ (IntKind.i64.wrap (v274 - 1)) ∧ (IntKind.i64.wrap (v274 - 1)) < (x273.length : Int) then
     if (((gt x273 (IntKind.i64.wrap (v274 - 1))).Kind) != 3) = true then
      inrO (
       inrO (
        some false))
     else
      nextO (v275, IntKind.i64.wrap (v274 + 1))
    else none
  else
   nextO (v275, IntKind.i64.wrap (v274 + 1))

noncomputable def go_ravellaw18_TraceWaits_j25 (x273 : List api_Event) (v274 : Int) (v275 : Int) : Option ((Int × Int) ⊕ ((Int) ⊕ (Bool))) :=
 if (decide (v274 > 0)) = true then
  if 0 ≤ (IntKind.i64.wrap (v274 - 1)) ∧ (IntKind.i64.wrap (v274 - 1)) < (x273.length : Int) then
   go_ravellaw18_TraceWaits_j26 x273 v274 v275 (((gt x273 (IntKind.i64.wrap (v274 - 1))).Kind) == 3)
  else none
 else
  go_ravellaw18_TraceWaits_j26 x273 v274 v275 false

noncomputable def go_ravellaw18_TraceWaits_s24 (v277 : Int) (x273 : List api_Event) : (Int × Int) → Option ((Int × Int) ⊕ ((Int) ⊕ (Bool)))
 | (v278, v274) =>
  if (decide (v274 < (x273.length : Int))) = true then
   if 0 ≤ v274 ∧ v274 < (x273.length : Int) then
    if (((gt x273 v274).Kind) == 3) = true then
     go_ravellaw18_TraceWaits_j25 x273 v274 (IntKind.i64.wrap (v278 + 1))
    else
     go_ravellaw18_TraceWaits_j25 x273 v274 v278
   else none
  else
   inrO (
    (go_trace_Count x273 4).bind fun x279 =>
    if (decide (v278 < x279)) = true then
     inrO (
      some false)
    else
     (go_trace_Count x273 4).bind fun x280 =>
     if (decide (v278 > (IntKind.i64.wrap (x280 + 1)))) = true then
      inrO (
       some false)
     else
      nextO (IntKind.i64.wrap (v277 + 1)))

noncomputable def go_ravellaw18_TraceWaits_s17 (a281 : List api_Event) (x282 : Bool) (x283 : List api_Task) : (Int) → Option ((Int) ⊕ (Bool))
 | v277 =>
  if (decide (v277 < (x283.length : Int))) = true then
   if 0 ≤ v277 ∧ v277 < (x283.length : Int) then
    (go_trace_Of a281 ((gt x283 v277).Id)).bind fun x273 =>
    whileO (go_ravellaw18_TraceWaits_s24 v277 x273) (0, 0)
   else none
  else
   inrO (
    some x282)

noncomputable def go_ravellaw18_TraceWaits (a284 : List (List api_Instr)) (a281 : List api_Event) : Option Bool :=
 (go_ravellaw18_live).bind fun x282 =>
 (go_ravelref04_Few a284).bind fun x285 =>
 if ((!x285) || (decide ((a281.length : Int) > 100))) = true then
  some x282
 else
  (go_trace_Tasks a284 a281).bind fun (x283, x286) =>
  if (x286 != 0) = true then
   some x282
  else
   whileO (go_ravellaw18_TraceWaits_s17 a281 x282 x283) 0

theorem go_ravellaw18_TraceWaits_sc (a284 : List (List api_Instr)) (a281 : List api_Event) (r : Bool) (h : go_ravellaw18_TraceWaits a284 a281 = some r) : SC Tryd.prog gl 7 [V.sl 1 (rws (fun l => [V.sl 3 (rws api_Instr.cells l)]) a284), V.sl 3 (rws api_Event.cells a281)] (V.bool r) := by
 rw [go_ravellaw18_TraceWaits] at h
 refine SC.of E_good Tryd.func7 rfl (fun _ _ => Tryd.call7 _ _) rfl ?_
 repeat first|apply sq|apply sk|with_reducible first|apply tn|apply bn
 refine Safe.region ?_
 refine Qf E_good ?_
 refine SafeOps.nil ?_
 repeat first|apply sq|apply sk|with_reducible first|apply tn|apply bn
 refine Safe.region ?_
 refine bindG h ?_
 intro x282 he25528 h
 refine Q0 E_good rfl (v := V.bool x282) (.callP rfl rfl (go_ravellaw18_live_sc  _ he25528) rfl) ?_
 refine Qf E_good ?_
 refine SafeOps.nil ?_
 repeat first|apply sq|apply sk|with_reducible first|apply tn|apply bn
 refine Safe.region ?_
 refine Qf E_good ?_
 refine bindG h ?_
 intro x285 he25530 h
 refine Q0 E_good rfl (v := V.bool x285) (.callP rfl rfl (go_ravelref04_Few_sc a284 _ he25530) rfl) ?_
 refine Q0 E_good rfl (v := V.bool (!x285)) (.fn rfl) ?_
 refine Qf E_good ?_
 refine SafeOps.bjoin 4 22 (b := ((!x285) || (decide ((a281.length : Int) > 100)))) (b1 := true) (b0 := decide ((a281.length : Int) > 100)) (fun hc25531 K => ?_) (fun hc25531 K => ?_) bj_or ?_
 ·skip
  refine sF hc25531 ?_
  refine sF hc25531 ?_
  refine sF hc25531 ?_
  refine Q0 E_good rfl (v := V.bool true) (.pickK rfl hc25531 rfl) ?_
  exact SafeOps.drop' 4 rfl rfl rfl K
 ·skip
  refine qF E_good hc25531 (.fn rfl) ?_
  refine qF E_good hc25531 (v := I (a281.length : Int)) (.fnE rfl lenE) ?_
  refine qF E_good hc25531 (v := V.bool (decide ((a281.length : Int) > 100))) (.fn rfl) ?_
  refine Q0 E_good rfl (v := V.bool (decide ((a281.length : Int) > 100))) (.pickK rfl hc25531 rfl) ?_
  exact SafeOps.drop' 4 rfl rfl rfl K
 refine SafeOps.nil ?_
 repeat first|apply sq|apply sk|with_reducible first|apply tn|apply bn
 refine ifG h (fun hc25532 h => ?_) (fun hc25532 h => ?_)
 ·skip
  refine Safe.condK rfl hc25532 ?_
  repeat first|apply sq|apply sk|with_reducible first|apply tn|apply bn
  refine Safe.region ?_
  refine Qf E_good ?_
  refine Qf E_good ?_
  refine SafeOps.nil ?_
  repeat first|apply sq|apply sk|with_reducible first|apply tn|apply bn
  refine Safe.ret ?_
  repeat (first | with_reducible refine thenQ.r ?_ | with_reducible refine blockQ.r ?_)
  obtain rfl := Option.some.inj h
  exact retQ.gen (vs := [V.bool x282]) rfl (.tmp rfl .nil) (.free rfl) (by simp) (.inr rfl)
 ·skip
  refine Safe.condN rfl hc25532 ?_
  repeat first|apply sq|apply sk|with_reducible first|apply tn|apply bn
  refine Safe.region ?_
  refine Qf E_good ?_
  refine Qf E_good ?_
  refine bindG h ?_
  rintro ⟨x283, x286⟩ he25535 h
  refine SafeOps.quiet E_good rfl rfl rfl (v := V.tup [V.ref [27, 0] 0 (rws api_Task.cells x283).length, I x286]) (.callP rfl rfl (go_trace_Tasks_sc a284 a281 _ he25535) rfl) rfl ?_
  refine Qf E_good ?_
  refine Qf E_good ?_
  refine Qf E_good ?_
  refine Qf E_good ?_
  refine Qf E_good ?_
  refine SafeOps.nil ?_
  repeat first|apply sq|apply sk|with_reducible first|apply tn|apply bn
  refine Safe.region ?_
  refine Qf E_good ?_
  refine Q0 E_good rfl (v := V.bool (x286 != 0)) (.fn rfl) ?_
  refine SafeOps.nil ?_
  repeat first|apply sq|apply sk|with_reducible first|apply tn|apply bn
  refine ifG h (fun hc25536 h => ?_) (fun hc25536 h => ?_)
  ·skip
   refine Safe.condK rfl hc25536 ?_
   repeat first|apply sq|apply sk|with_reducible first|apply tn|apply bn
   refine Safe.region ?_
   refine Qf E_good ?_
   refine Qf E_good ?_
   refine SafeOps.nil ?_
   repeat first|apply sq|apply sk|with_reducible first|apply tn|apply bn
   refine Safe.ret ?_
   repeat (first | with_reducible refine thenQ.r ?_ | with_reducible refine blockQ.r ?_)
   obtain rfl := Option.some.inj h
   exact retQ.gen (vs := [V.bool x282]) rfl (.tmp rfl .nil) (.free rfl) (by simp) (.inr rfl)
  ·skip
   refine Safe.condN rfl hc25536 ?_
   repeat first|apply sq|apply sk|with_reducible first|apply tn|apply bn
   refine Safe.region ?_
   refine Qf E_good ?_
   refine Q0 E_good rfl (v := I (x283.length : Int)) (.fnE rfl lenE) ?_
   refine Qf E_good ?_
   refine SafeOps.nil ?_
   repeat first|apply sq|apply sk|with_reducible first|apply tn|apply bn
   refine Safe.block ?_
   repeat first|apply sq|apply sk|with_reducible first|apply tn|apply bn
   refine Safe.loopW (fun (v277 : Int) => ⟨Tryd.f7.ntmps, [(1, V.sl 3 (rws api_Event.cells a281)), (5, V.bool x282), (33, V.ref [27, 0] 0 (rws api_Task.cells x283).length), (34, I (x283.length : Int)), (35, I v277)], [([27, 0], Obj.rows 11 (rws api_Task.cells x283) false)], [], []⟩) h (.cov ⟨rfl, rfl, (ut (ut (ut (ut (ut upT_nil))))), (uo upOb_nil), upOut_nil, rfl⟩) ?_
   intro v277 ohr25779 h hr25779
   replace h : go_ravellaw18_TraceWaits_s17 a281 x282 x283 v277 = some ohr25779 := h
   rw [go_ravellaw18_TraceWaits_s17] at h
   repeat first|apply sq|apply sk|with_reducible first|apply tn|apply bn
   refine Safe.region ?_
   refine Q0 E_good rfl (v := V.bool (decide (v277 < (x283.length : Int)))) (.fn rfl) ?_
   refine SafeOps.nil ?_
   repeat first|apply sq|apply sk|with_reducible first|apply tn|apply bn
   refine ifG h (fun hc25780 h => ?_) (fun hc25780 h => ?_)
   ·skip
    refine Safe.condK rfl hc25780 ?_
    repeat first|apply sq|apply sk|with_reducible first|apply tn|apply bn
    refine Safe.block ?_
    repeat first|apply sq|apply sk|with_reducible first|apply tn|apply bn
    refine Safe.region ?_
    refine okG h (fun hb25781 h => ?_)
    refine Q0 E_good rfl (v := V.ptr [27, 0] (0 + Int.toNat v277) 0) (.idxRefM (f := api_Task.cells) (xs := x283) rfl rfl rfl rfl rfl rfl hb25781) ?_
    refine Q0 E_good rfl (v := V.agg [I ((gt x283 v277).Id), I ((gt x283 v277).Tenant), I ((gt x283 v277).Prog), I ((gt x283 v277).Pc), I ((gt x283 v277).Unit), I ((gt x283 v277).Keeps.a0), I ((gt x283 v277).Keeps.a1), I ((gt x283 v277).Keeps.a2), I ((gt x283 v277).Keeps.a3), I ((gt x283 v277).State), I ((gt x283 v277).Ran)]) (.load rfl rfl (.rowsM (f := api_Task.cells) (xs := x283) hb25781 rfl rfl) rfl) ?_
    refine SafeOps.quiet1 E_good rfl rfl rfl (.alloc rfl rfl) rfl ?_
    refine SafeOps.store (z := Obj.box [I ((gt x283 v277).Id), I ((gt x283 v277).Tenant), I ((gt x283 v277).Prog), I ((gt x283 v277).Pc), I ((gt x283 v277).Unit), I ((gt x283 v277).Keeps.a0), I ((gt x283 v277).Keeps.a1), I ((gt x283 v277).Keeps.a2), I ((gt x283 v277).Keeps.a3), I ((gt x283 v277).State), I ((gt x283 v277).Ran)]) E_good rfl rfl rfl rfl rfl rfl rfl (.boxM (c := 11) rfl rfl (Nat.le_of_ble_eq_true rfl) rfl) ?_
    refine SafeOps.nil ?_
    repeat first|apply sq|apply sk|with_reducible first|apply tn|apply bn
    refine Safe.region ?_
    refine Qf E_good ?_
    refine Q0 E_good rfl (v := V.ptr [9] 0 0) (.fn rfl) ?_
    refine Q0 E_good rfl (v := I ((gt x283 v277).Id)) (.load rfl rfl (.box rfl rfl) rfl) ?_
    refine bindG h ?_
    intro x273 he25783 h
    refine SafeOps.quiet E_good rfl rfl rfl (v := V.ref [42, 0] 0 (rws api_Event.cells x273).length) (.callP rfl rfl (go_trace_Of_sc a281 ((gt x283 v277).Id) _ he25783) rfl) rfl ?_
    refine Qf E_good ?_
    refine SafeOps.nil ?_
    repeat first|apply sq|apply sk|with_reducible first|apply tn|apply bn
    refine Safe.region ?_
    refine Qf E_good ?_
    refine SafeOps.nil ?_
    repeat first|apply sq|apply sk|with_reducible first|apply tn|apply bn
    refine Safe.region ?_
    refine Qf E_good ?_
    refine Q0 E_good rfl (v := I (x273.length : Int)) (.fnE rfl lenE) ?_
    refine Qf E_good ?_
    refine SafeOps.nil ?_
    repeat first|apply sq|apply sk|with_reducible first|apply tn|apply bn
    refine Safe.block ?_
    repeat first|apply sq|apply sk|with_reducible first|apply tn|apply bn
    refine Safe.loopW (fun ((v278, v274) : Int × Int) => ⟨Tryd.f7.ntmps, [(1, V.sl 3 (rws api_Event.cells a281)), (5, V.bool x282), (10, V.ref [42, 0] 0 (rws api_Event.cells x273).length), (11, I v278), (33, V.ref [27, 0] 0 (rws api_Task.cells x283).length), (34, I (x283.length : Int)), (35, I v277), (43, V.ref [42, 0] 0 (rws api_Event.cells x273).length), (44, I (x273.length : Int)), (45, I v274)], [([27, 0], Obj.rows 11 (rws api_Task.cells x283) false), ([42, 0], Obj.rows 3 (rws api_Event.cells x273) false)], [], []⟩) h (.cov ⟨rfl, rfl, (ut (ut (ut (ut (ut (ut (ut (ut (ut (ut upT_nil)))))))))), (uo (uo upOb_nil)), upOut_nil, rfl⟩) ?_
    rintro ⟨v278, v274⟩ ohr25870 h hr25870
    replace h : go_ravellaw18_TraceWaits_s24 v277 x273 (v278, v274) = some ohr25870 := h
    rw [go_ravellaw18_TraceWaits_s24] at h
    repeat first|apply sq|apply sk|with_reducible first|apply tn|apply bn
    refine Safe.region ?_
    refine Q0 E_good rfl (v := V.bool (decide (v274 < (x273.length : Int)))) (.fn rfl) ?_
    refine SafeOps.nil ?_
    repeat first|apply sq|apply sk|with_reducible first|apply tn|apply bn
    refine ifG h (fun hc25871 h => ?_) (fun hc25871 h => ?_)
    ·skip
     refine Safe.condK rfl hc25871 ?_
     repeat first|apply sq|apply sk|with_reducible first|apply tn|apply bn
     refine Safe.block ?_
     repeat first|apply sq|apply sk|with_reducible first|apply tn|apply bn
     refine Safe.region ?_
     refine Qf E_good ?_
     refine okG h (fun hb25872 h => ?_)
     refine Q0 E_good rfl (v := V.ptr [42, 0] (0 + Int.toNat v274) 0) (.idxRefM (f := api_Event.cells) (xs := x273) rfl rfl rfl rfl rfl rfl hb25872) ?_
     refine Q0 E_good rfl (v := V.agg [I ((gt x273 v274).Kind), I ((gt x273 v274).Id), I ((gt x273 v274).A)]) (.load rfl rfl (.rowsM (f := api_Event.cells) (xs := x273) hb25872 rfl rfl) rfl) ?_
     refine SafeOps.quiet1 E_good rfl rfl rfl (.alloc rfl rfl) rfl ?_
     refine Qf E_good ?_
     refine SafeOps.store (z := Obj.box [I ((gt x273 v274).Kind), I ((gt x273 v274).Id), I ((gt x273 v274).A)]) E_good rfl rfl rfl rfl rfl rfl rfl (.boxM (c := 3) rfl rfl (Nat.le_of_ble_eq_true rfl) rfl) ?_
     refine SafeOps.nil ?_
     repeat first|apply sq|apply sk|with_reducible first|apply tn|apply bn
     refine Safe.region ?_
     refine Q0 E_good rfl (v := V.ptr [13] 0 0) (.fn rfl) ?_
     refine Q0 E_good rfl (v := I ((gt x273 v274).Kind)) (.load rfl rfl (.box rfl rfl) rfl) ?_
     refine Q0 E_good rfl (v := V.bool (((gt x273 v274).Kind) == 3)) (.fn rfl) ?_
     refine SafeOps.nil ?_
     repeat first|apply sq|apply sk|with_reducible first|apply tn|apply bn
     refine Safe.joinT (fun (v275 : Int) => go_ravellaw18_TraceWaits_j25 x273 v274 v275 = some ohr25870) (fun (v275 : Int) => ⟨Tryd.f7.ntmps, [(1, V.sl 3 (rws api_Event.cells a281)), (5, V.bool x282), (10, V.ref [42, 0] 0 (rws api_Event.cells x273).length), (11, I v275), (12, I v274), (13, V.ptr [13] 0 0), (33, V.ref [27, 0] 0 (rws api_Task.cells x283).length), (34, I (x283.length : Int)), (35, I v277), (43, V.ref [42, 0] 0 (rws api_Event.cells x273).length), (44, I (x273.length : Int)), (45, I v274)], [([13], Obj.box [I ((gt x273 v274).Kind), I ((gt x273 v274).Id), I ((gt x273 v274).A)]), ([27, 0], Obj.rows 11 (rws api_Task.cells x283) false), ([42, 0], Obj.rows 3 (rws api_Event.cells x273) false)], [], []⟩) ?_ (fun HJ25874 => ?_)
     ·intro v275 h
      replace h : go_ravellaw18_TraceWaits_j25 x273 v274 v275 = some ohr25870 := h
      rw [go_ravellaw18_TraceWaits_j25] at h
      repeat first|apply sq|apply sk|with_reducible first|apply tn|apply bn
      refine Safe.region ?_
      refine Qf E_good ?_
      refine Q0 E_good rfl (v := V.bool (decide (v274 > 0))) (.fn rfl) ?_
      refine Qf E_good ?_
      refine SafeOps.bsplit 8 65 (fun b276 => go_ravellaw18_TraceWaits_j26 x273 v274 v275 b276 = some ohr25870) (fun HJ25878 => ?_) (fun b276 h => ?_)
      ·refine ifG h (fun hc25875 h => ?_) (fun hc25875 h => ?_)
       ·skip
        refine qT E_good hc25875 (.fn rfl) ?_
        refine qT E_good hc25875 (.fn rfl) ?_
        refine qT E_good hc25875 (v := I (IntKind.i64.wrap (v274 - 1))) (.fn rfl) ?_
        refine okG h (fun hb25890 h => ?_)
        refine qT E_good hc25875 (v := V.ptr [42, 0] (0 + Int.toNat (IntKind.i64.wrap (v274 - 1))) 0) (.idxRefM (f := api_Event.cells) (xs := x273) rfl rfl rfl rfl rfl rfl hb25890) ?_
        refine qT E_good hc25875 (v := V.ptr [42, 0] (0 + Int.toNat (IntKind.i64.wrap (v274 - 1))) 0) (.fn rfl) ?_
        refine qT E_good hc25875 (v := I ((gt x273 (IntKind.i64.wrap (v274 - 1))).Kind)) (.load rfl rfl (.rowsM (f := api_Event.cells) (xs := x273) hb25890 rfl rfl) rfl) ?_
        refine qT E_good hc25875 (v := V.bool (((gt x273 (IntKind.i64.wrap (v274 - 1))).Kind) == 3)) (.fn rfl) ?_
        refine Q0 E_good rfl (v := V.bool (((gt x273 (IntKind.i64.wrap (v274 - 1))).Kind) == 3)) (.pickK rfl hc25875 rfl) ?_
        exact SafeOps.drop' 8 rfl rfl rfl (HJ25878 _ h)
       ·skip
        refine sT hc25875 ?_
        refine sT hc25875 ?_
        refine sT hc25875 ?_
        refine sT hc25875 ?_
        refine sT hc25875 ?_
        refine sT hc25875 ?_
        refine sT hc25875 ?_
        refine Q0 E_good rfl (v := V.bool false) (.pickK rfl hc25875 rfl) ?_
        exact SafeOps.drop' 8 rfl rfl rfl (HJ25878 _ h)
      ·replace h : go_ravellaw18_TraceWaits_j26 x273 v274 v275 b276 = some ohr25870 := h
       rw [go_ravellaw18_TraceWaits_j26] at h
       refine Qf E_good ?_
       refine SafeOps.bjoin 4 70 (b := (b276 && (((gt x273 v274).Kind) != 4))) (b1 := (((gt x273 v274).Kind) != 4)) (b0 := false) (fun hc25879 K => ?_) (fun hc25879 K => ?_) bj_and ?_
       ·skip
        refine qT E_good hc25879 (v := V.ptr [13] 0 0) (.fn rfl) ?_
        refine qT E_good hc25879 (v := I ((gt x273 v274).Kind)) (.load rfl rfl (.box rfl rfl) rfl) ?_
        refine qT E_good hc25879 (v := V.bool (((gt x273 v274).Kind) != 4)) (.fn rfl) ?_
        refine Q0 E_good rfl (v := V.bool (((gt x273 v274).Kind) != 4)) (.pickK rfl hc25879 rfl) ?_
        exact SafeOps.drop' 4 rfl rfl rfl K
       ·skip
        refine sT hc25879 ?_
        refine sT hc25879 ?_
        refine sT hc25879 ?_
        refine Q0 E_good rfl (v := V.bool false) (.pickK rfl hc25879 rfl) ?_
        exact SafeOps.drop' 4 rfl rfl rfl K
       refine Qf E_good ?_
       refine SafeOps.bjoin 4 75 (b := ((b276 && (((gt x273 v274).Kind) != 4)) && (((gt x273 v274).Kind) != 6))) (b1 := (((gt x273 v274).Kind) != 6)) (b0 := false) (fun hc25880 K => ?_) (fun hc25880 K => ?_) bj_and ?_
       ·skip
        refine qT E_good hc25880 (v := V.ptr [13] 0 0) (.fn rfl) ?_
        refine qT E_good hc25880 (v := I ((gt x273 v274).Kind)) (.load rfl rfl (.box rfl rfl) rfl) ?_
        refine qT E_good hc25880 (v := V.bool (((gt x273 v274).Kind) != 6)) (.fn rfl) ?_
        refine Q0 E_good rfl (v := V.bool (((gt x273 v274).Kind) != 6)) (.pickK rfl hc25880 rfl) ?_
        exact SafeOps.drop' 4 rfl rfl rfl K
       ·skip
        refine sT hc25880 ?_
        refine sT hc25880 ?_
        refine sT hc25880 ?_
        refine Q0 E_good rfl (v := V.bool false) (.pickK rfl hc25880 rfl) ?_
        exact SafeOps.drop' 4 rfl rfl rfl K
       refine SafeOps.nil ?_
       repeat first|apply sq|apply sk|with_reducible first|apply tn|apply bn
       refine ifG h (fun hc25881 h => ?_) (fun hc25881 h => ?_)
       ·skip
        refine Safe.condK rfl hc25881 ?_
        repeat first|apply sq|apply sk|with_reducible first|apply tn|apply bn
        refine Safe.region ?_
        refine Qf E_good ?_
        refine SafeOps.nil ?_
        repeat first|apply sq|apply sk|with_reducible first|apply tn|apply bn
        refine Safe.ret ?_
        repeat (first | with_reducible refine thenQ.r ?_ | with_reducible refine blockQ.r ?_)
        replace h := inr_out h hr25870
        replace h := inr_out h hr25779
        obtain rfl := Option.some.inj h
        exact retQ.gen (vs := [V.bool false]) rfl (.tmp rfl .nil) (.free rfl) (by simp) (.inr rfl)
       ·skip
        refine Safe.condN rfl hc25881 ?_
        repeat first|apply sq|apply sk|with_reducible first|apply tn|apply bn
        refine Safe.region ?_
        refine Q0 E_good rfl (v := V.ptr [13] 0 0) (.fn rfl) ?_
        refine Q0 E_good rfl (v := I ((gt x273 v274).Kind)) (.load rfl rfl (.box rfl rfl) rfl) ?_
        refine Q0 E_good rfl (v := V.bool (((gt x273 v274).Kind) == 4)) (.fn rfl) ?_
        refine Qf E_good ?_
        refine ifG h (fun hc25882 h => ?_) (fun hc25882 h => ?_)
        ·skip
         refine qT E_good hc25882 (.fn rfl) ?_
         refine qT E_good hc25882 (v := V.bool (v274 == 0)) (.fn rfl) ?_
         refine qT E_good hc25882 (.fn rfl) ?_
         refine ifG h (fun hc25886 h => ?_) (fun hc25886 h => ?_)
         ·skip
          refine sF hc25886 ?_
          refine sF hc25886 ?_
          refine sF hc25886 ?_
          refine sF hc25886 ?_
          refine sF hc25886 ?_
          refine sF hc25886 ?_
          refine sF hc25886 ?_
          refine qT E_good hc25882 (v := V.bool true) (.pickK rfl hc25886 rfl) ?_
          refine Q0 E_good rfl (v := V.bool true) (.pickK rfl hc25882 rfl) ?_
          refine SafeOps.nil ?_
          repeat first|apply sq|apply sk|with_reducible first|apply tn|apply bn
          refine Safe.condK rfl rfl ?_
          repeat first|apply sq|apply sk|with_reducible first|apply tn|apply bn
          refine Safe.region ?_
          refine Qf E_good ?_
          refine SafeOps.nil ?_
          repeat first|apply sq|apply sk|with_reducible first|apply tn|apply bn
          refine Safe.ret ?_
          repeat (first | with_reducible refine thenQ.r ?_ | with_reducible refine blockQ.r ?_)
          replace h := inr_out h hr25870
          replace h := inr_out h hr25779
          obtain rfl := Option.some.inj h
          exact retQ.gen (vs := [V.bool false]) rfl (.tmp rfl .nil) (.free rfl) (by simp) (.inr rfl)
         ·skip
          refine qF E_good hc25886 (.fn rfl) ?_
          refine qF E_good hc25886 (.fn rfl) ?_
          refine qF E_good hc25886 (v := I (IntKind.i64.wrap (v274 - 1))) (.fn rfl) ?_
          refine okG h (fun hb25888 h => ?_)
          refine qF E_good hc25886 (v := V.ptr [42, 0] (0 + Int.toNat (IntKind.i64.wrap (v274 - 1))) 0) (.idxRefM (f := api_Event.cells) (xs := x273) rfl rfl rfl rfl rfl rfl hb25888) ?_
          refine qF E_good hc25886 (v := V.ptr [42, 0] (0 + Int.toNat (IntKind.i64.wrap (v274 - 1))) 0) (.fn rfl) ?_
          refine qF E_good hc25886 (v := I ((gt x273 (IntKind.i64.wrap (v274 - 1))).Kind)) (.load rfl rfl (.rowsM (f := api_Event.cells) (xs := x273) hb25888 rfl rfl) rfl) ?_
          refine qF E_good hc25886 (v := V.bool (((gt x273 (IntKind.i64.wrap (v274 - 1))).Kind) != 3)) (.fn rfl) ?_
          refine qT E_good hc25882 (v := V.bool (((gt x273 (IntKind.i64.wrap (v274 - 1))).Kind) != 3)) (.pickK rfl hc25886 rfl) ?_
          refine Q0 E_good rfl (v := V.bool (((gt x273 (IntKind.i64.wrap (v274 - 1))).Kind) != 3)) (.pickK rfl hc25882 rfl) ?_
          refine SafeOps.nil ?_
          repeat first|apply sq|apply sk|with_reducible first|apply tn|apply bn
          refine ifG h (fun hc25889 h => ?_) (fun hc25889 h => ?_)
          ·skip
           refine Safe.condK rfl hc25889 ?_
           repeat first|apply sq|apply sk|with_reducible first|apply tn|apply bn
           refine Safe.region ?_
           refine Qf E_good ?_
           refine SafeOps.nil ?_
           repeat first|apply sq|apply sk|with_reducible first|apply tn|apply bn
           refine Safe.ret ?_
           repeat (first | with_reducible refine thenQ.r ?_ | with_reducible refine blockQ.r ?_)
           replace h := inr_out h hr25870
           replace h := inr_out h hr25779
           obtain rfl := Option.some.inj h
           exact retQ.gen (vs := [V.bool false]) rfl (.tmp rfl .nil) (.free rfl) (by simp) (.inr rfl)
          ·skip
           refine Safe.condN rfl hc25889 ?_
           repeat first|apply sq|apply sk|with_reducible first|apply tn|apply bn
           refine Safe.region ?_
           refine Q0 E_good rfl (v := I (IntKind.i64.wrap (v274 + 1))) (.fn rfl) ?_
           refine Qf E_good ?_
           refine SafeOps.nil ?_
           repeat first|apply sq|apply sk|with_reducible first|apply tn|apply bn
           exact ⟨_, next_out h, (.cov ⟨rfl, rfl, (ut (ut (ut (ut (ut (ut (ut (ut (ut (ut upT_nil)))))))))), (uo (uo upOb_nil)), upOut_nil, rfl⟩)⟩
        ·skip
         refine sT hc25882 ?_
         refine sT hc25882 ?_
         refine sT hc25882 ?_
         refine SafeOps.skip rfl rfl rfl ?_
         refine SafeOps.skip rfl rfl rfl ?_
         refine SafeOps.skip rfl rfl rfl ?_
         refine SafeOps.skip rfl rfl rfl ?_
         refine SafeOps.skip rfl rfl rfl ?_
         refine SafeOps.skip rfl rfl rfl ?_
         refine SafeOps.skip rfl rfl rfl ?_
         refine sT hc25882 ?_
         refine Q0 E_good rfl (v := V.bool false) (.pickK rfl hc25882 rfl) ?_
         refine SafeOps.nil ?_
         repeat first|apply sq|apply sk|with_reducible first|apply tn|apply bn
         refine Safe.condN rfl rfl ?_
         repeat first|apply sq|apply sk|with_reducible first|apply tn|apply bn
         refine Safe.region ?_
         refine Q0 E_good rfl (v := I (IntKind.i64.wrap (v274 + 1))) (.fn rfl) ?_
         refine Qf E_good ?_
         refine SafeOps.nil ?_
         repeat first|apply sq|apply sk|with_reducible first|apply tn|apply bn
         exact ⟨_, next_out h, (.cov ⟨rfl, rfl, (ut (ut (ut (ut (ut (ut (ut (ut (ut (ut upT_nil)))))))))), (uo (uo upOb_nil)), upOut_nil, rfl⟩)⟩
     ·skip
      refine ifG h (fun hc25891 h => ?_) (fun hc25891 h => ?_)
      ·skip
       refine Safe.condK rfl hc25891 ?_
       repeat first|apply sq|apply sk|with_reducible first|apply tn|apply bn
       refine Safe.region ?_
       refine Qf E_good ?_
       refine Q0 E_good rfl (v := I (IntKind.i64.wrap (v278 + 1))) (.fn rfl) ?_
       refine Qf E_good ?_
       refine SafeOps.nil ?_
       repeat (first | refine Safe.skip ?_ | with_reducible refine thenQ.n ?_ | with_reducible refine blockQ.n ?_)
       exact Safe.got (HJ25874 (IntKind.i64.wrap (v278 + 1)) h) (.cov ⟨rfl, rfl, (ut (ut (ut (ut (ut (ut (ut (ut (ut (ut (ut (ut upT_nil)))))))))))), (uo (uo (uo upOb_nil))), upOut_nil, rfl⟩)
      ·skip
       refine Safe.condN rfl hc25891 ?_
       repeat (first | refine Safe.skip ?_ | with_reducible refine thenQ.n ?_ | with_reducible refine blockQ.n ?_)
       exact Safe.got (HJ25874 (v278) h) (.cov ⟨rfl, rfl, (ut (ut (ut (ut (ut (ut (ut (ut (ut (ut (ut (ut upT_nil)))))))))))), (uo (uo (uo upOb_nil))), upOut_nil, rfl⟩)
    ·skip
     refine Safe.condN rfl hc25871 ?_
     repeat first|apply sq|apply sk|with_reducible first|apply tn|apply bn
     refine Safe.exit ?_
     repeat (first | with_reducible refine thenQ.e ?_ | with_reducible refine blockQ.x rfl ?_ | with_reducible refine blockQ.y rfl ?_)
     replace h := inr_out h hr25870
     repeat first|apply sq|apply sk|with_reducible first|apply tn|apply bn
     refine Safe.region ?_
     refine Qf E_good ?_
     refine Qf E_good ?_
     refine bindG h ?_
     intro x279 he25893 h
     refine Q0 E_good rfl (v := I x279) (.callS rfl (.cons (.full rfl rfl) (.cons (.free rfl) .nil)) (go_trace_Count_sc x273 4 _ he25893) (.plain rfl) rfl) ?_
     refine Q0 E_good rfl (v := V.bool (decide (v278 < x279))) (.fn rfl) ?_
     refine Qf E_good ?_
     refine ifG h (fun hc25894 h => ?_) (fun hc25894 h => ?_)
     ·skip
      refine sF hc25894 ?_
      refine sF hc25894 ?_
      refine sF hc25894 ?_
      refine sF hc25894 ?_
      refine sF hc25894 ?_
      refine Q0 E_good rfl (v := V.bool true) (.pickK rfl hc25894 rfl) ?_
      refine SafeOps.nil ?_
      repeat first|apply sq|apply sk|with_reducible first|apply tn|apply bn
      refine Safe.condK rfl rfl ?_
      repeat first|apply sq|apply sk|with_reducible first|apply tn|apply bn
      refine Safe.region ?_
      refine Qf E_good ?_
      refine SafeOps.nil ?_
      repeat first|apply sq|apply sk|with_reducible first|apply tn|apply bn
      refine Safe.ret ?_
      repeat (first | with_reducible refine thenQ.r ?_ | with_reducible refine blockQ.r ?_)
      replace h := inr_out h hr25779
      obtain rfl := Option.some.inj h
      exact retQ.gen (vs := [V.bool false]) rfl (.tmp rfl .nil) (.free rfl) (by simp) (.inr rfl)
     ·skip
      refine qF E_good hc25894 (.fn rfl) ?_
      refine qF E_good hc25894 (.fn rfl) ?_
      refine bindG h ?_
      intro x280 he25898 h
      refine qF E_good hc25894 (v := I x280) (.callS rfl (.cons (.full rfl rfl) (.cons (.free rfl) .nil)) (go_trace_Count_sc x273 4 _ he25898) (.plain rfl) rfl) ?_
      refine qF E_good hc25894 (v := I (IntKind.i64.wrap (x280 + 1))) (.fn rfl) ?_
      refine qF E_good hc25894 (v := V.bool (decide (v278 > (IntKind.i64.wrap (x280 + 1))))) (.fn rfl) ?_
      refine Q0 E_good rfl (v := V.bool (decide (v278 > (IntKind.i64.wrap (x280 + 1))))) (.pickK rfl hc25894 rfl) ?_
      refine SafeOps.nil ?_
      repeat first|apply sq|apply sk|with_reducible first|apply tn|apply bn
      refine ifG h (fun hc25899 h => ?_) (fun hc25899 h => ?_)
      ·skip
       refine Safe.condK rfl hc25899 ?_
       repeat first|apply sq|apply sk|with_reducible first|apply tn|apply bn
       refine Safe.region ?_
       refine Qf E_good ?_
       refine SafeOps.nil ?_
       repeat first|apply sq|apply sk|with_reducible first|apply tn|apply bn
       refine Safe.ret ?_
       repeat (first | with_reducible refine thenQ.r ?_ | with_reducible refine blockQ.r ?_)
       replace h := inr_out h hr25779
       obtain rfl := Option.some.inj h
       exact retQ.gen (vs := [V.bool false]) rfl (.tmp rfl .nil) (.free rfl) (by simp) (.inr rfl)
      ·skip
       refine Safe.condN rfl hc25899 ?_
       repeat first|apply sq|apply sk|with_reducible first|apply tn|apply bn
       refine Safe.region ?_
       refine Q0 E_good rfl (v := I (IntKind.i64.wrap (v277 + 1))) (.fn rfl) ?_
       refine Qf E_good ?_
       refine SafeOps.nil ?_
       repeat first|apply sq|apply sk|with_reducible first|apply tn|apply bn
       exact ⟨_, next_out h, (.cov ⟨rfl, rfl, (ut (ut (ut (ut (ut upT_nil))))), (uo upOb_nil), upOut_nil, rfl⟩)⟩
   ·skip
    refine Safe.condN rfl hc25780 ?_
    repeat first|apply sq|apply sk|with_reducible first|apply tn|apply bn
    refine Safe.exit ?_
    repeat (first | with_reducible refine thenQ.e ?_ | with_reducible refine blockQ.x rfl ?_ | with_reducible refine blockQ.y rfl ?_)
    replace h := inr_out h hr25779
    repeat first|apply sq|apply sk|with_reducible first|apply tn|apply bn
    refine Safe.region ?_
    refine Qf E_good ?_
    refine Qf E_good ?_
    refine SafeOps.nil ?_
    repeat first|apply sq|apply sk|with_reducible first|apply tn|apply bn
    refine Safe.ret ?_
    repeat (first | with_reducible refine thenQ.r ?_ | with_reducible refine blockQ.r ?_)
    obtain rfl := Option.some.inj h
    exact retQ.gen (vs := [V.bool x282]) rfl (.tmp rfl .nil) (.free rfl) (by simp) (.inr rfl)

end Go.Proofs.YtpkegoikocfchaaDoor
