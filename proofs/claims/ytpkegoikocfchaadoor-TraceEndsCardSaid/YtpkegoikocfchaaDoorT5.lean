/- Helper lemmas for the claim's theorem: an abstract machine over the model, proved sound; no condition beyond each lemma's own. -/
import Derived.Test.YtpkegoikocfchaaDoorT4
set_option linter.unusedVariables false
set_option linter.unusedSimpArgs false
set_option linter.unnecessarySimpa false
set_option linter.unusedSectionVars false
namespace Go.Proofs.YtpkegoikocfchaaDoor
open Go Go.AM
set_option maxRecDepth 100000
set_option maxHeartbeats 1000000
set_option linter.unusedVariables false
set_option linter.unusedSimpArgs false
def go_code_reached_1 (a287 : api_Instr) : Bool :=
 (a287.Op == 9)

theorem go_code_reached_1_sc (a287 : api_Instr) (r : Bool) (h : go_code_reached_1 a287 = r) : SC Tryd.prog gl 42 [V.agg [I a287.Op, I a287.A, I a287.B]] (V.bool r) := by
 rw [go_code_reached_1] at h
 refine SC.of E_good Tryd.func42 rfl (fun _ _ => Tryd.call42 _ _) rfl ?_
 repeat first|apply sq|apply sk|with_reducible first|apply tn|apply bn
 refine Safe.region ?_
 refine SafeOps.quiet1 E_good rfl rfl rfl (.box rfl rfl) rfl ?_
 refine Qf E_good ?_
 refine SafeOps.nil ?_
 repeat first|apply sq|apply sk|with_reducible first|apply tn|apply bn
 refine Safe.region ?_
 refine Q0 E_good rfl (v := V.ptr [1] 0 0) (.fn rfl) ?_
 refine Q0 E_good rfl (v := I a287.Op) (.load rfl rfl (.box rfl rfl) rfl) ?_
 refine Q0 E_good rfl (v := V.bool (a287.Op == 9)) (.fn rfl) ?_
 refine Qf E_good ?_
 refine SafeOps.nil ?_
 repeat first|apply sq|apply sk|with_reducible first|apply tn|apply bn
 refine Safe.ret ?_
 repeat (first | with_reducible refine thenQ.r ?_ | with_reducible refine blockQ.r ?_)
 obtain rfl := h
 exact retQ.gen (vs := [V.bool (a287.Op == 9)]) rfl (.tmp rfl .nil) (.free rfl) (by simp) (.inr rfl)

noncomputable def go_slices_IndexFunc_api_Instr_api_Instr_142_s1 (a288 : List api_Instr) : (Int) → Option ((Int) ⊕ (Int))
 | v289 =>
  if (decide (v289 < (a288.length : Int))) = true then
   if 0 ≤ v289 ∧ v289 < (a288.length : Int) then
    if (go_code_reached_1 (gt a288 v289)) = true then
     inrO (
      some v289)
    else
     nextO (IntKind.i64.wrap (v289 + 1))
   else none
  else
   inrO (
    some (-1))

noncomputable def go_slices_IndexFunc_api_Instr_api_Instr_142 (a288 : List api_Instr) : Option Int :=
 whileO (go_slices_IndexFunc_api_Instr_api_Instr_142_s1 a288) 0

theorem go_slices_IndexFunc_api_Instr_api_Instr_142_sc (a288 : List api_Instr) (r : Int) (h : go_slices_IndexFunc_api_Instr_api_Instr_142 a288 = some r) : SC Tryd.prog gl 36 [V.sl 3 (rws api_Instr.cells a288), V.fn 42 []] (I r) := by
 rw [go_slices_IndexFunc_api_Instr_api_Instr_142] at h
 refine SC.of E_good Tryd.func36 rfl (fun _ _ => Tryd.call36 _ _) rfl ?_
 repeat first|apply sq|apply sk|with_reducible first|apply tn|apply bn
 refine Safe.region ?_
 refine Qf E_good ?_
 refine SafeOps.nil ?_
 repeat first|apply sq|apply sk|with_reducible first|apply tn|apply bn
 refine Safe.region ?_
 refine Qf E_good ?_
 refine Q0 E_good rfl (v := I (a288.length : Int)) (.fnE rfl lenE) ?_
 refine Qf E_good ?_
 refine SafeOps.nil ?_
 repeat first|apply sq|apply sk|with_reducible first|apply tn|apply bn
 refine Safe.block ?_
 repeat first|apply sq|apply sk|with_reducible first|apply tn|apply bn
 refine Safe.loopW (fun (v289 : Int) => ⟨Tryd.f36.ntmps, [(0, V.sl 3 (rws api_Instr.cells a288)), (1, V.fn 42 []), (7, I (a288.length : Int)), (8, I v289)], [], [], []⟩) h (.cov ⟨rfl, rfl, (ut (ut (ut (ut upT_nil)))), upOb_nil, upOut_nil, rfl⟩) ?_
 intro v289 ohr25957 h hr25957
 replace h : go_slices_IndexFunc_api_Instr_api_Instr_142_s1 a288 v289 = some ohr25957 := h
 rw [go_slices_IndexFunc_api_Instr_api_Instr_142_s1] at h
 repeat first|apply sq|apply sk|with_reducible first|apply tn|apply bn
 refine Safe.region ?_
 refine Q0 E_good rfl (v := V.bool (decide (v289 < (a288.length : Int)))) (.fn rfl) ?_
 refine SafeOps.nil ?_
 repeat first|apply sq|apply sk|with_reducible first|apply tn|apply bn
 refine ifG h (fun hc25958 h => ?_) (fun hc25958 h => ?_)
 ·skip
  refine Safe.condK rfl hc25958 ?_
  repeat first|apply sq|apply sk|with_reducible first|apply tn|apply bn
  refine Safe.block ?_
  repeat first|apply sq|apply sk|with_reducible first|apply tn|apply bn
  refine Safe.region ?_
  refine Qf E_good ?_
  refine Qf E_good ?_
  refine SafeOps.nil ?_
  repeat first|apply sq|apply sk|with_reducible first|apply tn|apply bn
  refine Safe.region ?_
  refine Qf E_good ?_
  refine Qf E_good ?_
  refine Qf E_good ?_
  refine okG h (fun hb25959 h => ?_)
  refine Q0 E_good rfl (v := V.spt 3 (rws api_Instr.cells a288) (Int.toNat v289) 0) (.idxSlM (f := api_Instr.cells) rfl rfl rfl rfl rfl hb25959) ?_
  refine Q0 E_good rfl (v := V.agg [I ((gt a288 v289).Op), I ((gt a288 v289).A), I ((gt a288 v289).B)]) (.load rfl rfl (.sptM (f := api_Instr.cells) hb25959 rfl) rfl) ?_
  refine Q0 E_good rfl (v := V.bool (go_code_reached_1 (gt a288 v289))) (.callP rfl rfl (go_code_reached_1_sc (gt a288 v289) _ rfl) rfl) ?_
  refine SafeOps.nil ?_
  repeat first|apply sq|apply sk|with_reducible first|apply tn|apply bn
  refine ifG h (fun hc25960 h => ?_) (fun hc25960 h => ?_)
  ·skip
   refine Safe.condK rfl hc25960 ?_
   repeat first|apply sq|apply sk|with_reducible first|apply tn|apply bn
   refine Safe.region ?_
   refine Qf E_good ?_
   refine Qf E_good ?_
   refine SafeOps.nil ?_
   repeat first|apply sq|apply sk|with_reducible first|apply tn|apply bn
   refine Safe.ret ?_
   repeat (first | with_reducible refine thenQ.r ?_ | with_reducible refine blockQ.r ?_)
   replace h := inr_out h hr25957
   obtain rfl := Option.some.inj h
   exact retQ.gen (vs := [I v289]) rfl (.tmp rfl .nil) (.free rfl) (by simp) (.inr rfl)
  ·skip
   refine Safe.condN rfl hc25960 ?_
   repeat first|apply sq|apply sk|with_reducible first|apply tn|apply bn
   refine Safe.region ?_
   refine Q0 E_good rfl (v := I (IntKind.i64.wrap (v289 + 1))) (.fn rfl) ?_
   refine Qf E_good ?_
   refine SafeOps.nil ?_
   repeat first|apply sq|apply sk|with_reducible first|apply tn|apply bn
   exact ⟨_, next_out h, (.cov ⟨rfl, rfl, (ut (ut (ut (ut upT_nil)))), upOb_nil, upOut_nil, rfl⟩)⟩
 ·skip
  refine Safe.condN rfl hc25958 ?_
  repeat first|apply sq|apply sk|with_reducible first|apply tn|apply bn
  refine Safe.exit ?_
  repeat (first | with_reducible refine thenQ.e ?_ | with_reducible refine blockQ.x rfl ?_ | with_reducible refine blockQ.y rfl ?_)
  replace h := inr_out h hr25957
  repeat first|apply sq|apply sk|with_reducible first|apply tn|apply bn
  refine Safe.region ?_
  refine Qf E_good ?_
  refine SafeOps.nil ?_
  repeat first|apply sq|apply sk|with_reducible first|apply tn|apply bn
  refine Safe.ret ?_
  repeat (first | with_reducible refine thenQ.r ?_ | with_reducible refine blockQ.r ?_)
  obtain rfl := Option.some.inj h
  exact retQ.gen (vs := [I (-1)]) rfl (.tmp rfl .nil) (.free rfl) (by simp) (.inr rfl)

noncomputable def go_code_reached (a290 : List api_Instr) : Option (List api_Instr) :=
 (go_slices_IndexFunc_api_Instr_api_Instr_142 a290).bind fun x291 =>
 if (decide (x291 ≥ 0)) = true then
  if 0 ≤ (IntKind.i64.wrap (x291 + 1)) ∧ (IntKind.i64.wrap (x291 + 1)) ≤ (a290.length : Int) then
   some (sub a290 0 (IntKind.i64.wrap (x291 + 1)))
  else none
 else
  some a290

theorem go_code_reached_sc (a290 : List api_Instr) (r : List api_Instr) (h : go_code_reached a290 = some r) : SC Tryd.prog gl 31 [V.sl 3 (rws api_Instr.cells a290)] (V.sl 3 (rws api_Instr.cells r)) := by
 rw [go_code_reached] at h
 refine SC.of E_good Tryd.func31 rfl (fun _ _ => Tryd.call31 _ _) rfl ?_
 repeat first|apply sq|apply sk|with_reducible first|apply tn|apply bn
 refine Safe.region ?_
 refine Qf E_good ?_
 refine SafeOps.nil ?_
 repeat first|apply sq|apply sk|with_reducible first|apply tn|apply bn
 refine Safe.region ?_
 refine Qf E_good ?_
 refine bindG h ?_
 intro x291 he25966 h
 refine Q0 E_good rfl (v := I x291) (.callP rfl rfl (go_slices_IndexFunc_api_Instr_api_Instr_142_sc a290 _ he25966) rfl) ?_
 refine Qf E_good ?_
 refine SafeOps.nil ?_
 repeat first|apply sq|apply sk|with_reducible first|apply tn|apply bn
 refine Safe.region ?_
 refine Qf E_good ?_
 refine Q0 E_good rfl (v := V.bool (decide (x291 ≥ 0))) (.fn rfl) ?_
 refine SafeOps.nil ?_
 repeat first|apply sq|apply sk|with_reducible first|apply tn|apply bn
 refine ifG h (fun hc25967 h => ?_) (fun hc25967 h => ?_)
 ·skip
  refine Safe.condK rfl hc25967 ?_
  repeat first|apply sq|apply sk|with_reducible first|apply tn|apply bn
  refine Safe.region ?_
  refine Qf E_good ?_
  refine Qf E_good ?_
  refine Q0 E_good rfl (v := I (IntKind.i64.wrap (x291 + 1))) (.fn rfl) ?_
  refine okG h (fun hb25968 h => ?_)
  refine Q0 E_good rfl (v := V.sl 3 (rws api_Instr.cells (sub a290 0 (IntKind.i64.wrap (x291 + 1))))) (.slH (f := api_Instr.cells) rfl rfl rfl rfl rfl hb25968) ?_
  refine Qf E_good ?_
  refine SafeOps.nil ?_
  repeat first|apply sq|apply sk|with_reducible first|apply tn|apply bn
  refine Safe.ret ?_
  repeat (first | with_reducible refine thenQ.r ?_ | with_reducible refine blockQ.r ?_)
  obtain rfl := Option.some.inj h
  exact retQ.gen (vs := [V.sl 3 (rws api_Instr.cells (sub a290 0 (IntKind.i64.wrap (x291 + 1))))]) rfl (.tmp rfl .nil) (.free rfl) (by simp) (.inr rfl)
 ·skip
  refine Safe.condN rfl hc25967 ?_
  repeat first|apply sq|apply sk|with_reducible first|apply tn|apply bn
  refine Safe.region ?_
  refine Qf E_good ?_
  refine Qf E_good ?_
  refine SafeOps.nil ?_
  repeat first|apply sq|apply sk|with_reducible first|apply tn|apply bn
  refine Safe.ret ?_
  repeat (first | with_reducible refine thenQ.r ?_ | with_reducible refine blockQ.r ?_)
  obtain rfl := Option.some.inj h
  exact retQ.gen (vs := [V.sl 3 (rws api_Instr.cells a290)]) rfl (.tmp rfl .nil) (.free rfl) (by simp) (.inr rfl)

noncomputable def go_code_Units_s1 (x292 : List api_Instr) : (Int × Int) → Option ((Int × Int) ⊕ (Int × Int))
 | (v293, v294) =>
  if (decide (v294 < (x292.length : Int))) = true then
   if 0 ≤ v294 ∧ v294 < (x292.length : Int) then
    if (((gt x292 v294).Op) == 1) = true then
     nextO (IntKind.i64.wrap ((IntKind.i64.wrap (v293 + (IntKind.i64.wrap (((gt x292 v294).A) - 1)))) + 1), IntKind.i64.wrap (v294 + 1))
    else
     nextO (IntKind.i64.wrap (v293 + 1), IntKind.i64.wrap (v294 + 1))
   else none
  else
   inrO (
    some (v293, 0))

noncomputable def go_code_Units (a295 : List api_Instr) : Option (Int × Int) :=
 (go_code_Check a295).bind fun x296 =>
 if (x296 != 0) = true then
  some (0, x296)
 else
  (go_code_reached a295).bind fun x292 =>
  whileO (go_code_Units_s1 x292) (0, 0)

theorem go_code_Units_sc (a295 : List api_Instr) (r : Int × Int) (h : go_code_Units a295 = some r) : SC Tryd.prog gl 24 [V.sl 3 (rws api_Instr.cells a295)] (V.tup [I r.1, I r.2]) := by
 rw [go_code_Units] at h
 refine SC.of E_good Tryd.func24 rfl (fun _ _ => Tryd.call24 _ _) rfl ?_
 repeat first|apply sq|apply sk|with_reducible first|apply tn|apply bn
 refine Safe.region ?_
 refine Qf E_good ?_
 refine Qf E_good ?_
 refine SafeOps.nil ?_
 repeat first|apply sq|apply sk|with_reducible first|apply tn|apply bn
 refine Safe.region ?_
 refine Qf E_good ?_
 refine bindG h ?_
 intro x296 he25986 h
 refine Q0 E_good rfl (v := I x296) (.callP rfl rfl (go_code_Check_sc a295 _ he25986) rfl) ?_
 refine Qf E_good ?_
 refine SafeOps.nil ?_
 repeat first|apply sq|apply sk|with_reducible first|apply tn|apply bn
 refine Safe.region ?_
 refine Qf E_good ?_
 refine Q0 E_good rfl (v := V.bool (x296 != 0)) (.fn rfl) ?_
 refine SafeOps.nil ?_
 repeat first|apply sq|apply sk|with_reducible first|apply tn|apply bn
 refine ifG h (fun hc25987 h => ?_) (fun hc25987 h => ?_)
 ·skip
  refine Safe.condK rfl hc25987 ?_
  repeat first|apply sq|apply sk|with_reducible first|apply tn|apply bn
  refine Safe.region ?_
  refine Qf E_good ?_
  refine Qf E_good ?_
  refine Qf E_good ?_
  refine SafeOps.nil ?_
  repeat first|apply sq|apply sk|with_reducible first|apply tn|apply bn
  refine Safe.ret ?_
  repeat (first | with_reducible refine thenQ.r ?_ | with_reducible refine blockQ.r ?_)
  obtain rfl := Option.some.inj h
  exact retQ.gen (vs := [I 0, I x296]) rfl (.tmp rfl (.tmp rfl .nil)) (.free rfl) (by simp) (.inr rfl)
 ·skip
  refine Safe.condN rfl hc25987 ?_
  repeat first|apply sq|apply sk|with_reducible first|apply tn|apply bn
  refine Safe.region ?_
  refine Qf E_good ?_
  refine bindG h ?_
  intro x292 he25989 h
  refine Q0 E_good rfl (v := V.sl 3 (rws api_Instr.cells x292)) (.callP rfl rfl (go_code_reached_sc a295 _ he25989) rfl) ?_
  refine Q0 E_good rfl (v := I (x292.length : Int)) (.fnE rfl lenE) ?_
  refine Qf E_good ?_
  refine SafeOps.nil ?_
  repeat first|apply sq|apply sk|with_reducible first|apply tn|apply bn
  refine Safe.block ?_
  repeat first|apply sq|apply sk|with_reducible first|apply tn|apply bn
  refine Safe.loopW (fun ((v293, v294) : Int × Int) => ⟨Tryd.f24.ntmps, [(2, I v293), (12, V.sl 3 (rws api_Instr.cells x292)), (13, I (x292.length : Int)), (14, I v294)], [], [], []⟩) h (.cov ⟨rfl, rfl, (ut (ut (ut (ut upT_nil)))), upOb_nil, upOut_nil, rfl⟩) ?_
  rintro ⟨v293, v294⟩ ohr26000 h hr26000
  replace h : go_code_Units_s1 x292 (v293, v294) = some ohr26000 := h
  rw [go_code_Units_s1] at h
  repeat first|apply sq|apply sk|with_reducible first|apply tn|apply bn
  refine Safe.region ?_
  refine Q0 E_good rfl (v := V.bool (decide (v294 < (x292.length : Int)))) (.fn rfl) ?_
  refine SafeOps.nil ?_
  repeat first|apply sq|apply sk|with_reducible first|apply tn|apply bn
  refine ifG h (fun hc26001 h => ?_) (fun hc26001 h => ?_)
  ·skip
   refine Safe.condK rfl hc26001 ?_
   repeat first|apply sq|apply sk|with_reducible first|apply tn|apply bn
   refine Safe.block ?_
   repeat first|apply sq|apply sk|with_reducible first|apply tn|apply bn
   refine Safe.region ?_
   refine okG h (fun hb26002 h => ?_)
   refine Q0 E_good rfl (v := V.spt 3 (rws api_Instr.cells x292) (Int.toNat v294) 0) (.idxSlM (f := api_Instr.cells) rfl rfl rfl rfl rfl hb26002) ?_
   refine Q0 E_good rfl (v := V.agg [I ((gt x292 v294).Op), I ((gt x292 v294).A), I ((gt x292 v294).B)]) (.load rfl rfl (.sptM (f := api_Instr.cells) hb26002 rfl) rfl) ?_
   refine SafeOps.quiet1 E_good rfl rfl rfl (.alloc rfl rfl) rfl ?_
   refine SafeOps.store (z := Obj.box [I ((gt x292 v294).Op), I ((gt x292 v294).A), I ((gt x292 v294).B)]) E_good rfl rfl rfl rfl rfl rfl rfl (.boxM (c := 3) rfl rfl (Nat.le_of_ble_eq_true rfl) rfl) ?_
   refine SafeOps.nil ?_
   repeat first|apply sq|apply sk|with_reducible first|apply tn|apply bn
   refine Safe.region ?_
   refine Q0 E_good rfl (v := V.ptr [5] 0 0) (.fn rfl) ?_
   refine Q0 E_good rfl (v := I ((gt x292 v294).Op)) (.load rfl rfl (.box rfl rfl) rfl) ?_
   refine Q0 E_good rfl (v := V.bool (((gt x292 v294).Op) == 1)) (.fn rfl) ?_
   refine SafeOps.nil ?_
   repeat first|apply sq|apply sk|with_reducible first|apply tn|apply bn
   refine ifG h (fun hc26003 h => ?_) (fun hc26003 h => ?_)
   ·skip
    refine Safe.condK rfl hc26003 ?_
    repeat first|apply sq|apply sk|with_reducible first|apply tn|apply bn
    refine Safe.region ?_
    refine Qf E_good ?_
    refine Q0 E_good rfl (v := V.ptr [5] 0 1) (.fn rfl) ?_
    refine Q0 E_good rfl (v := I ((gt x292 v294).A)) (.load rfl rfl (.box rfl rfl) rfl) ?_
    refine Q0 E_good rfl (v := I (IntKind.i64.wrap (((gt x292 v294).A) - 1))) (.fn rfl) ?_
    refine Q0 E_good rfl (v := I (IntKind.i64.wrap (v293 + (IntKind.i64.wrap (((gt x292 v294).A) - 1))))) (.fn rfl) ?_
    refine Qf E_good ?_
    refine SafeOps.nil ?_
    repeat first|apply sq|apply sk|with_reducible first|apply tn|apply bn
    refine Safe.region ?_
    refine Qf E_good ?_
    refine Q0 E_good rfl (v := I (IntKind.i64.wrap ((IntKind.i64.wrap (v293 + (IntKind.i64.wrap (((gt x292 v294).A) - 1)))) + 1))) (.fn rfl) ?_
    refine Qf E_good ?_
    refine SafeOps.nil ?_
    repeat first|apply sq|apply sk|with_reducible first|apply tn|apply bn
    refine Safe.region ?_
    refine Q0 E_good rfl (v := I (IntKind.i64.wrap (v294 + 1))) (.fn rfl) ?_
    refine Qf E_good ?_
    refine SafeOps.nil ?_
    repeat first|apply sq|apply sk|with_reducible first|apply tn|apply bn
    exact ⟨_, next_out h, (.cov ⟨rfl, rfl, (ut (ut (ut (ut upT_nil)))), upOb_nil, upOut_nil, rfl⟩)⟩
   ·skip
    refine Safe.condN rfl hc26003 ?_
    repeat first|apply sq|apply sk|with_reducible first|apply tn|apply bn
    refine Safe.region ?_
    refine Qf E_good ?_
    refine Q0 E_good rfl (v := I (IntKind.i64.wrap (v293 + 1))) (.fn rfl) ?_
    refine Qf E_good ?_
    refine SafeOps.nil ?_
    repeat first|apply sq|apply sk|with_reducible first|apply tn|apply bn
    refine Safe.region ?_
    refine Q0 E_good rfl (v := I (IntKind.i64.wrap (v294 + 1))) (.fn rfl) ?_
    refine Qf E_good ?_
    refine SafeOps.nil ?_
    repeat first|apply sq|apply sk|with_reducible first|apply tn|apply bn
    exact ⟨_, next_out h, (.cov ⟨rfl, rfl, (ut (ut (ut (ut upT_nil)))), upOb_nil, upOut_nil, rfl⟩)⟩
  ·skip
   refine Safe.condN rfl hc26001 ?_
   repeat first|apply sq|apply sk|with_reducible first|apply tn|apply bn
   refine Safe.exit ?_
   repeat (first | with_reducible refine thenQ.e ?_ | with_reducible refine blockQ.x rfl ?_ | with_reducible refine blockQ.y rfl ?_)
   replace h := inr_out h hr26000
   repeat first|apply sq|apply sk|with_reducible first|apply tn|apply bn
   refine Safe.region ?_
   refine Qf E_good ?_
   refine Qf E_good ?_
   refine Qf E_good ?_
   refine SafeOps.nil ?_
   repeat first|apply sq|apply sk|with_reducible first|apply tn|apply bn
   refine Safe.ret ?_
   repeat (first | with_reducible refine thenQ.r ?_ | with_reducible refine blockQ.r ?_)
   obtain rfl := Option.some.inj h
   exact retQ.gen (vs := [I v293, I 0]) rfl (.tmp rfl (.tmp rfl .nil)) (.free rfl) (by simp) (.inr rfl)

noncomputable def go_ravellaw18_TraceEnds_s7 (x297 : List api_Task) (v298 : Int) (x299 : List api_Event) : (Int) → Option ((Int) ⊕ ((Int) ⊕ (Bool)))
 | v300 =>
  if (decide (v300 < (x299.length : Int))) = true then
   if 0 ≤ v300 ∧ v300 < (x299.length : Int) then
    if ((((((gt x299 v300).Kind) == 5) || (((gt x299 v300).Kind) == 6)) && (v300 != (IntKind.i64.wrap ((x299.length : Int) - 1)))) || ((((gt x299 v300).Kind) == 1) && (decide (v300 > 0)))) = true then
     inrO (
      inrO (
       some false))
    else
     if ((v300 == (IntKind.i64.wrap ((x299.length : Int) - 1))) && (!(((((gt x299 v300).Kind) == 5) || (((gt x299 v300).Kind) == 6)) == (((gt x297 v298).State) == 7)))) = true then
      inrO (
       inrO (
        some false))
     else
      nextO (IntKind.i64.wrap (v300 + 1))
   else none
  else
   inrO (
    nextO (IntKind.i64.wrap (v298 + 1)))

noncomputable def go_ravellaw18_TraceEnds_j6 (a301 : List (List api_Instr)) (x297 : List api_Task) (v298 : Int) (x299 : List api_Event) (b302 : Bool) : Option ((Int) ⊕ (Bool)) :=
 if ((b302 || (decide (((gt x297 v298).Prog) < 0))) || (decide (((gt x297 v298).Prog) ≥ (a301.length : Int)))) = true then
  inrO (
   some false)
 else
  if 0 ≤ ((gt x297 v298).Prog) ∧ ((gt x297 v298).Prog) < (a301.length : Int) then
   (go_code_Units (gt a301 ((gt x297 v298).Prog))).bind fun (x303, x304) =>
   (go_trace_Count x299 2).bind fun x305 =>
   if (((x304 != 0) || (decide (x305 > (IntKind.i64.wrap (x303 + 1))))) || (((gt x297 v298).Ran) != x305)) = true then
    inrO (
     some false)
   else
    whileO (go_ravellaw18_TraceEnds_s7 x297 v298 x299) 0
  else none

noncomputable def go_ravellaw18_TraceEnds_s5 (a301 : List (List api_Instr)) (a306 : List api_Event) (x307 : Bool) (x297 : List api_Task) : (Int) → Option ((Int) ⊕ (Bool))
 | v298 =>
  if (decide (v298 < (x297.length : Int))) = true then
   if 0 ≤ v298 ∧ v298 < (x297.length : Int) then
    (go_trace_Of a306 ((gt x297 v298).Id)).bind fun x299 =>
    if ((x299.length : Int) == 0) = true then
     go_ravellaw18_TraceEnds_j6 a301 x297 v298 x299 true
    else
     if 0 ≤ (0 : Int) ∧ (0 : Int) < (x299.length : Int) then
      go_ravellaw18_TraceEnds_j6 a301 x297 v298 x299 (((gt x299 0).Kind) != 1)
     else none
   else none
  else
   inrO (
    some x307)

noncomputable def go_ravellaw18_TraceEnds (a301 : List (List api_Instr)) (a306 : List api_Event) : Option Bool :=
 (go_ravellaw18_live).bind fun x307 =>
 (go_ravelref04_Few a301).bind fun x308 =>
 if ((!x308) || (decide ((a306.length : Int) > 100))) = true then
  some x307
 else
  (go_trace_Tasks a301 a306).bind fun (x297, x309) =>
  if (x309 != 0) = true then
   some (x307 && ((x297.length : Int) == 0))
  else
   (go_trace_Count a306 1).bind fun x310 =>
   if ((x297.length : Int) != x310) = true then
    some false
   else
    whileO (go_ravellaw18_TraceEnds_s5 a301 a306 x307 x297) 0

theorem go_ravellaw18_TraceEnds_sc (a301 : List (List api_Instr)) (a306 : List api_Event) (r : Bool) (h : go_ravellaw18_TraceEnds a301 a306 = some r) : SC Tryd.prog gl 8 [V.sl 1 (rws (fun l => [V.sl 3 (rws api_Instr.cells l)]) a301), V.sl 3 (rws api_Event.cells a306)] (V.bool r) := by
 rw [go_ravellaw18_TraceEnds] at h
 refine SC.of E_good Tryd.func8 rfl (fun _ _ => Tryd.call8 _ _) rfl ?_
 repeat first|apply sq|apply sk|with_reducible first|apply tn|apply bn
 refine Safe.region ?_
 refine Qf E_good ?_
 refine SafeOps.nil ?_
 repeat first|apply sq|apply sk|with_reducible first|apply tn|apply bn
 refine Safe.region ?_
 refine bindG h ?_
 intro x307 he26149 h
 refine Q0 E_good rfl (v := V.bool x307) (.callP rfl rfl (go_ravellaw18_live_sc  _ he26149) rfl) ?_
 refine Qf E_good ?_
 refine SafeOps.nil ?_
 repeat first|apply sq|apply sk|with_reducible first|apply tn|apply bn
 refine Safe.region ?_
 refine Qf E_good ?_
 refine bindG h ?_
 intro x308 he26151 h
 refine Q0 E_good rfl (v := V.bool x308) (.callP rfl rfl (go_ravelref04_Few_sc a301 _ he26151) rfl) ?_
 refine Q0 E_good rfl (v := V.bool (!x308)) (.fn rfl) ?_
 refine Qf E_good ?_
 refine SafeOps.bjoin 4 25 (b := ((!x308) || (decide ((a306.length : Int) > 100)))) (b1 := true) (b0 := decide ((a306.length : Int) > 100)) (fun hc26152 K => ?_) (fun hc26152 K => ?_) bj_or ?_
 ·skip
  refine sF hc26152 ?_
  refine sF hc26152 ?_
  refine sF hc26152 ?_
  refine Q0 E_good rfl (v := V.bool true) (.pickK rfl hc26152 rfl) ?_
  exact SafeOps.drop' 4 rfl rfl rfl K
 ·skip
  refine qF E_good hc26152 (.fn rfl) ?_
  refine qF E_good hc26152 (v := I (a306.length : Int)) (.fnE rfl lenE) ?_
  refine qF E_good hc26152 (v := V.bool (decide ((a306.length : Int) > 100))) (.fn rfl) ?_
  refine Q0 E_good rfl (v := V.bool (decide ((a306.length : Int) > 100))) (.pickK rfl hc26152 rfl) ?_
  exact SafeOps.drop' 4 rfl rfl rfl K
 refine SafeOps.nil ?_
 repeat first|apply sq|apply sk|with_reducible first|apply tn|apply bn
 refine ifG h (fun hc26153 h => ?_) (fun hc26153 h => ?_)
 ·skip
  refine Safe.condK rfl hc26153 ?_
  repeat first|apply sq|apply sk|with_reducible first|apply tn|apply bn
  refine Safe.region ?_
  refine Qf E_good ?_
  refine Qf E_good ?_
  refine SafeOps.nil ?_
  repeat first|apply sq|apply sk|with_reducible first|apply tn|apply bn
  refine Safe.ret ?_
  repeat (first | with_reducible refine thenQ.r ?_ | with_reducible refine blockQ.r ?_)
  obtain rfl := Option.some.inj h
  exact retQ.gen (vs := [V.bool x307]) rfl (.tmp rfl .nil) (.free rfl) (by simp) (.inr rfl)
 ·skip
  refine Safe.condN rfl hc26153 ?_
  repeat first|apply sq|apply sk|with_reducible first|apply tn|apply bn
  refine Safe.region ?_
  refine Qf E_good ?_
  refine Qf E_good ?_
  refine bindG h ?_
  rintro ⟨x297, x309⟩ he26156 h
  refine SafeOps.quiet E_good rfl rfl rfl (v := V.tup [V.ref [30, 0] 0 (rws api_Task.cells x297).length, I x309]) (.callP rfl rfl (go_trace_Tasks_sc a301 a306 _ he26156) rfl) rfl ?_
  refine Qf E_good ?_
  refine Qf E_good ?_
  refine Qf E_good ?_
  refine Qf E_good ?_
  refine Qf E_good ?_
  refine SafeOps.nil ?_
  repeat first|apply sq|apply sk|with_reducible first|apply tn|apply bn
  refine Safe.region ?_
  refine Qf E_good ?_
  refine Q0 E_good rfl (v := V.bool (x309 != 0)) (.fn rfl) ?_
  refine SafeOps.nil ?_
  repeat first|apply sq|apply sk|with_reducible first|apply tn|apply bn
  refine ifG h (fun hc26158 h => ?_) (fun hc26158 h => ?_)
  ·skip
   refine Safe.condK rfl hc26158 ?_
   repeat first|apply sq|apply sk|with_reducible first|apply tn|apply bn
   refine Safe.region ?_
   refine Qf E_good ?_
   refine Qf E_good ?_
   refine SafeOps.bjoin 4 40 (b := (x307 && ((x297.length : Int) == 0))) (b1 := ((x297.length : Int) == 0)) (b0 := false) (fun hc26159 K => ?_) (fun hc26159 K => ?_) bj_and ?_
   ·skip
    refine qT E_good hc26159 (.fn rfl) ?_
    refine qT E_good hc26159 (v := I (x297.length : Int)) (.fnE rfl lenE) ?_
    refine qT E_good hc26159 (v := V.bool ((x297.length : Int) == 0)) (.fn rfl) ?_
    refine Q0 E_good rfl (v := V.bool ((x297.length : Int) == 0)) (.pickK rfl hc26159 rfl) ?_
    exact SafeOps.drop' 4 rfl rfl rfl K
   ·skip
    refine sT hc26159 ?_
    refine sT hc26159 ?_
    refine sT hc26159 ?_
    refine Q0 E_good rfl (v := V.bool false) (.pickK rfl hc26159 rfl) ?_
    exact SafeOps.drop' 4 rfl rfl rfl K
   refine Qf E_good ?_
   refine SafeOps.nil ?_
   repeat first|apply sq|apply sk|with_reducible first|apply tn|apply bn
   refine Safe.ret ?_
   repeat (first | with_reducible refine thenQ.r ?_ | with_reducible refine blockQ.r ?_)
   obtain rfl := Option.some.inj h
   exact retQ.gen (vs := [V.bool (x307 && ((x297.length : Int) == 0))]) rfl (.tmp rfl .nil) (.free rfl) (by simp) (.inr rfl)
  ·skip
   refine Safe.condN rfl hc26158 ?_
   repeat first|apply sq|apply sk|with_reducible first|apply tn|apply bn
   refine Safe.region ?_
   refine Qf E_good ?_
   refine Q0 E_good rfl (v := I (x297.length : Int)) (.fnE rfl lenE) ?_
   refine Qf E_good ?_
   refine bindG h ?_
   intro x310 he26161 h
   refine Q0 E_good rfl (v := I x310) (.callP rfl rfl (go_trace_Count_sc a306 1 _ he26161) rfl) ?_
   refine Q0 E_good rfl (v := V.bool ((x297.length : Int) != x310)) (.fn rfl) ?_
   refine SafeOps.nil ?_
   repeat first|apply sq|apply sk|with_reducible first|apply tn|apply bn
   refine ifG h (fun hc26162 h => ?_) (fun hc26162 h => ?_)
   ·skip
    refine Safe.condK rfl hc26162 ?_
    repeat first|apply sq|apply sk|with_reducible first|apply tn|apply bn
    refine Safe.region ?_
    refine Qf E_good ?_
    refine SafeOps.nil ?_
    repeat first|apply sq|apply sk|with_reducible first|apply tn|apply bn
    refine Safe.ret ?_
    repeat (first | with_reducible refine thenQ.r ?_ | with_reducible refine blockQ.r ?_)
    obtain rfl := Option.some.inj h
    exact retQ.gen (vs := [V.bool false]) rfl (.tmp rfl .nil) (.free rfl) (by simp) (.inr rfl)
   ·skip
    refine Safe.condN rfl hc26162 ?_
    repeat first|apply sq|apply sk|with_reducible first|apply tn|apply bn
    refine Safe.region ?_
    refine Qf E_good ?_
    refine Q0 E_good rfl (v := I (x297.length : Int)) (.fnE rfl lenE) ?_
    refine Qf E_good ?_
    refine SafeOps.nil ?_
    repeat first|apply sq|apply sk|with_reducible first|apply tn|apply bn
    refine Safe.block ?_
    repeat first|apply sq|apply sk|with_reducible first|apply tn|apply bn
    refine Safe.loopW (fun (v298 : Int) => ⟨Tryd.f8.ntmps, [(0, V.sl 1 (rws (fun l => [V.sl 3 (rws api_Instr.cells l)]) a301)), (1, V.sl 3 (rws api_Event.cells a306)), (5, V.bool x307), (46, V.ref [30, 0] 0 (rws api_Task.cells x297).length), (47, I (x297.length : Int)), (48, I v298)], [([30, 0], Obj.rows 11 (rws api_Task.cells x297) false)], [], []⟩) h (.cov ⟨rfl, rfl, (ut (ut (ut (ut (ut (ut upT_nil)))))), (uo upOb_nil), upOut_nil, rfl⟩) ?_
    intro v298 ohr26267 h hr26267
    replace h : go_ravellaw18_TraceEnds_s5 a301 a306 x307 x297 v298 = some ohr26267 := h
    rw [go_ravellaw18_TraceEnds_s5] at h
    repeat first|apply sq|apply sk|with_reducible first|apply tn|apply bn
    refine Safe.region ?_
    refine Q0 E_good rfl (v := V.bool (decide (v298 < (x297.length : Int)))) (.fn rfl) ?_
    refine SafeOps.nil ?_
    repeat first|apply sq|apply sk|with_reducible first|apply tn|apply bn
    refine ifG h (fun hc26268 h => ?_) (fun hc26268 h => ?_)
    ·skip
     refine Safe.condK rfl hc26268 ?_
     repeat first|apply sq|apply sk|with_reducible first|apply tn|apply bn
     refine Safe.block ?_
     repeat first|apply sq|apply sk|with_reducible first|apply tn|apply bn
     refine Safe.region ?_
     refine okG h (fun hb26269 h => ?_)
     refine Q0 E_good rfl (v := V.ptr [30, 0] (0 + Int.toNat v298) 0) (.idxRefM (f := api_Task.cells) (xs := x297) rfl rfl rfl rfl rfl rfl hb26269) ?_
     refine Q0 E_good rfl (v := V.agg [I ((gt x297 v298).Id), I ((gt x297 v298).Tenant), I ((gt x297 v298).Prog), I ((gt x297 v298).Pc), I ((gt x297 v298).Unit), I ((gt x297 v298).Keeps.a0), I ((gt x297 v298).Keeps.a1), I ((gt x297 v298).Keeps.a2), I ((gt x297 v298).Keeps.a3), I ((gt x297 v298).State), I ((gt x297 v298).Ran)]) (.load rfl rfl (.rowsM (f := api_Task.cells) (xs := x297) hb26269 rfl rfl) rfl) ?_
     refine SafeOps.quiet1 E_good rfl rfl rfl (.alloc rfl rfl) rfl ?_
     refine SafeOps.store (z := Obj.box [I ((gt x297 v298).Id), I ((gt x297 v298).Tenant), I ((gt x297 v298).Prog), I ((gt x297 v298).Pc), I ((gt x297 v298).Unit), I ((gt x297 v298).Keeps.a0), I ((gt x297 v298).Keeps.a1), I ((gt x297 v298).Keeps.a2), I ((gt x297 v298).Keeps.a3), I ((gt x297 v298).State), I ((gt x297 v298).Ran)]) E_good rfl rfl rfl rfl rfl rfl rfl (.boxM (c := 11) rfl rfl (Nat.le_of_ble_eq_true rfl) rfl) ?_
     refine SafeOps.nil ?_
     repeat first|apply sq|apply sk|with_reducible first|apply tn|apply bn
     refine Safe.region ?_
     refine Qf E_good ?_
     refine Q0 E_good rfl (v := V.ptr [9] 0 0) (.fn rfl) ?_
     refine Q0 E_good rfl (v := I ((gt x297 v298).Id)) (.load rfl rfl (.box rfl rfl) rfl) ?_
     refine bindG h ?_
     intro x299 he26271 h
     refine SafeOps.quiet E_good rfl rfl rfl (v := V.ref [55, 0] 0 (rws api_Event.cells x299).length) (.callP rfl rfl (go_trace_Of_sc a306 ((gt x297 v298).Id) _ he26271) rfl) rfl ?_
     refine Qf E_good ?_
     refine SafeOps.nil ?_
     repeat first|apply sq|apply sk|with_reducible first|apply tn|apply bn
     refine Safe.region ?_
     refine Qf E_good ?_
     refine Q0 E_good rfl (v := I (x299.length : Int)) (.fnE rfl lenE) ?_
     refine Q0 E_good rfl (v := V.bool ((x299.length : Int) == 0)) (.fn rfl) ?_
     refine Qf E_good ?_
     refine SafeOps.bsplit 6 65 (fun b302 => go_ravellaw18_TraceEnds_j6 a301 x297 v298 x299 b302 = some ohr26267) (fun HJ26275 => ?_) (fun b302 h => ?_)
     ·refine ifG h (fun hc26272 h => ?_) (fun hc26272 h => ?_)
      ·skip
       refine sF hc26272 ?_
       refine sF hc26272 ?_
       refine sF hc26272 ?_
       refine sF hc26272 ?_
       refine sF hc26272 ?_
       refine Q0 E_good rfl (v := V.bool true) (.pickK rfl hc26272 rfl) ?_
       exact SafeOps.drop' 6 rfl rfl rfl (HJ26275 _ h)
      ·skip
       refine qF E_good hc26272 (.fn rfl) ?_
       refine okG h (fun hb26318 h => ?_)
       refine qF E_good hc26272 (v := V.ptr [55, 0] (0 + Int.toNat 0) 0) (.idxRefM (f := api_Event.cells) (xs := x299) rfl rfl rfl rfl rfl rfl hb26318) ?_
       refine qF E_good hc26272 (v := V.ptr [55, 0] (0 + Int.toNat 0) 0) (.fn rfl) ?_
       refine qF E_good hc26272 (v := I ((gt x299 0).Kind)) (.load rfl rfl (.rowsM (f := api_Event.cells) (xs := x299) hb26318 rfl rfl) rfl) ?_
       refine qF E_good hc26272 (v := V.bool (((gt x299 0).Kind) != 1)) (.fn rfl) ?_
       refine Q0 E_good rfl (v := V.bool (((gt x299 0).Kind) != 1)) (.pickK rfl hc26272 rfl) ?_
       exact SafeOps.drop' 6 rfl rfl rfl (HJ26275 _ h)
     ·replace h : go_ravellaw18_TraceEnds_j6 a301 x297 v298 x299 b302 = some ohr26267 := h
      rw [go_ravellaw18_TraceEnds_j6] at h
      refine Qf E_good ?_
      refine SafeOps.bjoin 4 70 (b := (b302 || (decide (((gt x297 v298).Prog) < 0)))) (b1 := true) (b0 := decide (((gt x297 v298).Prog) < 0)) (fun hc26276 K => ?_) (fun hc26276 K => ?_) bj_or ?_
      ·skip
       refine sF hc26276 ?_
       refine sF hc26276 ?_
       refine sF hc26276 ?_
       refine Q0 E_good rfl (v := V.bool true) (.pickK rfl hc26276 rfl) ?_
       exact SafeOps.drop' 4 rfl rfl rfl K
      ·skip
       refine qF E_good hc26276 (v := V.ptr [9] 0 2) (.fn rfl) ?_
       refine qF E_good hc26276 (v := I ((gt x297 v298).Prog)) (.load rfl rfl (.box rfl rfl) rfl) ?_
       refine qF E_good hc26276 (v := V.bool (decide (((gt x297 v298).Prog) < 0))) (.fn rfl) ?_
       refine Q0 E_good rfl (v := V.bool (decide (((gt x297 v298).Prog) < 0))) (.pickK rfl hc26276 rfl) ?_
       exact SafeOps.drop' 4 rfl rfl rfl K
      refine Qf E_good ?_
      refine SafeOps.bjoin 6 77 (b := ((b302 || (decide (((gt x297 v298).Prog) < 0))) || (decide (((gt x297 v298).Prog) ≥ (a301.length : Int))))) (b1 := true) (b0 := decide (((gt x297 v298).Prog) ≥ (a301.length : Int))) (fun hc26277 K => ?_) (fun hc26277 K => ?_) bj_or ?_
      ·skip
       refine sF hc26277 ?_
       refine sF hc26277 ?_
       refine sF hc26277 ?_
       refine sF hc26277 ?_
       refine sF hc26277 ?_
       refine Q0 E_good rfl (v := V.bool true) (.pickK rfl hc26277 rfl) ?_
       exact SafeOps.drop' 6 rfl rfl rfl K
      ·skip
       refine qF E_good hc26277 (v := V.ptr [9] 0 2) (.fn rfl) ?_
       refine qF E_good hc26277 (v := I ((gt x297 v298).Prog)) (.load rfl rfl (.box rfl rfl) rfl) ?_
       refine qF E_good hc26277 (.fn rfl) ?_
       refine qF E_good hc26277 (v := I (a301.length : Int)) (.fnE rfl lenE) ?_
       refine qF E_good hc26277 (v := V.bool (decide (((gt x297 v298).Prog) ≥ (a301.length : Int)))) (.fn rfl) ?_
       refine Q0 E_good rfl (v := V.bool (decide (((gt x297 v298).Prog) ≥ (a301.length : Int)))) (.pickK rfl hc26277 rfl) ?_
       exact SafeOps.drop' 6 rfl rfl rfl K
      refine SafeOps.nil ?_
      repeat first|apply sq|apply sk|with_reducible first|apply tn|apply bn
      refine ifG h (fun hc26278 h => ?_) (fun hc26278 h => ?_)
      ·skip
       refine Safe.condK rfl hc26278 ?_
       repeat first|apply sq|apply sk|with_reducible first|apply tn|apply bn
       refine Safe.region ?_
       refine Qf E_good ?_
       refine SafeOps.nil ?_
       repeat first|apply sq|apply sk|with_reducible first|apply tn|apply bn
       refine Safe.ret ?_
       repeat (first | with_reducible refine thenQ.r ?_ | with_reducible refine blockQ.r ?_)
       replace h := inr_out h hr26267
       obtain rfl := Option.some.inj h
       exact retQ.gen (vs := [V.bool false]) rfl (.tmp rfl .nil) (.free rfl) (by simp) (.inr rfl)
      ·skip
       refine Safe.condN rfl hc26278 ?_
       repeat first|apply sq|apply sk|with_reducible first|apply tn|apply bn
       refine Safe.region ?_
       refine Qf E_good ?_
       refine Q0 E_good rfl (v := V.ptr [9] 0 2) (.fn rfl) ?_
       refine Q0 E_good rfl (v := I ((gt x297 v298).Prog)) (.load rfl rfl (.box rfl rfl) rfl) ?_
       refine okG h (fun hb26279 h => ?_)
       refine Q0 E_good rfl (v := V.spt 1 (rws (fun l => [V.sl 3 (rws api_Instr.cells l)]) a301) (Int.toNat ((gt x297 v298).Prog)) 0) (.idxSlM (f := (fun l => [V.sl 3 (rws api_Instr.cells l)])) rfl rfl rfl rfl rfl hb26279) ?_
       refine Q0 E_good rfl (v := V.sl 3 (rws api_Instr.cells (gt a301 ((gt x297 v298).Prog)))) (.load rfl rfl (.sptM (f := (fun l => [V.sl 3 (rws api_Instr.cells l)])) hb26279 rfl) rfl) ?_
       refine bindG h ?_
       rintro ⟨x303, x304⟩ he26282 h
       refine Q0 E_good rfl (v := V.tup [I x303, I x304]) (.callP rfl rfl (go_code_Units_sc (gt a301 ((gt x297 v298).Prog)) _ he26282) rfl) ?_
       refine Qf E_good ?_
       refine Qf E_good ?_
       refine Qf E_good ?_
       refine Qf E_good ?_
       refine Qf E_good ?_
       refine SafeOps.nil ?_
       repeat first|apply sq|apply sk|with_reducible first|apply tn|apply bn
       refine Safe.region ?_
       refine Qf E_good ?_
       refine bindG h ?_
       intro x305 he26284 h
       refine Q0 E_good rfl (v := I x305) (.callS rfl (.cons (.full rfl rfl) (.cons (.free rfl) .nil)) (go_trace_Count_sc x299 2 _ he26284) (.plain rfl) rfl) ?_
       refine Qf E_good ?_
       refine SafeOps.nil ?_
       repeat first|apply sq|apply sk|with_reducible first|apply tn|apply bn
       refine Safe.region ?_
       refine Qf E_good ?_
       refine Q0 E_good rfl (v := V.bool (x304 != 0)) (.fn rfl) ?_
       refine Qf E_good ?_
       refine SafeOps.bjoin 5 96 (b := ((x304 != 0) || (decide (x305 > (IntKind.i64.wrap (x303 + 1)))))) (b1 := true) (b0 := decide (x305 > (IntKind.i64.wrap (x303 + 1)))) (fun hc26285 K => ?_) (fun hc26285 K => ?_) bj_or ?_
       ·skip
        refine sF hc26285 ?_
        refine sF hc26285 ?_
        refine sF hc26285 ?_
        refine sF hc26285 ?_
        refine Q0 E_good rfl (v := V.bool true) (.pickK rfl hc26285 rfl) ?_
        exact SafeOps.drop' 5 rfl rfl rfl K
       ·skip
        refine qF E_good hc26285 (.fn rfl) ?_
        refine qF E_good hc26285 (.fn rfl) ?_
        refine qF E_good hc26285 (v := I (IntKind.i64.wrap (x303 + 1))) (.fn rfl) ?_
        refine qF E_good hc26285 (v := V.bool (decide (x305 > (IntKind.i64.wrap (x303 + 1))))) (.fn rfl) ?_
        refine Q0 E_good rfl (v := V.bool (decide (x305 > (IntKind.i64.wrap (x303 + 1))))) (.pickK rfl hc26285 rfl) ?_
        exact SafeOps.drop' 5 rfl rfl rfl K
       refine Qf E_good ?_
       refine SafeOps.bjoin 5 102 (b := (((x304 != 0) || (decide (x305 > (IntKind.i64.wrap (x303 + 1))))) || (((gt x297 v298).Ran) != x305))) (b1 := true) (b0 := (((gt x297 v298).Ran) != x305)) (fun hc26286 K => ?_) (fun hc26286 K => ?_) bj_or ?_
       ·skip
        refine sF hc26286 ?_
        refine sF hc26286 ?_
        refine sF hc26286 ?_
        refine sF hc26286 ?_
        refine Q0 E_good rfl (v := V.bool true) (.pickK rfl hc26286 rfl) ?_
        exact SafeOps.drop' 5 rfl rfl rfl K
       ·skip
        refine qF E_good hc26286 (v := V.ptr [9] 0 10) (.fn rfl) ?_
        refine qF E_good hc26286 (v := I ((gt x297 v298).Ran)) (.load rfl rfl (.box rfl rfl) rfl) ?_
        refine qF E_good hc26286 (.fn rfl) ?_
        refine qF E_good hc26286 (v := V.bool (((gt x297 v298).Ran) != x305)) (.fn rfl) ?_
        refine Q0 E_good rfl (v := V.bool (((gt x297 v298).Ran) != x305)) (.pickK rfl hc26286 rfl) ?_
        exact SafeOps.drop' 5 rfl rfl rfl K
       refine SafeOps.nil ?_
       repeat first|apply sq|apply sk|with_reducible first|apply tn|apply bn
       refine ifG h (fun hc26287 h => ?_) (fun hc26287 h => ?_)
       ·skip
        refine Safe.condK rfl hc26287 ?_
        repeat first|apply sq|apply sk|with_reducible first|apply tn|apply bn
        refine Safe.region ?_
        refine Qf E_good ?_
        refine SafeOps.nil ?_
        repeat first|apply sq|apply sk|with_reducible first|apply tn|apply bn
        refine Safe.ret ?_
        repeat (first | with_reducible refine thenQ.r ?_ | with_reducible refine blockQ.r ?_)
        replace h := inr_out h hr26267
        obtain rfl := Option.some.inj h
        exact retQ.gen (vs := [V.bool false]) rfl (.tmp rfl .nil) (.free rfl) (by simp) (.inr rfl)
       ·skip
        refine Safe.condN rfl hc26287 ?_
        repeat first|apply sq|apply sk|with_reducible first|apply tn|apply bn
        refine Safe.region ?_
        refine Qf E_good ?_
        refine Q0 E_good rfl (v := I (x299.length : Int)) (.fnE rfl lenE) ?_
        refine Qf E_good ?_
        refine SafeOps.nil ?_
        repeat first|apply sq|apply sk|with_reducible first|apply tn|apply bn
        refine Safe.block ?_
        repeat first|apply sq|apply sk|with_reducible first|apply tn|apply bn
        refine Safe.loopW (fun (v300 : Int) => ⟨Tryd.f8.ntmps, [(0, V.sl 1 (rws (fun l => [V.sl 3 (rws api_Instr.cells l)]) a301)), (1, V.sl 3 (rws api_Event.cells a306)), (5, V.bool x307), (9, V.ptr [9] 0 0), (10, V.ref [55, 0] 0 (rws api_Event.cells x299).length), (46, V.ref [30, 0] 0 (rws api_Task.cells x297).length), (47, I (x297.length : Int)), (48, I v298), (103, V.ref [55, 0] 0 (rws api_Event.cells x299).length), (104, I (x299.length : Int)), (105, I v300)], [([9], Obj.box [I ((gt x297 v298).Id), I ((gt x297 v298).Tenant), I ((gt x297 v298).Prog), I ((gt x297 v298).Pc), I ((gt x297 v298).Unit), I ((gt x297 v298).Keeps.a0), I ((gt x297 v298).Keeps.a1), I ((gt x297 v298).Keeps.a2), I ((gt x297 v298).Keeps.a3), I ((gt x297 v298).State), I ((gt x297 v298).Ran)]), ([30, 0], Obj.rows 11 (rws api_Task.cells x297) false), ([55, 0], Obj.rows 3 (rws api_Event.cells x299) false)], [], []⟩) h (.cov ⟨rfl, rfl, (ut (ut (ut (ut (ut (ut (ut (ut (ut (ut (ut upT_nil))))))))))), (uo (uo (uo upOb_nil))), upOut_nil, rfl⟩) ?_
        intro v300 ohr26308 h hr26308
        replace h : go_ravellaw18_TraceEnds_s7 x297 v298 x299 v300 = some ohr26308 := h
        rw [go_ravellaw18_TraceEnds_s7] at h
        repeat first|apply sq|apply sk|with_reducible first|apply tn|apply bn
        refine Safe.region ?_
        refine Q0 E_good rfl (v := V.bool (decide (v300 < (x299.length : Int)))) (.fn rfl) ?_
        refine SafeOps.nil ?_
        repeat first|apply sq|apply sk|with_reducible first|apply tn|apply bn
        refine ifG h (fun hc26309 h => ?_) (fun hc26309 h => ?_)
        ·skip
         refine Safe.condK rfl hc26309 ?_
         repeat first|apply sq|apply sk|with_reducible first|apply tn|apply bn
         refine Safe.block ?_
         repeat first|apply sq|apply sk|with_reducible first|apply tn|apply bn
         refine Safe.region ?_
         refine Qf E_good ?_
         refine okG h (fun hb26310 h => ?_)
         refine Q0 E_good rfl (v := V.ptr [55, 0] (0 + Int.toNat v300) 0) (.idxRefM (f := api_Event.cells) (xs := x299) rfl rfl rfl rfl rfl rfl hb26310) ?_
         refine Q0 E_good rfl (v := V.agg [I ((gt x299 v300).Kind), I ((gt x299 v300).Id), I ((gt x299 v300).A)]) (.load rfl rfl (.rowsM (f := api_Event.cells) (xs := x299) hb26310 rfl rfl) rfl) ?_
         refine SafeOps.quiet1 E_good rfl rfl rfl (.alloc rfl rfl) rfl ?_
         refine Qf E_good ?_
         refine SafeOps.store (z := Obj.box [I ((gt x299 v300).Kind), I ((gt x299 v300).Id), I ((gt x299 v300).A)]) E_good rfl rfl rfl rfl rfl rfl rfl (.boxM (c := 3) rfl rfl (Nat.le_of_ble_eq_true rfl) rfl) ?_
         refine SafeOps.nil ?_
         repeat first|apply sq|apply sk|with_reducible first|apply tn|apply bn
         refine Safe.region ?_
         refine Q0 E_good rfl (v := V.ptr [15] 0 0) (.fn rfl) ?_
         refine Q0 E_good rfl (v := I ((gt x299 v300).Kind)) (.load rfl rfl (.box rfl rfl) rfl) ?_
         refine Q0 E_good rfl (v := V.bool (((gt x299 v300).Kind) == 5)) (.fn rfl) ?_
         refine Qf E_good ?_
         refine SafeOps.bjoin 4 117 (b := ((((gt x299 v300).Kind) == 5) || (((gt x299 v300).Kind) == 6))) (b1 := true) (b0 := (((gt x299 v300).Kind) == 6)) (fun hc26311 K => ?_) (fun hc26311 K => ?_) bj_or ?_
         ·skip
          refine sF hc26311 ?_
          refine sF hc26311 ?_
          refine sF hc26311 ?_
          refine Q0 E_good rfl (v := V.bool true) (.pickK rfl hc26311 rfl) ?_
          exact SafeOps.drop' 4 rfl rfl rfl K
         ·skip
          refine qF E_good hc26311 (v := V.ptr [15] 0 0) (.fn rfl) ?_
          refine qF E_good hc26311 (v := I ((gt x299 v300).Kind)) (.load rfl rfl (.box rfl rfl) rfl) ?_
          refine qF E_good hc26311 (v := V.bool (((gt x299 v300).Kind) == 6)) (.fn rfl) ?_
          refine Q0 E_good rfl (v := V.bool (((gt x299 v300).Kind) == 6)) (.pickK rfl hc26311 rfl) ?_
          exact SafeOps.drop' 4 rfl rfl rfl K
         refine Qf E_good ?_
         refine SafeOps.nil ?_
         repeat first|apply sq|apply sk|with_reducible first|apply tn|apply bn
         refine Safe.region ?_
         refine Qf E_good ?_
         refine Qf E_good ?_
         refine SafeOps.bjoin 6 125 (b := (((((gt x299 v300).Kind) == 5) || (((gt x299 v300).Kind) == 6)) && (v300 != (IntKind.i64.wrap ((x299.length : Int) - 1))))) (b1 := (v300 != (IntKind.i64.wrap ((x299.length : Int) - 1)))) (b0 := false) (fun hc26312 K => ?_) (fun hc26312 K => ?_) bj_and ?_
         ·skip
          refine qT E_good hc26312 (.fn rfl) ?_
          refine qT E_good hc26312 (.fn rfl) ?_
          refine qT E_good hc26312 (v := I (x299.length : Int)) (.fnE rfl lenE) ?_
          refine qT E_good hc26312 (v := I (IntKind.i64.wrap ((x299.length : Int) - 1))) (.fn rfl) ?_
          refine qT E_good hc26312 (v := V.bool (v300 != (IntKind.i64.wrap ((x299.length : Int) - 1)))) (.fn rfl) ?_
          refine Q0 E_good rfl (v := V.bool (v300 != (IntKind.i64.wrap ((x299.length : Int) - 1)))) (.pickK rfl hc26312 rfl) ?_
          exact SafeOps.drop' 6 rfl rfl rfl K
         ·skip
          refine sT hc26312 ?_
          refine sT hc26312 ?_
          refine sT hc26312 ?_
          refine sT hc26312 ?_
          refine sT hc26312 ?_
          refine Q0 E_good rfl (v := V.bool false) (.pickK rfl hc26312 rfl) ?_
          exact SafeOps.drop' 6 rfl rfl rfl K
         refine Qf E_good ?_
         refine SafeOps.bjoin 8 134 (b := ((((((gt x299 v300).Kind) == 5) || (((gt x299 v300).Kind) == 6)) && (v300 != (IntKind.i64.wrap ((x299.length : Int) - 1)))) || ((((gt x299 v300).Kind) == 1) && (decide (v300 > 0))))) (b1 := true) (b0 := ((((gt x299 v300).Kind) == 1) && (decide (v300 > 0)))) (fun hc26313 K => ?_) (fun hc26313 K => ?_) bj_or ?_
         ·skip
          refine sF hc26313 ?_
          refine sF hc26313 ?_
          refine sF hc26313 ?_
          refine sF hc26313 ?_
          refine SafeOps.skip rfl rfl rfl ?_
          refine SafeOps.skip rfl rfl rfl ?_
          refine sF hc26313 ?_
          refine Q0 E_good rfl (v := V.bool true) (.pickK rfl hc26313 rfl) ?_
          exact SafeOps.drop' 8 rfl rfl rfl K
         ·skip
          refine qF E_good hc26313 (v := V.ptr [15] 0 0) (.fn rfl) ?_
          refine qF E_good hc26313 (v := I ((gt x299 v300).Kind)) (.load rfl rfl (.box rfl rfl) rfl) ?_
          refine qF E_good hc26313 (v := V.bool (((gt x299 v300).Kind) == 1)) (.fn rfl) ?_
          refine qF E_good hc26313 (.fn rfl) ?_
          refine SafeOps.bjoin 3 133 (b := ((((gt x299 v300).Kind) == 1) && (decide (v300 > 0)))) (b1 := decide (v300 > 0)) (b0 := false) (fun hc26314 K => ?_) (fun hc26314 K => ?_) bj_and ?_
          ·skip
           refine qT E_good hc26314 (.fn rfl) ?_
           refine qT E_good hc26314 (v := V.bool (decide (v300 > 0))) (.fn rfl) ?_
           refine qF E_good hc26313 (v := V.bool (decide (v300 > 0))) (.pickK rfl hc26314 rfl) ?_
           exact SafeOps.drop' 3 rfl rfl rfl K
          ·skip
           refine sT hc26314 ?_
           refine sT hc26314 ?_
           refine qF E_good hc26313 (v := V.bool false) (.pickK rfl hc26314 rfl) ?_
           exact SafeOps.drop' 3 rfl rfl rfl K
          refine Q0 E_good rfl (v := V.bool ((((gt x299 v300).Kind) == 1) && (decide (v300 > 0)))) (.pickK rfl hc26313 rfl) ?_
          exact SafeOps.drop' 6 rfl rfl rfl K
         refine SafeOps.nil ?_
         repeat first|apply sq|apply sk|with_reducible first|apply tn|apply bn
         refine ifG h (fun hc26315 h => ?_) (fun hc26315 h => ?_)
         ·skip
          refine Safe.condK rfl hc26315 ?_
          repeat first|apply sq|apply sk|with_reducible first|apply tn|apply bn
          refine Safe.region ?_
          refine Qf E_good ?_
          refine SafeOps.nil ?_
          repeat first|apply sq|apply sk|with_reducible first|apply tn|apply bn
          refine Safe.ret ?_
          repeat (first | with_reducible refine thenQ.r ?_ | with_reducible refine blockQ.r ?_)
          replace h := inr_out h hr26308
          replace h := inr_out h hr26267
          obtain rfl := Option.some.inj h
          exact retQ.gen (vs := [V.bool false]) rfl (.tmp rfl .nil) (.free rfl) (by simp) (.inr rfl)
         ·skip
          refine Safe.condN rfl hc26315 ?_
          repeat first|apply sq|apply sk|with_reducible first|apply tn|apply bn
          refine Safe.region ?_
          refine Qf E_good ?_
          refine Qf E_good ?_
          refine Q0 E_good rfl (v := I (x299.length : Int)) (.fnE rfl lenE) ?_
          refine Q0 E_good rfl (v := I (IntKind.i64.wrap ((x299.length : Int) - 1))) (.fn rfl) ?_
          refine Q0 E_good rfl (v := V.bool (v300 == (IntKind.i64.wrap ((x299.length : Int) - 1)))) (.fn rfl) ?_
          refine Qf E_good ?_
          refine SafeOps.bjoin 6 146 (b := ((v300 == (IntKind.i64.wrap ((x299.length : Int) - 1))) && (!(((((gt x299 v300).Kind) == 5) || (((gt x299 v300).Kind) == 6)) == (((gt x297 v298).State) == 7))))) (b1 := (!(((((gt x299 v300).Kind) == 5) || (((gt x299 v300).Kind) == 6)) == (((gt x297 v298).State) == 7)))) (b0 := false) (fun hc26316 K => ?_) (fun hc26316 K => ?_) bj_and ?_
          ·skip
           refine qT E_good hc26316 (.fn rfl) ?_
           refine qT E_good hc26316 (v := V.ptr [9] 0 9) (.fn rfl) ?_
           refine qT E_good hc26316 (v := I ((gt x297 v298).State)) (.load rfl rfl (.box rfl rfl) rfl) ?_
           refine qT E_good hc26316 (v := V.bool (((gt x297 v298).State) == 7)) (.fn rfl) ?_
           refine qT E_good hc26316 (v := V.bool (!(((((gt x299 v300).Kind) == 5) || (((gt x299 v300).Kind) == 6)) == (((gt x297 v298).State) == 7)))) (.fn rfl) ?_
           refine Q0 E_good rfl (v := V.bool (!(((((gt x299 v300).Kind) == 5) || (((gt x299 v300).Kind) == 6)) == (((gt x297 v298).State) == 7)))) (.pickK rfl hc26316 rfl) ?_
           exact SafeOps.drop' 6 rfl rfl rfl K
          ·skip
           refine sT hc26316 ?_
           refine sT hc26316 ?_
           refine sT hc26316 ?_
           refine sT hc26316 ?_
           refine sT hc26316 ?_
           refine Q0 E_good rfl (v := V.bool false) (.pickK rfl hc26316 rfl) ?_
           exact SafeOps.drop' 6 rfl rfl rfl K
          refine SafeOps.nil ?_
          repeat first|apply sq|apply sk|with_reducible first|apply tn|apply bn
          refine ifG h (fun hc26317 h => ?_) (fun hc26317 h => ?_)
          ·skip
           refine Safe.condK rfl hc26317 ?_
           repeat first|apply sq|apply sk|with_reducible first|apply tn|apply bn
           refine Safe.region ?_
           refine Qf E_good ?_
           refine SafeOps.nil ?_
           repeat first|apply sq|apply sk|with_reducible first|apply tn|apply bn
           refine Safe.ret ?_
           repeat (first | with_reducible refine thenQ.r ?_ | with_reducible refine blockQ.r ?_)
           replace h := inr_out h hr26308
           replace h := inr_out h hr26267
           obtain rfl := Option.some.inj h
           exact retQ.gen (vs := [V.bool false]) rfl (.tmp rfl .nil) (.free rfl) (by simp) (.inr rfl)
          ·skip
           refine Safe.condN rfl hc26317 ?_
           repeat first|apply sq|apply sk|with_reducible first|apply tn|apply bn
           refine Safe.region ?_
           refine Q0 E_good rfl (v := I (IntKind.i64.wrap (v300 + 1))) (.fn rfl) ?_
           refine Qf E_good ?_
           refine SafeOps.nil ?_
           repeat first|apply sq|apply sk|with_reducible first|apply tn|apply bn
           exact ⟨_, next_out h, (.cov ⟨rfl, rfl, (ut (ut (ut (ut (ut (ut (ut (ut (ut (ut (ut upT_nil))))))))))), (uo (uo (uo upOb_nil))), upOut_nil, rfl⟩)⟩
        ·skip
         refine Safe.condN rfl hc26309 ?_
         repeat first|apply sq|apply sk|with_reducible first|apply tn|apply bn
         refine Safe.exit ?_
         repeat (first | with_reducible refine thenQ.e ?_ | with_reducible refine blockQ.x rfl ?_ | with_reducible refine blockQ.y rfl ?_)
         replace h := inr_out h hr26308
         repeat first|apply sq|apply sk|with_reducible first|apply tn|apply bn
         refine Safe.region ?_
         refine Q0 E_good rfl (v := I (IntKind.i64.wrap (v298 + 1))) (.fn rfl) ?_
         refine Qf E_good ?_
         refine SafeOps.nil ?_
         repeat first|apply sq|apply sk|with_reducible first|apply tn|apply bn
         exact ⟨_, next_out h, (.cov ⟨rfl, rfl, (ut (ut (ut (ut (ut (ut upT_nil)))))), (uo upOb_nil), upOut_nil, rfl⟩)⟩
    ·skip
     refine Safe.condN rfl hc26268 ?_
     repeat first|apply sq|apply sk|with_reducible first|apply tn|apply bn
     refine Safe.exit ?_
     repeat (first | with_reducible refine thenQ.e ?_ | with_reducible refine blockQ.x rfl ?_ | with_reducible refine blockQ.y rfl ?_)
     replace h := inr_out h hr26267
     repeat first|apply sq|apply sk|with_reducible first|apply tn|apply bn
     refine Safe.region ?_
     refine Qf E_good ?_
     refine Qf E_good ?_
     refine SafeOps.nil ?_
     repeat first|apply sq|apply sk|with_reducible first|apply tn|apply bn
     refine Safe.ret ?_
     repeat (first | with_reducible refine thenQ.r ?_ | with_reducible refine blockQ.r ?_)
     obtain rfl := Option.some.inj h
     exact retQ.gen (vs := [V.bool x307]) rfl (.tmp rfl .nil) (.free rfl) (by simp) (.inr rfl)
end Go.Proofs.YtpkegoikocfchaaDoor
