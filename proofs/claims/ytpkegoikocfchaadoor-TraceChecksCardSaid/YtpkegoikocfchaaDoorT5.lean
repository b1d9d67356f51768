/- Helper lemmas for the claim's theorem: an abstract machine over the model, proved sound; no condition beyond each lemma's own. -/
import Derived.Test.YtpkegoikocfchaaDoorT4
set_option linter.unusedVariables false
set_option linter.unusedSimpArgs false
set_option linter.unnecessarySimpa false
set_option linter.unusedSectionVars false
namespace Go.Proofs.YtpkegoikocfchaaDoor
open Go Go.AM
set_option maxRecDepth 100000
set_option maxHeartbeats 1000000
set_option linter.unusedVariables false
set_option linter.unusedSimpArgs false
noncomputable def go_ravellaw18_TraceChecks_j3 (a250 : Int) (b251 : Bool) : Option Bool :=
 some (b251 && ((go_trace_Held a250) == (go_ravelref18_Held a250)))

noncomputable def go_ravellaw18_TraceChecks_j2 (a252 : List api_Event) (a250 : Int) (b253 : Bool) : Option Bool :=
 if b253 = true then
  (go_trace_Count a252 a250).bind fun x254 =>
  (go_ravelref18_Count a252 a250).bind fun x255 =>
  go_ravellaw18_TraceChecks_j3 a250 (x254 == x255)
 else
  go_ravellaw18_TraceChecks_j3 a250 false

noncomputable def go_ravellaw18_TraceChecks_j1 (a252 : List api_Event) (a256 : Int) (a250 : Int) (x257 : Int) (x258 : Int) (b259 : Bool) : Option Bool :=
 if (b259 && (x257 == x258)) = true then
  (go_trace_Of a252 a256).bind fun x260 =>
  (go_ravelref18_Of a252 a256).bind fun x261 =>
  (go_ravelref18_Same x260 x261).bind fun x262 =>
  go_ravellaw18_TraceChecks_j2 a252 a250 x262
 else
  go_ravellaw18_TraceChecks_j2 a252 a250 false

noncomputable def go_ravellaw18_TraceChecks (a263 : List (List api_Instr)) (a252 : List api_Event) (a256 : Int) (a250 : Int) : Option Bool :=
 (go_ravellaw18_live).bind fun x264 =>
 (go_ravelref04_Few a263).bind fun x265 =>
 if ((!x265) || (decide ((a252.length : Int) > 200))) = true then
  some x264
 else
  (go_trace_Check a263 a252).bind fun (x266, x267) =>
  (go_ravelref18_Check a263 a252).bind fun (x268, x269) =>
  (go_trace_Tasks a263 a252).bind fun (x270, x257) =>
  (go_ravelref18_Tasks a263 a252).bind fun (x271, x258) =>
  if ((x264 && (x266 == x268)) && (x267 == x269)) = true then
   (go_ravelref18_SameTasks x270 x271).bind fun x272 =>
   go_ravellaw18_TraceChecks_j1 a252 a256 a250 x257 x258 x272
  else
   go_ravellaw18_TraceChecks_j1 a252 a256 a250 x257 x258 false

theorem go_ravellaw18_TraceChecks_sc (a263 : List (List api_Instr)) (a252 : List api_Event) (a256 : Int) (a250 : Int) (r : Bool) (h : go_ravellaw18_TraceChecks a263 a252 a256 a250 = some r) : SC Tryd.prog gl 6 [V.sl 1 (rws (fun l => [V.sl 3 (rws api_Instr.cells l)]) a263), V.sl 3 (rws api_Event.cells a252), I a256, I a250] (V.bool r) := by
 rw [go_ravellaw18_TraceChecks] at h
 refine SC.of E_good Tryd.func6 rfl (fun _ _ => Tryd.call6 _ _) rfl ?_
 repeat first|apply sq|apply sk|with_reducible first|apply tn|apply bn
 refine Safe.region ?_
 refine Qf E_good ?_
 refine SafeOps.nil ?_
 repeat first|apply sq|apply sk|with_reducible first|apply tn|apply bn
 refine Safe.region ?_
 refine bindG h ?_
 intro x264 he25098 h
 refine Q0 E_good rfl (v := V.bool x264) (.callP rfl rfl (go_ravellaw18_live_sc  _ he25098) rfl) ?_
 refine Qf E_good ?_
 refine SafeOps.nil ?_
 repeat first|apply sq|apply sk|with_reducible first|apply tn|apply bn
 refine Safe.region ?_
 refine Qf E_good ?_
 refine bindG h ?_
 intro x265 he25100 h
 refine Q0 E_good rfl (v := V.bool x265) (.callP rfl rfl (go_ravelref04_Few_sc a263 _ he25100) rfl) ?_
 refine Q0 E_good rfl (v := V.bool (!x265)) (.fn rfl) ?_
 refine Qf E_good ?_
 refine SafeOps.bjoin 4 26 (b := ((!x265) || (decide ((a252.length : Int) > 200)))) (b1 := true) (b0 := decide ((a252.length : Int) > 200)) (fun hc25101 K => ?_) (fun hc25101 K => ?_) bj_or ?_
 ·skip
  refine sF hc25101 ?_
  refine sF hc25101 ?_
  refine sF hc25101 ?_
  refine Q0 E_good rfl (v := V.bool true) (.pickK rfl hc25101 rfl) ?_
  exact SafeOps.drop' 4 rfl rfl rfl K
 ·skip
  refine qF E_good hc25101 (.fn rfl) ?_
  refine qF E_good hc25101 (v := I (a252.length : Int)) (.fnE rfl lenE) ?_
  refine qF E_good hc25101 (v := V.bool (decide ((a252.length : Int) > 200))) (.fn rfl) ?_
  refine Q0 E_good rfl (v := V.bool (decide ((a252.length : Int) > 200))) (.pickK rfl hc25101 rfl) ?_
  exact SafeOps.drop' 4 rfl rfl rfl K
 refine SafeOps.nil ?_
 repeat first|apply sq|apply sk|with_reducible first|apply tn|apply bn
 refine ifG h (fun hc25102 h => ?_) (fun hc25102 h => ?_)
 ·skip
  refine Safe.condK rfl hc25102 ?_
  repeat first|apply sq|apply sk|with_reducible first|apply tn|apply bn
  refine Safe.region ?_
  refine Qf E_good ?_
  refine Qf E_good ?_
  refine SafeOps.nil ?_
  repeat first|apply sq|apply sk|with_reducible first|apply tn|apply bn
  refine Safe.ret ?_
  repeat (first | with_reducible refine thenQ.r ?_ | with_reducible refine blockQ.r ?_)
  obtain rfl := Option.some.inj h
  exact retQ.gen (vs := [V.bool x264]) rfl (.tmp rfl .nil) (.free rfl) (by simp) (.inr rfl)
 ·skip
  refine Safe.condN rfl hc25102 ?_
  repeat first|apply sq|apply sk|with_reducible first|apply tn|apply bn
  refine Safe.region ?_
  refine Qf E_good ?_
  refine Qf E_good ?_
  refine bindG h ?_
  rintro ⟨x266, x267⟩ he25105 h
  refine Q0 E_good rfl (v := V.tup [I x266, I x267]) (.callP rfl rfl (go_trace_Check_sc a263 a252 _ he25105) rfl) ?_
  refine Qf E_good ?_
  refine Qf E_good ?_
  refine Qf E_good ?_
  refine Qf E_good ?_
  refine Qf E_good ?_
  refine SafeOps.nil ?_
  repeat first|apply sq|apply sk|with_reducible first|apply tn|apply bn
  refine Safe.region ?_
  refine Qf E_good ?_
  refine Qf E_good ?_
  refine bindG h ?_
  rintro ⟨x268, x269⟩ he25108 h
  refine Q0 E_good rfl (v := V.tup [I x268, I x269]) (.callP rfl rfl (go_ravelref18_Check_sc a263 a252 _ he25108) rfl) ?_
  refine Qf E_good ?_
  refine Qf E_good ?_
  refine Qf E_good ?_
  refine Qf E_good ?_
  refine Qf E_good ?_
  refine SafeOps.nil ?_
  repeat first|apply sq|apply sk|with_reducible first|apply tn|apply bn
  refine Safe.region ?_
  refine Qf E_good ?_
  refine Qf E_good ?_
  refine bindG h ?_
  rintro ⟨x270, x257⟩ he25111 h
  refine SafeOps.quiet E_good rfl rfl rfl (v := V.tup [V.ref [43, 0] 0 (rws api_Task.cells x270).length, I x257]) (.callP rfl rfl (go_trace_Tasks_sc a263 a252 _ he25111) rfl) rfl ?_
  refine Qf E_good ?_
  refine Qf E_good ?_
  refine Qf E_good ?_
  refine Qf E_good ?_
  refine Qf E_good ?_
  refine SafeOps.nil ?_
  repeat first|apply sq|apply sk|with_reducible first|apply tn|apply bn
  refine Safe.region ?_
  refine Qf E_good ?_
  refine Qf E_good ?_
  refine bindG h ?_
  rintro ⟨x271, x258⟩ he25114 h
  refine SafeOps.quiet E_good rfl rfl rfl (v := V.tup [V.ref [49, 0] 0 (rws api_Task.cells x271).length, I x258]) (.callP rfl rfl (go_ravelref18_Tasks_sc a263 a252 _ he25114) rfl) rfl ?_
  refine Qf E_good ?_
  refine Qf E_good ?_
  refine Qf E_good ?_
  refine Qf E_good ?_
  refine Qf E_good ?_
  refine SafeOps.nil ?_
  repeat first|apply sq|apply sk|with_reducible first|apply tn|apply bn
  refine Safe.region ?_
  refine Qf E_good ?_
  refine Qf E_good ?_
  refine SafeOps.bjoin 4 57 (b := (x264 && (x266 == x268))) (b1 := (x266 == x268)) (b0 := false) (fun hc25115 K => ?_) (fun hc25115 K => ?_) bj_and ?_
  ·skip
   refine qT E_good hc25115 (.fn rfl) ?_
   refine qT E_good hc25115 (.fn rfl) ?_
   refine qT E_good hc25115 (v := V.bool (x266 == x268)) (.fn rfl) ?_
   refine Q0 E_good rfl (v := V.bool (x266 == x268)) (.pickK rfl hc25115 rfl) ?_
   exact SafeOps.drop' 4 rfl rfl rfl K
  ·skip
   refine sT hc25115 ?_
   refine sT hc25115 ?_
   refine sT hc25115 ?_
   refine Q0 E_good rfl (v := V.bool false) (.pickK rfl hc25115 rfl) ?_
   exact SafeOps.drop' 4 rfl rfl rfl K
  refine Qf E_good ?_
  refine SafeOps.bjoin 4 62 (b := ((x264 && (x266 == x268)) && (x267 == x269))) (b1 := (x267 == x269)) (b0 := false) (fun hc25116 K => ?_) (fun hc25116 K => ?_) bj_and ?_
  ·skip
   refine qT E_good hc25116 (.fn rfl) ?_
   refine qT E_good hc25116 (.fn rfl) ?_
   refine qT E_good hc25116 (v := V.bool (x267 == x269)) (.fn rfl) ?_
   refine Q0 E_good rfl (v := V.bool (x267 == x269)) (.pickK rfl hc25116 rfl) ?_
   exact SafeOps.drop' 4 rfl rfl rfl K
  ·skip
   refine sT hc25116 ?_
   refine sT hc25116 ?_
   refine sT hc25116 ?_
   refine Q0 E_good rfl (v := V.bool false) (.pickK rfl hc25116 rfl) ?_
   exact SafeOps.drop' 4 rfl rfl rfl K
  refine Qf E_good ?_
  refine SafeOps.bsplit 4 67 (fun b259 => go_ravellaw18_TraceChecks_j1 a252 a256 a250 x257 x258 b259 = some r) (fun HJ25121 => ?_) (fun b259 h => ?_)
  ·refine ifG h (fun hc25117 h => ?_) (fun hc25117 h => ?_)
   ·skip
    refine qT E_good hc25117 (.fn rfl) ?_
    refine qT E_good hc25117 (.fn rfl) ?_
    refine bindG h ?_
    intro x272 he25151 h
    refine qT E_good hc25117 (v := V.bool x272) (.callS rfl (.cons (.full rfl rfl) (.cons (.full rfl rfl) .nil)) (go_ravelref18_SameTasks_sc x270 x271 _ he25151) (.plain rfl) rfl) ?_
    refine Q0 E_good rfl (v := V.bool x272) (.pickK rfl hc25117 rfl) ?_
    exact SafeOps.drop' 4 rfl rfl rfl (HJ25121 _ h)
   ·skip
    refine sT hc25117 ?_
    refine sT hc25117 ?_
    refine sT hc25117 ?_
    refine Q0 E_good rfl (v := V.bool false) (.pickK rfl hc25117 rfl) ?_
    exact SafeOps.drop' 4 rfl rfl rfl (HJ25121 _ h)
  ·replace h : go_ravellaw18_TraceChecks_j1 a252 a256 a250 x257 x258 b259 = some r := h
   rw [go_ravellaw18_TraceChecks_j1] at h
   refine Qf E_good ?_
   refine SafeOps.bjoin 4 72 (b := (b259 && (x257 == x258))) (b1 := (x257 == x258)) (b0 := false) (fun hc25122 K => ?_) (fun hc25122 K => ?_) bj_and ?_
   ·skip
    refine qT E_good hc25122 (.fn rfl) ?_
    refine qT E_good hc25122 (.fn rfl) ?_
    refine qT E_good hc25122 (v := V.bool (x257 == x258)) (.fn rfl) ?_
    refine Q0 E_good rfl (v := V.bool (x257 == x258)) (.pickK rfl hc25122 rfl) ?_
    exact SafeOps.drop' 4 rfl rfl rfl K
   ·skip
    refine sT hc25122 ?_
    refine sT hc25122 ?_
    refine sT hc25122 ?_
    refine Q0 E_good rfl (v := V.bool false) (.pickK rfl hc25122 rfl) ?_
    exact SafeOps.drop' 4 rfl rfl rfl K
   refine Qf E_good ?_
   refine SafeOps.bsplit 8 81 (fun b253 => go_ravellaw18_TraceChecks_j2 a252 a250 b253 = some r) (fun HJ25131 => ?_) (fun b253 h => ?_)
   ·refine ifG h (fun hc25123 h => ?_) (fun hc25123 h => ?_)
    ·skip
     refine qT E_good hc25123 (.fn rfl) ?_
     refine qT E_good hc25123 (.fn rfl) ?_
     refine bindG h ?_
     intro x260 he25145 h
     refine SafeOps.quiet E_good (congrArg some hc25123) rfl rfl (v := V.ref [76, 0] 0 (rws api_Event.cells x260).length) (.callP rfl rfl (go_trace_Of_sc a252 a256 _ he25145) rfl) rfl ?_
     refine qT E_good hc25123 (.fn rfl) ?_
     refine qT E_good hc25123 (.fn rfl) ?_
     refine bindG h ?_
     intro x261 he25147 h
     refine SafeOps.quiet E_good (congrArg some hc25123) rfl rfl (v := V.ref [79, 0] 0 (rws api_Event.cells x261).length) (.callP rfl rfl (go_ravelref18_Of_sc a252 a256 _ he25147) rfl) rfl ?_
     refine bindG h ?_
     intro x262 he25149 h
     refine qT E_good hc25123 (v := V.bool x262) (.callS rfl (.cons (.full rfl rfl) (.cons (.full rfl rfl) .nil)) (go_ravelref18_Same_sc x260 x261 _ he25149) (.plain rfl) rfl) ?_
     refine Q0 E_good rfl (v := V.bool x262) (.pickK rfl hc25123 rfl) ?_
     first | exact SafeOps.dropO 8 2 rfl rfl rfl rfl rfl rfl (HJ25131 _ h) | exact SafeOps.dropO 8 4 rfl rfl rfl rfl rfl rfl (HJ25131 _ h) | exact SafeOps.dropO 8 6 rfl rfl rfl rfl rfl rfl (HJ25131 _ h)
    ·skip
     refine sT hc25123 ?_
     refine sT hc25123 ?_
     refine sT hc25123 ?_
     refine sT hc25123 ?_
     refine sT hc25123 ?_
     refine sT hc25123 ?_
     refine sT hc25123 ?_
     refine Q0 E_good rfl (v := V.bool false) (.pickK rfl hc25123 rfl) ?_
     exact SafeOps.drop' 8 rfl rfl rfl (HJ25131 _ h)
   ·replace h : go_ravellaw18_TraceChecks_j2 a252 a250 b253 = some r := h
    rw [go_ravellaw18_TraceChecks_j2] at h
    refine Qf E_good ?_
    refine SafeOps.bsplit 8 90 (fun b251 => go_ravellaw18_TraceChecks_j3 a250 b251 = some r) (fun HJ25138 => ?_) (fun b251 h => ?_)
    ·refine ifG h (fun hc25132 h => ?_) (fun hc25132 h => ?_)
     ·skip
      refine qT E_good hc25132 (.fn rfl) ?_
      refine qT E_good hc25132 (.fn rfl) ?_
      refine bindG h ?_
      intro x254 he25141 h
      refine qT E_good hc25132 (v := I x254) (.callP rfl rfl (go_trace_Count_sc a252 a250 _ he25141) rfl) ?_
      refine qT E_good hc25132 (.fn rfl) ?_
      refine qT E_good hc25132 (.fn rfl) ?_
      refine bindG h ?_
      intro x255 he25143 h
      refine qT E_good hc25132 (v := I x255) (.callP rfl rfl (go_ravelref18_Count_sc a252 a250 _ he25143) rfl) ?_
      refine qT E_good hc25132 (v := V.bool (x254 == x255)) (.fn rfl) ?_
      refine Q0 E_good rfl (v := V.bool (x254 == x255)) (.pickK rfl hc25132 rfl) ?_
      exact SafeOps.drop' 8 rfl rfl rfl (HJ25138 _ h)
     ·skip
      refine sT hc25132 ?_
      refine sT hc25132 ?_
      refine sT hc25132 ?_
      refine sT hc25132 ?_
      refine sT hc25132 ?_
      refine sT hc25132 ?_
      refine sT hc25132 ?_
      refine Q0 E_good rfl (v := V.bool false) (.pickK rfl hc25132 rfl) ?_
      exact SafeOps.drop' 8 rfl rfl rfl (HJ25138 _ h)
    ·replace h : go_ravellaw18_TraceChecks_j3 a250 b251 = some r := h
     rw [go_ravellaw18_TraceChecks_j3] at h
     refine Qf E_good ?_
     refine SafeOps.bjoin 6 97 (b := (b251 && ((go_trace_Held a250) == (go_ravelref18_Held a250)))) (b1 := ((go_trace_Held a250) == (go_ravelref18_Held a250))) (b0 := false) (fun hc25139 K => ?_) (fun hc25139 K => ?_) bj_and ?_
     ·skip
      refine qT E_good hc25139 (.fn rfl) ?_
      refine qT E_good hc25139 (v := I (go_trace_Held a250)) (.callP rfl rfl (go_trace_Held_sc a250 _ rfl) rfl) ?_
      refine qT E_good hc25139 (.fn rfl) ?_
      refine qT E_good hc25139 (v := I (go_ravelref18_Held a250)) (.callP rfl rfl (go_ravelref18_Held_sc a250 _ rfl) rfl) ?_
      refine qT E_good hc25139 (v := V.bool ((go_trace_Held a250) == (go_ravelref18_Held a250))) (.fn rfl) ?_
      refine Q0 E_good rfl (v := V.bool ((go_trace_Held a250) == (go_ravelref18_Held a250))) (.pickK rfl hc25139 rfl) ?_
      exact SafeOps.drop' 6 rfl rfl rfl K
     ·skip
      refine sT hc25139 ?_
      refine sT hc25139 ?_
      refine sT hc25139 ?_
      refine sT hc25139 ?_
      refine sT hc25139 ?_
      refine Q0 E_good rfl (v := V.bool false) (.pickK rfl hc25139 rfl) ?_
      exact SafeOps.drop' 6 rfl rfl rfl K
     refine Qf E_good ?_
     refine SafeOps.nil ?_
     repeat first|apply sq|apply sk|with_reducible first|apply tn|apply bn
     refine Safe.ret ?_
     repeat (first | with_reducible refine thenQ.r ?_ | with_reducible refine blockQ.r ?_)
     obtain rfl := Option.some.inj h
     exact retQ.gen (vs := [V.bool (b251 && ((go_trace_Held a250) == (go_ravelref18_Held a250)))]) rfl (.tmp rfl .nil) (.free rfl) (by simp) (.inr rfl)

end Go.Proofs.YtpkegoikocfchaaDoor
