/- Helper lemmas for the claim's theorem: an abstract machine over the model, proved sound; no condition beyond each lemma's own. -/
import Derived.Test.YtpkegoikocfchaaDoorT1
set_option linter.unusedVariables false
set_option linter.unusedSimpArgs false
set_option linter.unnecessarySimpa false
set_option linter.unusedSectionVars false
namespace Go.Proofs.YtpkegoikocfchaaDoor
open Go Go.AM
set_option maxRecDepth 100000
set_option maxHeartbeats 1000000
set_option linter.unusedVariables false
set_option linter.unusedSimpArgs false
noncomputable def go_ravellaw18_live  : Option Bool :=
  (go_trace_Check [[(api_Instr.mk 1 1 0), (api_Instr.mk 9 0 0)]] [(api_Event.mk 1 7 0), (api_Event.mk 2 7 1), (api_Event.mk 2 7 9), (api_Event.mk 5 7 0)]).bind fun (x_6257, x_6258) =>
  some ((x_6258 == 0) && (x_6257 == 4))

theorem go_ravellaw18_live_sc  (r : Bool) (h : go_ravellaw18_live  = some r) : SC Tryd.prog gl 9 [] (V.bool r) := by
  rw [go_ravellaw18_live] at h
  refine SC.of E_good Tryd.func9 rfl (fun _ _ => Tryd.call9 _ _) rfl ?_
  repeat (first | refine Safe.seq ?_ | refine Safe.skip ?_ | with_reducible refine thenQ.n ?_ | with_reducible refine blockQ.n ?_)
  refine Safe.region ?_
  refine SafeOps.quiet0 E_good rfl rfl rfl (v := V.bool false) (.fn rfl) ?_
  refine SafeOps.nil ?_
  repeat (first | refine Safe.seq ?_ | refine Safe.skip ?_ | with_reducible refine thenQ.n ?_ | with_reducible refine blockQ.n ?_)
  refine Safe.region ?_
  refine SafeOps.quiet0 E_good rfl rfl rfl (v := V.agg [V.int .i64 1, V.int .i64 1, V.int .i64 0]) (.fn rfl) ?_
  refine SafeOps.quiet0 E_good rfl rfl rfl (v := V.agg [V.int .i64 9, V.int .i64 0, V.int .i64 0]) (.fn rfl) ?_
  refine SafeOps.quiet1 E_good rfl rfl rfl (.litM (f := api_Instr.cells) (xs := [(api_Instr.mk 1 1 0), (api_Instr.mk 9 0 0)]) rfl rfl (by decide) rfl rfl rfl rfl rfl) rfl ?_
  refine SafeOps.freeze [7] rfl ?_
  refine SafeOps.see 7 (u := V.sl 3 (rws api_Instr.cells [(api_Instr.mk 1 1 0), (api_Instr.mk 9 0 0)])) rfl (.full rfl rfl) ?_
  refine SafeOps.quiet1 E_good rfl rfl rfl (.litM (f := (fun l => [V.sl 3 (rws api_Instr.cells l)])) (xs := [[(api_Instr.mk 1 1 0), (api_Instr.mk 9 0 0)]]) rfl rfl (by decide) rfl rfl rfl rfl rfl) rfl ?_
  refine SafeOps.quiet0 E_good rfl rfl rfl (v := V.ref [8] 0 (rws (fun l => [V.sl 3 (rws api_Instr.cells l)]) [[(api_Instr.mk 1 1 0), (api_Instr.mk 9 0 0)]]).length) (.fn rfl) ?_
  refine SafeOps.nil ?_
  repeat (first | refine Safe.seq ?_ | refine Safe.skip ?_ | with_reducible refine thenQ.n ?_ | with_reducible refine blockQ.n ?_)
  refine Safe.region ?_
  refine SafeOps.quiet0 E_good rfl rfl rfl (v := V.agg [V.int .i64 1, V.int .i64 7, V.int .i64 0]) (.fn rfl) ?_
  refine SafeOps.quiet0 E_good rfl rfl rfl (v := V.agg [V.int .i64 2, V.int .i64 7, V.int .i64 1]) (.fn rfl) ?_
  refine SafeOps.quiet0 E_good rfl rfl rfl (v := V.agg [V.int .i64 2, V.int .i64 7, V.int .i64 9]) (.fn rfl) ?_
  refine SafeOps.quiet0 E_good rfl rfl rfl (v := V.agg [V.int .i64 5, V.int .i64 7, V.int .i64 0]) (.fn rfl) ?_
  refine SafeOps.quiet1 E_good rfl rfl rfl (.litM (f := api_Event.cells) (xs := [(api_Event.mk 1 7 0), (api_Event.mk 2 7 1), (api_Event.mk 2 7 9), (api_Event.mk 5 7 0)]) rfl rfl (by decide) rfl rfl rfl rfl rfl) rfl ?_
  refine SafeOps.quiet0 E_good rfl rfl rfl (v := V.ref [13] 0 (rws api_Event.cells [(api_Event.mk 1 7 0), (api_Event.mk 2 7 1), (api_Event.mk 2 7 9), (api_Event.mk 5 7 0)]).length) (.fn rfl) ?_
  refine SafeOps.nil ?_
  repeat (first | refine Safe.seq ?_ | refine Safe.skip ?_ | with_reducible refine thenQ.n ?_ | with_reducible refine blockQ.n ?_)
  refine Safe.region ?_
  refine SafeOps.quiet0 E_good rfl rfl rfl (v := V.ref [8] 0 (rws (fun l => [V.sl 3 (rws api_Instr.cells l)]) [[(api_Instr.mk 1 1 0), (api_Instr.mk 9 0 0)]]).length) (.fn rfl) ?_
  refine SafeOps.quiet0 E_good rfl rfl rfl (v := V.ref [13] 0 (rws api_Event.cells [(api_Event.mk 1 7 0), (api_Event.mk 2 7 1), (api_Event.mk 2 7 9), (api_Event.mk 5 7 0)]).length) (.fn rfl) ?_
  refine bindG h ?_
  rintro ⟨x_6257, x_6258⟩ he6259 h
  refine SafeOps.quiet0 E_good rfl rfl rfl (v := V.tup [V.int .i64 x_6257, V.int .i64 x_6258]) (.callS rfl (.cons (.full rfl rfl) (.cons (.full rfl rfl) .nil)) (go_trace_Check_sc [[(api_Instr.mk 1 1 0), (api_Instr.mk 9 0 0)]] [(api_Event.mk 1 7 0), (api_Event.mk 2 7 1), (api_Event.mk 2 7 9), (api_Event.mk 5 7 0)] _ he6259) (.tupL (.cons (.plain rfl) (.cons (.plain rfl) .nil))) rfl) ?_
  refine SafeOps.quiet0 E_good rfl rfl rfl (v := V.tup [V.int .i64 x_6257, V.int .i64 x_6258]) (.fn rfl) ?_
  refine SafeOps.quiet0 E_good rfl rfl rfl (v := V.int .i64 x_6257) (.fn rfl) ?_
  refine SafeOps.quiet0 E_good rfl rfl rfl (v := V.int .i64 x_6258) (.fn rfl) ?_
  refine SafeOps.quiet0 E_good rfl rfl rfl (v := V.int .i64 x_6257) (.fn rfl) ?_
  refine SafeOps.quiet0 E_good rfl rfl rfl (v := V.int .i64 x_6258) (.fn rfl) ?_
  refine SafeOps.nil ?_
  repeat (first | refine Safe.seq ?_ | refine Safe.skip ?_ | with_reducible refine thenQ.n ?_ | with_reducible refine blockQ.n ?_)
  refine Safe.region ?_
  refine SafeOps.quiet0 E_good rfl rfl rfl (v := V.int .i64 x_6258) (.fn rfl) ?_
  refine SafeOps.quiet0 E_good rfl rfl rfl (v := V.bool (x_6258 == 0)) (.fn rfl) ?_
  refine SafeOps.quiet0 E_good rfl rfl rfl (v := V.bool (x_6258 == 0)) (.fn rfl) ?_
  refine SafeOps.bjoin 3 25 (b := ((x_6258 == 0) && (x_6257 == 4))) (b1 := (x_6257 == 4)) (b0 := false) (fun hc6260 K => ?_) (fun hc6260 K => ?_) bj_and ?_
  · skip
    refine SafeOps.quiet0 E_good (congrArg some hc6260) rfl rfl (v := V.int .i64 x_6257) (.fn rfl) ?_
    refine SafeOps.quiet0 E_good (congrArg some hc6260) rfl rfl (v := V.bool (x_6257 == 4)) (.fn rfl) ?_
    refine SafeOps.quiet0 E_good rfl rfl rfl (v := V.bool (x_6257 == 4)) (.pickK rfl hc6260 rfl) ?_
    exact SafeOps.drop' 3 rfl rfl rfl K
  · skip
    refine SafeOps.skip (congrArg some hc6260) rfl rfl ?_
    refine SafeOps.skip (congrArg some hc6260) rfl rfl ?_
    refine SafeOps.quiet0 E_good rfl rfl rfl (v := V.bool false) (.pickK rfl hc6260 rfl) ?_
    exact SafeOps.drop' 3 rfl rfl rfl K
  refine SafeOps.quiet0 E_good rfl rfl rfl (v := V.bool ((x_6258 == 0) && (x_6257 == 4))) (.fn rfl) ?_
  refine SafeOps.nil ?_
  repeat (first | refine Safe.seq ?_ | refine Safe.skip ?_ | with_reducible refine thenQ.n ?_ | with_reducible refine blockQ.n ?_)
  refine Safe.ret ?_
  repeat (first | with_reducible refine thenQ.r ?_ | with_reducible refine blockQ.r ?_)
  obtain rfl := Option.some.inj h
  exact retQ.gen (vs := [V.bool ((x_6258 == 0) && (x_6257 == 4))]) rfl (.tmp (v := V.bool ((x_6258 == 0) && (x_6257 == 4))) rfl .nil) (.free rfl) (by simp) (.inr rfl)

noncomputable def go_ravelref04_Few_s1 (a0_6263 : List (List api_Instr)) : (Int) → Option ((Int) ⊕ (Bool))
  | v7_6284 =>
    if (decide (v7_6284 < (a0_6263.length : Int))) = true then
      if 0 ≤ v7_6284 ∧ v7_6284 < (a0_6263.length : Int) then
        if (decide (((gt a0_6263 v7_6284).length : Int) > 100)) = true then
          inrO (
            some false)
        else
          nextO (IntKind.i64.wrap (v7_6284 + 1))
      else none
    else
      inrO (
        some (decide ((a0_6263.length : Int) ≤ 100)))

noncomputable def go_ravelref04_Few (a0_6263 : List (List api_Instr)) : Option Bool :=
  whileO (go_ravelref04_Few_s1 a0_6263) 0

theorem go_ravelref04_Few_sc (a0_6263 : List (List api_Instr)) (r : Bool) (h : go_ravelref04_Few a0_6263 = some r) : SC Tryd.prog gl 10 [V.sl 1 (rws (fun l => [V.sl 3 (rws api_Instr.cells l)]) a0_6263)] (V.bool r) := by
  rw [go_ravelref04_Few] at h
  refine SC.of E_good Tryd.func10 rfl (fun _ _ => Tryd.call10 _ _) rfl ?_
  repeat (first | refine Safe.seq ?_ | refine Safe.skip ?_ | with_reducible refine thenQ.n ?_ | with_reducible refine blockQ.n ?_)
  refine Safe.region ?_
  refine SafeOps.quiet0 E_good rfl rfl rfl (v := V.bool false) (.fn rfl) ?_
  refine SafeOps.nil ?_
  repeat (first | refine Safe.seq ?_ | refine Safe.skip ?_ | with_reducible refine thenQ.n ?_ | with_reducible refine blockQ.n ?_)
  refine Safe.region ?_
  refine SafeOps.quiet0 E_good rfl rfl rfl (v := V.sl 1 (rws (fun l => [V.sl 3 (rws api_Instr.cells l)]) a0_6263)) (.fn rfl) ?_
  refine SafeOps.quiet0 E_good rfl rfl rfl (v := V.int .i64 (a0_6263.length : Int)) (.fnE rfl lenE) ?_
  refine SafeOps.quiet0 E_good rfl rfl rfl (v := V.int .i64 0) (.fn rfl) ?_
  refine SafeOps.nil ?_
  repeat (first | refine Safe.seq ?_ | refine Safe.skip ?_ | with_reducible refine thenQ.n ?_ | with_reducible refine blockQ.n ?_)
  refine Safe.block ?_
  repeat (first | refine Safe.seq ?_ | refine Safe.skip ?_ | with_reducible refine thenQ.n ?_ | with_reducible refine blockQ.n ?_)
  refine Safe.loopW (fun (v7_6284 : Int) => ⟨Tryd.f10.ntmps, [(0, V.sl 1 (rws (fun l => [V.sl 3 (rws api_Instr.cells l)]) a0_6263)), (5, V.sl 1 (rws (fun l => [V.sl 3 (rws api_Instr.cells l)]) a0_6263)), (6, V.int .i64 (a0_6263.length : Int)), (7, V.int .i64 v7_6284)], [], [], []⟩) h (.cov ⟨rfl, rfl, (upT_cons (.refl _) (upT_cons (.refl _) (upT_cons (.refl _) (upT_cons (.refl _) upT_nil)))), upOb_nil, upOut_nil, rfl⟩) ?_
  intro v7_6284 ohr6285 h hr6285
  replace h : go_ravelref04_Few_s1 a0_6263 v7_6284 = some ohr6285 := h
  rw [go_ravelref04_Few_s1] at h
  repeat (first | refine Safe.seq ?_ | refine Safe.skip ?_ | with_reducible refine thenQ.n ?_ | with_reducible refine blockQ.n ?_)
  refine Safe.region ?_
  refine SafeOps.quiet0 E_good rfl rfl rfl (v := V.bool (decide (v7_6284 < (a0_6263.length : Int)))) (.fn rfl) ?_
  refine SafeOps.nil ?_
  repeat (first | refine Safe.seq ?_ | refine Safe.skip ?_ | with_reducible refine thenQ.n ?_ | with_reducible refine blockQ.n ?_)
  refine ifG h (fun hc6286 h => ?_) (fun hc6286 h => ?_)
  · skip
    refine Safe.condK rfl hc6286 ?_
    repeat (first | refine Safe.seq ?_ | refine Safe.skip ?_ | with_reducible refine thenQ.n ?_ | with_reducible refine blockQ.n ?_)
    refine Safe.block ?_
    repeat (first | refine Safe.seq ?_ | refine Safe.skip ?_ | with_reducible refine thenQ.n ?_ | with_reducible refine blockQ.n ?_)
    refine Safe.region ?_
    refine okG h (fun hb6287 h => ?_)
    refine SafeOps.quiet0 E_good rfl rfl rfl (v := V.spt 1 (rws (fun l => [V.sl 3 (rws api_Instr.cells l)]) a0_6263) (Int.toNat v7_6284) 0) (.idxSlM (f := (fun l => [V.sl 3 (rws api_Instr.cells l)])) rfl rfl rfl rfl rfl hb6287) ?_
    refine SafeOps.quiet0 E_good rfl rfl rfl (v := V.sl 3 (rws api_Instr.cells (gt a0_6263 v7_6284))) (.load rfl rfl (.sptM (f := (fun l => [V.sl 3 (rws api_Instr.cells l)])) hb6287 rfl) rfl) ?_
    refine SafeOps.quiet0 E_good rfl rfl rfl (v := V.sl 3 (rws api_Instr.cells (gt a0_6263 v7_6284))) (.fn rfl) ?_
    refine SafeOps.nil ?_
    repeat (first | refine Safe.seq ?_ | refine Safe.skip ?_ | with_reducible refine thenQ.n ?_ | with_reducible refine blockQ.n ?_)
    refine Safe.region ?_
    refine SafeOps.quiet0 E_good rfl rfl rfl (v := V.sl 3 (rws api_Instr.cells (gt a0_6263 v7_6284))) (.fn rfl) ?_
    refine SafeOps.quiet0 E_good rfl rfl rfl (v := V.int .i64 ((gt a0_6263 v7_6284).length : Int)) (.fnE rfl lenE) ?_
    refine SafeOps.quiet0 E_good rfl rfl rfl (v := V.bool (decide (((gt a0_6263 v7_6284).length : Int) > 100))) (.fn rfl) ?_
    refine SafeOps.nil ?_
    repeat (first | refine Safe.seq ?_ | refine Safe.skip ?_ | with_reducible refine thenQ.n ?_ | with_reducible refine blockQ.n ?_)
    refine ifG h (fun hc6288 h => ?_) (fun hc6288 h => ?_)
    · skip
      refine Safe.condK rfl hc6288 ?_
      repeat (first | refine Safe.seq ?_ | refine Safe.skip ?_ | with_reducible refine thenQ.n ?_ | with_reducible refine blockQ.n ?_)
      refine Safe.region ?_
      refine SafeOps.quiet0 E_good rfl rfl rfl (v := V.bool false) (.fn rfl) ?_
      refine SafeOps.nil ?_
      repeat (first | refine Safe.seq ?_ | refine Safe.skip ?_ | with_reducible refine thenQ.n ?_ | with_reducible refine blockQ.n ?_)
      refine Safe.ret ?_
      repeat (first | with_reducible refine thenQ.r ?_ | with_reducible refine blockQ.r ?_)
      replace h := inr_out h hr6285
      obtain rfl := Option.some.inj h
      exact retQ.gen (vs := [V.bool false]) rfl (.tmp (v := V.bool false) rfl .nil) (.free rfl) (by simp) (.inr rfl)
    · skip
      refine Safe.condN rfl hc6288 ?_
      repeat (first | refine Safe.seq ?_ | refine Safe.skip ?_ | with_reducible refine thenQ.n ?_ | with_reducible refine blockQ.n ?_)
      refine Safe.region ?_
      refine SafeOps.quiet0 E_good rfl rfl rfl (v := V.int .i64 (IntKind.i64.wrap (v7_6284 + 1))) (.fn rfl) ?_
      refine SafeOps.quiet0 E_good rfl rfl rfl (v := V.int .i64 (IntKind.i64.wrap (v7_6284 + 1))) (.fn rfl) ?_
      refine SafeOps.nil ?_
      repeat (first | refine Safe.seq ?_ | refine Safe.skip ?_ | with_reducible refine thenQ.n ?_ | with_reducible refine blockQ.n ?_)
      exact ⟨_, next_out h, (.cov ⟨rfl, rfl, (upT_cons (.refl _) (upT_cons (.refl _) (upT_cons (.refl _) (upT_cons (.refl _) upT_nil)))), upOb_nil, upOut_nil, rfl⟩)⟩
  · skip
    refine Safe.condN rfl hc6286 ?_
    repeat (first | refine Safe.seq ?_ | refine Safe.skip ?_ | with_reducible refine thenQ.n ?_ | with_reducible refine blockQ.n ?_)
    refine Safe.exit ?_
    repeat (first | with_reducible refine thenQ.e ?_ | with_reducible refine blockQ.x rfl ?_ | with_reducible refine blockQ.y rfl ?_)
    replace h := inr_out h hr6285
    repeat (first | refine Safe.seq ?_ | refine Safe.skip ?_ | with_reducible refine thenQ.n ?_ | with_reducible refine blockQ.n ?_)
    refine Safe.region ?_
    refine SafeOps.quiet0 E_good rfl rfl rfl (v := V.sl 1 (rws (fun l => [V.sl 3 (rws api_Instr.cells l)]) a0_6263)) (.fn rfl) ?_
    refine SafeOps.quiet0 E_good rfl rfl rfl (v := V.int .i64 (a0_6263.length : Int)) (.fnE rfl lenE) ?_
    refine SafeOps.quiet0 E_good rfl rfl rfl (v := V.bool (decide ((a0_6263.length : Int) ≤ 100))) (.fn rfl) ?_
    refine SafeOps.quiet0 E_good rfl rfl rfl (v := V.bool (decide ((a0_6263.length : Int) ≤ 100))) (.fn rfl) ?_
    refine SafeOps.nil ?_
    repeat (first | refine Safe.seq ?_ | refine Safe.skip ?_ | with_reducible refine thenQ.n ?_ | with_reducible refine blockQ.n ?_)
    refine Safe.ret ?_
    repeat (first | with_reducible refine thenQ.r ?_ | with_reducible refine blockQ.r ?_)
    obtain rfl := Option.some.inj h
    exact retQ.gen (vs := [V.bool (decide ((a0_6263.length : Int) ≤ 100))]) rfl (.tmp (v := V.bool (decide ((a0_6263.length : Int) ≤ 100))) rfl .nil) (.free rfl) (by simp) (.inr rfl)

noncomputable def go_ravellaw18_TracePrefix (a0_1 : List (List api_Instr)) (a1_2 : List api_Event) (a2_3 : Int) : Option Bool :=
  (go_ravellaw18_live).bind fun x_6310 =>
  (go_ravelref04_Few a0_1).bind fun x_6312 =>
  if ((!x_6312) || (decide ((a1_2.length : Int) > 200))) = true then
    some x_6310
  else
    if (IntKind.i64.wrap ((a1_2.length : Int) + 1)) ≠ 0 then
      if (IntKind.i64.wrap ((a1_2.length : Int) + 1)) ≠ 0 then
        (go_trace_Check a0_1 a1_2).bind fun (x_6318, x_6319) =>
        if 0 ≤ (Int.tmod (IntKind.i64.wrap ((IntKind.i64.wrap ((Int.tmod a2_3 (IntKind.i64.wrap ((a1_2.length : Int) + 1))) + (a1_2.length : Int))) + 1)) (IntKind.i64.wrap ((a1_2.length : Int) + 1))) ∧ (Int.tmod (IntKind.i64.wrap ((IntKind.i64.wrap ((Int.tmod a2_3 (IntKind.i64.wrap ((a1_2.length : Int) + 1))) + (a1_2.length : Int))) + 1)) (IntKind.i64.wrap ((a1_2.length : Int) + 1))) ≤ (a1_2.length : Int) then
          (go_trace_Check a0_1 (sub a1_2 0 (Int.tmod (IntKind.i64.wrap ((IntKind.i64.wrap ((Int.tmod a2_3 (IntKind.i64.wrap ((a1_2.length : Int) + 1))) + (a1_2.length : Int))) + 1)) (IntKind.i64.wrap ((a1_2.length : Int) + 1))))).bind fun (x_6322, x_6323) =>
          if ((x_6310 && (x_6319 == x_6323)) && ((x_6319 != 0) || (x_6322 == (if (Int.tmod (IntKind.i64.wrap ((IntKind.i64.wrap ((Int.tmod a2_3 (IntKind.i64.wrap ((a1_2.length : Int) + 1))) + (a1_2.length : Int))) + 1)) (IntKind.i64.wrap ((a1_2.length : Int) + 1))) < x_6318 then Int.tmod (IntKind.i64.wrap ((IntKind.i64.wrap ((Int.tmod a2_3 (IntKind.i64.wrap ((a1_2.length : Int) + 1))) + (a1_2.length : Int))) + 1)) (IntKind.i64.wrap ((a1_2.length : Int) + 1)) else x_6318)))) = true then
            (go_code_CheckAll a0_1).bind fun x_6331 =>
            some ((x_6319 == 0) == (x_6331 == 0))
          else
            some false
        else none
      else none
    else none

theorem go_ravellaw18_TracePrefix_sc (a0_1 : List (List api_Instr)) (a1_2 : List api_Event) (a2_3 : Int) (r : Bool) (h : go_ravellaw18_TracePrefix a0_1 a1_2 a2_3 = some r) : SC Tryd.prog gl 3 [V.sl 1 (rws (fun l => [V.sl 3 (rws api_Instr.cells l)]) a0_1), V.sl 3 (rws api_Event.cells a1_2), V.int .i64 a2_3] (V.bool r) := by
  rw [go_ravellaw18_TracePrefix] at h
  refine SC.of E_good Tryd.func3 rfl (fun _ _ => Tryd.call3 _ _) rfl ?_
  repeat (first | refine Safe.seq ?_ | refine Safe.skip ?_ | with_reducible refine thenQ.n ?_ | with_reducible refine blockQ.n ?_)
  refine Safe.region ?_
  refine SafeOps.quiet0 E_good rfl rfl rfl (v := V.bool false) (.fn rfl) ?_
  refine SafeOps.nil ?_
  repeat (first | refine Safe.seq ?_ | refine Safe.skip ?_ | with_reducible refine thenQ.n ?_ | with_reducible refine blockQ.n ?_)
  refine Safe.region ?_
  refine bindG h ?_
  intro x_6310 he6311 h
  refine SafeOps.quiet0 E_good rfl rfl rfl (v := V.bool x_6310) (.callP rfl rfl (go_ravellaw18_live_sc  _ he6311) rfl) ?_
  refine SafeOps.quiet0 E_good rfl rfl rfl (v := V.bool x_6310) (.fn rfl) ?_
  refine SafeOps.nil ?_
  repeat (first | refine Safe.seq ?_ | refine Safe.skip ?_ | with_reducible refine thenQ.n ?_ | with_reducible refine blockQ.n ?_)
  refine Safe.region ?_
  refine SafeOps.quiet0 E_good rfl rfl rfl (v := V.sl 1 (rws (fun l => [V.sl 3 (rws api_Instr.cells l)]) a0_1)) (.fn rfl) ?_
  refine bindG h ?_
  intro x_6312 he6313 h
  refine SafeOps.quiet0 E_good rfl rfl rfl (v := V.bool x_6312) (.callP rfl rfl (go_ravelref04_Few_sc a0_1 _ he6313) rfl) ?_
  refine SafeOps.quiet0 E_good rfl rfl rfl (v := V.bool (!x_6312)) (.fn rfl) ?_
  refine SafeOps.quiet0 E_good rfl rfl rfl (v := V.bool (!x_6312)) (.fn rfl) ?_
  refine SafeOps.bjoin 4 20 (b := ((!x_6312) || (decide ((a1_2.length : Int) > 200)))) (b1 := true) (b0 := decide ((a1_2.length : Int) > 200)) (fun hc6314 K => ?_) (fun hc6314 K => ?_) bj_or ?_
  · skip
    refine SafeOps.skip (congrArg (fun b => some (!b)) hc6314) rfl rfl ?_
    refine SafeOps.skip (congrArg (fun b => some (!b)) hc6314) rfl rfl ?_
    refine SafeOps.skip (congrArg (fun b => some (!b)) hc6314) rfl rfl ?_
    refine SafeOps.quiet0 E_good rfl rfl rfl (v := V.bool true) (.pickK rfl hc6314 rfl) ?_
    exact SafeOps.drop' 4 rfl rfl rfl K
  · skip
    refine SafeOps.quiet0 E_good (congrArg (fun b => some (!b)) hc6314) rfl rfl (v := V.sl 3 (rws api_Event.cells a1_2)) (.fn rfl) ?_
    refine SafeOps.quiet0 E_good (congrArg (fun b => some (!b)) hc6314) rfl rfl (v := V.int .i64 (a1_2.length : Int)) (.fnE rfl lenE) ?_
    refine SafeOps.quiet0 E_good (congrArg (fun b => some (!b)) hc6314) rfl rfl (v := V.bool (decide ((a1_2.length : Int) > 200))) (.fn rfl) ?_
    refine SafeOps.quiet0 E_good rfl rfl rfl (v := V.bool (decide ((a1_2.length : Int) > 200))) (.pickK rfl hc6314 rfl) ?_
    exact SafeOps.drop' 4 rfl rfl rfl K
  refine SafeOps.nil ?_
  repeat (first | refine Safe.seq ?_ | refine Safe.skip ?_ | with_reducible refine thenQ.n ?_ | with_reducible refine blockQ.n ?_)
  refine ifG h (fun hc6315 h => ?_) (fun hc6315 h => ?_)
  · skip
    refine Safe.condK rfl hc6315 ?_
    repeat (first | refine Safe.seq ?_ | refine Safe.skip ?_ | with_reducible refine thenQ.n ?_ | with_reducible refine blockQ.n ?_)
    refine Safe.region ?_
    refine SafeOps.quiet0 E_good rfl rfl rfl (v := V.bool x_6310) (.fn rfl) ?_
    refine SafeOps.quiet0 E_good rfl rfl rfl (v := V.bool x_6310) (.fn rfl) ?_
    refine SafeOps.nil ?_
    repeat (first | refine Safe.seq ?_ | refine Safe.skip ?_ | with_reducible refine thenQ.n ?_ | with_reducible refine blockQ.n ?_)
    refine Safe.ret ?_
    repeat (first | with_reducible refine thenQ.r ?_ | with_reducible refine blockQ.r ?_)
    obtain rfl := Option.some.inj h
    exact retQ.gen (vs := [V.bool x_6310]) rfl (.tmp (v := V.bool x_6310) rfl .nil) (.free rfl) (by simp) (.inr rfl)
  · skip
    refine Safe.condN rfl hc6315 ?_
    repeat (first | refine Safe.seq ?_ | refine Safe.skip ?_ | with_reducible refine thenQ.n ?_ | with_reducible refine blockQ.n ?_)
    refine Safe.region ?_
    refine SafeOps.quiet0 E_good rfl rfl rfl (v := V.int .i64 a2_3) (.fn rfl) ?_
    refine SafeOps.quiet0 E_good rfl rfl rfl (v := V.sl 3 (rws api_Event.cells a1_2)) (.fn rfl) ?_
    refine SafeOps.quiet0 E_good rfl rfl rfl (v := V.int .i64 (a1_2.length : Int)) (.fnE rfl lenE) ?_
    refine SafeOps.quiet0 E_good rfl rfl rfl (v := V.int .i64 (IntKind.i64.wrap ((a1_2.length : Int) + 1))) (.fn rfl) ?_
    refine okG h (fun hb6316 h => ?_)
    refine SafeOps.quiet0 E_good rfl rfl rfl (v := V.int .i64 (Int.tmod a2_3 (IntKind.i64.wrap ((a1_2.length : Int) + 1)))) (.remV rfl rfl hb6316) ?_
    refine SafeOps.quiet0 E_good rfl rfl rfl (v := V.sl 3 (rws api_Event.cells a1_2)) (.fn rfl) ?_
    refine SafeOps.quiet0 E_good rfl rfl rfl (v := V.int .i64 (a1_2.length : Int)) (.fnE rfl lenE) ?_
    refine SafeOps.quiet0 E_good rfl rfl rfl (v := V.int .i64 (IntKind.i64.wrap ((Int.tmod a2_3 (IntKind.i64.wrap ((a1_2.length : Int) + 1))) + (a1_2.length : Int)))) (.fn rfl) ?_
    refine SafeOps.quiet0 E_good rfl rfl rfl (v := V.int .i64 (IntKind.i64.wrap ((IntKind.i64.wrap ((Int.tmod a2_3 (IntKind.i64.wrap ((a1_2.length : Int) + 1))) + (a1_2.length : Int))) + 1))) (.fn rfl) ?_
    refine SafeOps.quiet0 E_good rfl rfl rfl (v := V.sl 3 (rws api_Event.cells a1_2)) (.fn rfl) ?_
    refine SafeOps.quiet0 E_good rfl rfl rfl (v := V.int .i64 (a1_2.length : Int)) (.fnE rfl lenE) ?_
    refine SafeOps.quiet0 E_good rfl rfl rfl (v := V.int .i64 (IntKind.i64.wrap ((a1_2.length : Int) + 1))) (.fn rfl) ?_
    refine okG h (fun hb6317 h => ?_)
    refine SafeOps.quiet0 E_good rfl rfl rfl (v := V.int .i64 (Int.tmod (IntKind.i64.wrap ((IntKind.i64.wrap ((Int.tmod a2_3 (IntKind.i64.wrap ((a1_2.length : Int) + 1))) + (a1_2.length : Int))) + 1)) (IntKind.i64.wrap ((a1_2.length : Int) + 1)))) (.remV rfl rfl hb6317) ?_
    refine SafeOps.quiet0 E_good rfl rfl rfl (v := V.int .i64 (Int.tmod (IntKind.i64.wrap ((IntKind.i64.wrap ((Int.tmod a2_3 (IntKind.i64.wrap ((a1_2.length : Int) + 1))) + (a1_2.length : Int))) + 1)) (IntKind.i64.wrap ((a1_2.length : Int) + 1)))) (.fn rfl) ?_
    refine SafeOps.nil ?_
    repeat (first | refine Safe.seq ?_ | refine Safe.skip ?_ | with_reducible refine thenQ.n ?_ | with_reducible refine blockQ.n ?_)
    refine Safe.region ?_
    refine SafeOps.quiet0 E_good rfl rfl rfl (v := V.sl 1 (rws (fun l => [V.sl 3 (rws api_Instr.cells l)]) a0_1)) (.fn rfl) ?_
    refine SafeOps.quiet0 E_good rfl rfl rfl (v := V.sl 3 (rws api_Event.cells a1_2)) (.fn rfl) ?_
    refine bindG h ?_
    rintro ⟨x_6318, x_6319⟩ he6320 h
    refine SafeOps.quiet0 E_good rfl rfl rfl (v := V.tup [V.int .i64 x_6318, V.int .i64 x_6319]) (.callP rfl rfl (go_trace_Check_sc a0_1 a1_2 _ he6320) rfl) ?_
    refine SafeOps.quiet0 E_good rfl rfl rfl (v := V.tup [V.int .i64 x_6318, V.int .i64 x_6319]) (.fn rfl) ?_
    refine SafeOps.quiet0 E_good rfl rfl rfl (v := V.int .i64 x_6318) (.fn rfl) ?_
    refine SafeOps.quiet0 E_good rfl rfl rfl (v := V.int .i64 x_6319) (.fn rfl) ?_
    refine SafeOps.quiet0 E_good rfl rfl rfl (v := V.int .i64 x_6318) (.fn rfl) ?_
    refine SafeOps.quiet0 E_good rfl rfl rfl (v := V.int .i64 x_6319) (.fn rfl) ?_
    refine SafeOps.nil ?_
    repeat (first | refine Safe.seq ?_ | refine Safe.skip ?_ | with_reducible refine thenQ.n ?_ | with_reducible refine blockQ.n ?_)
    refine Safe.region ?_
    refine SafeOps.quiet0 E_good rfl rfl rfl (v := V.sl 1 (rws (fun l => [V.sl 3 (rws api_Instr.cells l)]) a0_1)) (.fn rfl) ?_
    refine SafeOps.quiet0 E_good rfl rfl rfl (v := V.sl 3 (rws api_Event.cells a1_2)) (.fn rfl) ?_
    refine SafeOps.quiet0 E_good rfl rfl rfl (v := V.int .i64 (Int.tmod (IntKind.i64.wrap ((IntKind.i64.wrap ((Int.tmod a2_3 (IntKind.i64.wrap ((a1_2.length : Int) + 1))) + (a1_2.length : Int))) + 1)) (IntKind.i64.wrap ((a1_2.length : Int) + 1)))) (.fn rfl) ?_
    refine okG h (fun hb6321 h => ?_)
    refine SafeOps.quiet0 E_good rfl rfl rfl (v := V.sl 3 (rws api_Event.cells (sub a1_2 0 (Int.tmod (IntKind.i64.wrap ((IntKind.i64.wrap ((Int.tmod a2_3 (IntKind.i64.wrap ((a1_2.length : Int) + 1))) + (a1_2.length : Int))) + 1)) (IntKind.i64.wrap ((a1_2.length : Int) + 1)))))) (.slH (f := api_Event.cells) rfl rfl rfl rfl rfl hb6321) ?_
    refine bindG h ?_
    rintro ⟨x_6322, x_6323⟩ he6324 h
    refine SafeOps.quiet0 E_good rfl rfl rfl (v := V.tup [V.int .i64 x_6322, V.int .i64 x_6323]) (.callP rfl rfl (go_trace_Check_sc a0_1 (sub a1_2 0 (Int.tmod (IntKind.i64.wrap ((IntKind.i64.wrap ((Int.tmod a2_3 (IntKind.i64.wrap ((a1_2.length : Int) + 1))) + (a1_2.length : Int))) + 1)) (IntKind.i64.wrap ((a1_2.length : Int) + 1)))) _ he6324) rfl) ?_
    refine SafeOps.quiet0 E_good rfl rfl rfl (v := V.tup [V.int .i64 x_6322, V.int .i64 x_6323]) (.fn rfl) ?_
    refine SafeOps.quiet0 E_good rfl rfl rfl (v := V.int .i64 x_6322) (.fn rfl) ?_
    refine SafeOps.quiet0 E_good rfl rfl rfl (v := V.int .i64 x_6323) (.fn rfl) ?_
    refine SafeOps.quiet0 E_good rfl rfl rfl (v := V.int .i64 x_6322) (.fn rfl) ?_
    refine SafeOps.quiet0 E_good rfl rfl rfl (v := V.int .i64 x_6323) (.fn rfl) ?_
    refine SafeOps.nil ?_
    repeat (first | refine Safe.seq ?_ | refine Safe.skip ?_ | with_reducible refine thenQ.n ?_ | with_reducible refine blockQ.n ?_)
    refine Safe.region ?_
    refine SafeOps.quiet0 E_good rfl rfl rfl (v := V.bool x_6310) (.fn rfl) ?_
    refine SafeOps.quiet0 E_good rfl rfl rfl (v := V.bool x_6310) (.fn rfl) ?_
    refine SafeOps.bjoin 4 54 (b := (x_6310 && (x_6319 == x_6323))) (b1 := (x_6319 == x_6323)) (b0 := false) (fun hc6325 K => ?_) (fun hc6325 K => ?_) bj_and ?_
    · skip
      refine SafeOps.quiet0 E_good (congrArg some hc6325) rfl rfl (v := V.int .i64 x_6319) (.fn rfl) ?_
      refine SafeOps.quiet0 E_good (congrArg some hc6325) rfl rfl (v := V.int .i64 x_6323) (.fn rfl) ?_
      refine SafeOps.quiet0 E_good (congrArg some hc6325) rfl rfl (v := V.bool (x_6319 == x_6323)) (.fn rfl) ?_
      refine SafeOps.quiet0 E_good rfl rfl rfl (v := V.bool (x_6319 == x_6323)) (.pickK rfl hc6325 rfl) ?_
      exact SafeOps.drop' 4 rfl rfl rfl K
    · skip
      refine SafeOps.skip (congrArg some hc6325) rfl rfl ?_
      refine SafeOps.skip (congrArg some hc6325) rfl rfl ?_
      refine SafeOps.skip (congrArg some hc6325) rfl rfl ?_
      refine SafeOps.quiet0 E_good rfl rfl rfl (v := V.bool false) (.pickK rfl hc6325 rfl) ?_
      exact SafeOps.drop' 4 rfl rfl rfl K
    refine SafeOps.quiet0 E_good rfl rfl rfl (v := V.bool (x_6310 && (x_6319 == x_6323))) (.fn rfl) ?_
    refine SafeOps.bjoin 10 65 (b := ((x_6310 && (x_6319 == x_6323)) && ((x_6319 != 0) || (x_6322 == (if (Int.tmod (IntKind.i64.wrap ((IntKind.i64.wrap ((Int.tmod a2_3 (IntKind.i64.wrap ((a1_2.length : Int) + 1))) + (a1_2.length : Int))) + 1)) (IntKind.i64.wrap ((a1_2.length : Int) + 1))) < x_6318 then Int.tmod (IntKind.i64.wrap ((IntKind.i64.wrap ((Int.tmod a2_3 (IntKind.i64.wrap ((a1_2.length : Int) + 1))) + (a1_2.length : Int))) + 1)) (IntKind.i64.wrap ((a1_2.length : Int) + 1)) else x_6318))))) (b1 := ((x_6319 != 0) || (x_6322 == (if (Int.tmod (IntKind.i64.wrap ((IntKind.i64.wrap ((Int.tmod a2_3 (IntKind.i64.wrap ((a1_2.length : Int) + 1))) + (a1_2.length : Int))) + 1)) (IntKind.i64.wrap ((a1_2.length : Int) + 1))) < x_6318 then Int.tmod (IntKind.i64.wrap ((IntKind.i64.wrap ((Int.tmod a2_3 (IntKind.i64.wrap ((a1_2.length : Int) + 1))) + (a1_2.length : Int))) + 1)) (IntKind.i64.wrap ((a1_2.length : Int) + 1)) else x_6318)))) (b0 := false) (fun hc6326 K => ?_) (fun hc6326 K => ?_) bj_and ?_
    · skip
      refine SafeOps.quiet0 E_good (congrArg some hc6326) rfl rfl (v := V.int .i64 x_6319) (.fn rfl) ?_
      refine SafeOps.quiet0 E_good (congrArg some hc6326) rfl rfl (v := V.bool (x_6319 != 0)) (.fn rfl) ?_
      refine SafeOps.quiet0 E_good (congrArg some hc6326) rfl rfl (v := V.bool (x_6319 != 0)) (.fn rfl) ?_
      refine SafeOps.bjoin 6 64 (b := ((x_6319 != 0) || (x_6322 == (if (Int.tmod (IntKind.i64.wrap ((IntKind.i64.wrap ((Int.tmod a2_3 (IntKind.i64.wrap ((a1_2.length : Int) + 1))) + (a1_2.length : Int))) + 1)) (IntKind.i64.wrap ((a1_2.length : Int) + 1))) < x_6318 then Int.tmod (IntKind.i64.wrap ((IntKind.i64.wrap ((Int.tmod a2_3 (IntKind.i64.wrap ((a1_2.length : Int) + 1))) + (a1_2.length : Int))) + 1)) (IntKind.i64.wrap ((a1_2.length : Int) + 1)) else x_6318)))) (b1 := true) (b0 := (x_6322 == (if (Int.tmod (IntKind.i64.wrap ((IntKind.i64.wrap ((Int.tmod a2_3 (IntKind.i64.wrap ((a1_2.length : Int) + 1))) + (a1_2.length : Int))) + 1)) (IntKind.i64.wrap ((a1_2.length : Int) + 1))) < x_6318 then Int.tmod (IntKind.i64.wrap ((IntKind.i64.wrap ((Int.tmod a2_3 (IntKind.i64.wrap ((a1_2.length : Int) + 1))) + (a1_2.length : Int))) + 1)) (IntKind.i64.wrap ((a1_2.length : Int) + 1)) else x_6318))) (fun hc6327 K => ?_) (fun hc6327 K => ?_) bj_or ?_
      · skip
        refine SafeOps.skip (congrArg (fun b => some (!b)) hc6327) rfl rfl ?_
        refine SafeOps.skip (congrArg (fun b => some (!b)) hc6327) rfl rfl ?_
        refine SafeOps.skip (congrArg (fun b => some (!b)) hc6327) rfl rfl ?_
        refine SafeOps.skip (congrArg (fun b => some (!b)) hc6327) rfl rfl ?_
        refine SafeOps.skip (congrArg (fun b => some (!b)) hc6327) rfl rfl ?_
        refine SafeOps.quiet0 E_good (congrArg some hc6326) rfl rfl (v := V.bool true) (.pickK rfl hc6327 rfl) ?_
        exact SafeOps.drop' 6 rfl rfl rfl K
      · skip
        refine SafeOps.quiet0 E_good (congrArg (fun b => some (!b)) hc6327) rfl rfl (v := V.int .i64 x_6322) (.fn rfl) ?_
        refine SafeOps.quiet0 E_good (congrArg (fun b => some (!b)) hc6327) rfl rfl (v := V.int .i64 x_6318) (.fn rfl) ?_
        refine SafeOps.quiet0 E_good (congrArg (fun b => some (!b)) hc6327) rfl rfl (v := V.int .i64 (Int.tmod (IntKind.i64.wrap ((IntKind.i64.wrap ((Int.tmod a2_3 (IntKind.i64.wrap ((a1_2.length : Int) + 1))) + (a1_2.length : Int))) + 1)) (IntKind.i64.wrap ((a1_2.length : Int) + 1)))) (.fn rfl) ?_
        refine SafeOps.quiet0 E_good (congrArg (fun b => some (!b)) hc6327) rfl rfl (v := V.int .i64 (if (Int.tmod (IntKind.i64.wrap ((IntKind.i64.wrap ((Int.tmod a2_3 (IntKind.i64.wrap ((a1_2.length : Int) + 1))) + (a1_2.length : Int))) + 1)) (IntKind.i64.wrap ((a1_2.length : Int) + 1))) < x_6318 then Int.tmod (IntKind.i64.wrap ((IntKind.i64.wrap ((Int.tmod a2_3 (IntKind.i64.wrap ((a1_2.length : Int) + 1))) + (a1_2.length : Int))) + 1)) (IntKind.i64.wrap ((a1_2.length : Int) + 1)) else x_6318)) (.fn rfl) ?_
        refine SafeOps.quiet0 E_good (congrArg (fun b => some (!b)) hc6327) rfl rfl (v := V.bool (x_6322 == (if (Int.tmod (IntKind.i64.wrap ((IntKind.i64.wrap ((Int.tmod a2_3 (IntKind.i64.wrap ((a1_2.length : Int) + 1))) + (a1_2.length : Int))) + 1)) (IntKind.i64.wrap ((a1_2.length : Int) + 1))) < x_6318 then Int.tmod (IntKind.i64.wrap ((IntKind.i64.wrap ((Int.tmod a2_3 (IntKind.i64.wrap ((a1_2.length : Int) + 1))) + (a1_2.length : Int))) + 1)) (IntKind.i64.wrap ((a1_2.length : Int) + 1)) else x_6318))) (.fn rfl) ?_
        refine SafeOps.quiet0 E_good (congrArg some hc6326) rfl rfl (v := V.bool (x_6322 == (if (Int.tmod (IntKind.i64.wrap ((IntKind.i64.wrap ((Int.tmod a2_3 (IntKind.i64.wrap ((a1_2.length : Int) + 1))) + (a1_2.length : Int))) + 1)) (IntKind.i64.wrap ((a1_2.length : Int) + 1))) < x_6318 then Int.tmod (IntKind.i64.wrap ((IntKind.i64.wrap ((Int.tmod a2_3 (IntKind.i64.wrap ((a1_2.length : Int) + 1))) + (a1_2.length : Int))) + 1)) (IntKind.i64.wrap ((a1_2.length : Int) + 1)) else x_6318))) (.pickK rfl hc6327 rfl) ?_
        exact SafeOps.drop' 6 rfl rfl rfl K
      refine SafeOps.quiet0 E_good rfl rfl rfl (v := V.bool ((x_6319 != 0) || (x_6322 == (if (Int.tmod (IntKind.i64.wrap ((IntKind.i64.wrap ((Int.tmod a2_3 (IntKind.i64.wrap ((a1_2.length : Int) + 1))) + (a1_2.length : Int))) + 1)) (IntKind.i64.wrap ((a1_2.length : Int) + 1))) < x_6318 then Int.tmod (IntKind.i64.wrap ((IntKind.i64.wrap ((Int.tmod a2_3 (IntKind.i64.wrap ((a1_2.length : Int) + 1))) + (a1_2.length : Int))) + 1)) (IntKind.i64.wrap ((a1_2.length : Int) + 1)) else x_6318)))) (.pickK rfl hc6326 rfl) ?_
      exact SafeOps.drop' 5 rfl rfl rfl K
    · skip
      refine SafeOps.skip (congrArg some hc6326) rfl rfl ?_
      refine SafeOps.skip (congrArg some hc6326) rfl rfl ?_
      refine SafeOps.skip (congrArg some hc6326) rfl rfl ?_
      refine SafeOps.skip rfl rfl rfl ?_
      refine SafeOps.skip rfl rfl rfl ?_
      refine SafeOps.skip rfl rfl rfl ?_
      refine SafeOps.skip rfl rfl rfl ?_
      refine SafeOps.skip rfl rfl rfl ?_
      refine SafeOps.skip (congrArg some hc6326) rfl rfl ?_
      refine SafeOps.quiet0 E_good rfl rfl rfl (v := V.bool false) (.pickK rfl hc6326 rfl) ?_
      exact SafeOps.drop' 10 rfl rfl rfl K
    refine SafeOps.quiet0 E_good rfl rfl rfl (v := V.bool ((x_6310 && (x_6319 == x_6323)) && ((x_6319 != 0) || (x_6322 == (if (Int.tmod (IntKind.i64.wrap ((IntKind.i64.wrap ((Int.tmod a2_3 (IntKind.i64.wrap ((a1_2.length : Int) + 1))) + (a1_2.length : Int))) + 1)) (IntKind.i64.wrap ((a1_2.length : Int) + 1))) < x_6318 then Int.tmod (IntKind.i64.wrap ((IntKind.i64.wrap ((Int.tmod a2_3 (IntKind.i64.wrap ((a1_2.length : Int) + 1))) + (a1_2.length : Int))) + 1)) (IntKind.i64.wrap ((a1_2.length : Int) + 1)) else x_6318))))) (.fn rfl) ?_
    refine ifG h (fun hc6328 h => ?_) (fun hc6328 h => ?_)
    · skip
      refine SafeOps.quiet0 E_good (congrArg some hc6328) rfl rfl (v := V.int .i64 x_6319) (.fn rfl) ?_
      refine SafeOps.quiet0 E_good (congrArg some hc6328) rfl rfl (v := V.bool (x_6319 == 0)) (.fn rfl) ?_
      refine SafeOps.quiet0 E_good (congrArg some hc6328) rfl rfl (v := V.sl 1 (rws (fun l => [V.sl 3 (rws api_Instr.cells l)]) a0_1)) (.fn rfl) ?_
      refine bindG h ?_
      intro x_6331 he6332 h
      refine SafeOps.quiet0 E_good (congrArg some hc6328) rfl rfl (v := V.int .i64 x_6331) (.callP rfl rfl (go_code_CheckAll_sc a0_1 _ he6332) rfl) ?_
      refine SafeOps.quiet0 E_good (congrArg some hc6328) rfl rfl (v := V.bool (x_6331 == 0)) (.fn rfl) ?_
      refine SafeOps.quiet0 E_good (congrArg some hc6328) rfl rfl (v := V.bool ((x_6319 == 0) == (x_6331 == 0))) (.fn rfl) ?_
      refine SafeOps.quiet0 E_good rfl rfl rfl (v := V.bool ((x_6319 == 0) == (x_6331 == 0))) (.pickK rfl hc6328 rfl) ?_
      refine SafeOps.quiet0 E_good rfl rfl rfl (v := V.bool ((x_6319 == 0) == (x_6331 == 0))) (.fn rfl) ?_
      refine SafeOps.nil ?_
      repeat (first | refine Safe.seq ?_ | refine Safe.skip ?_ | with_reducible refine thenQ.n ?_ | with_reducible refine blockQ.n ?_)
      refine Safe.ret ?_
      repeat (first | with_reducible refine thenQ.r ?_ | with_reducible refine blockQ.r ?_)
      obtain rfl := Option.some.inj h
      exact retQ.gen (vs := [V.bool ((x_6319 == 0) == (x_6331 == 0))]) rfl (.tmp (v := V.bool ((x_6319 == 0) == (x_6331 == 0))) rfl .nil) (.free rfl) (by simp) (.inr rfl)
    · skip
      refine SafeOps.skip (congrArg some hc6328) rfl rfl ?_
      refine SafeOps.skip (congrArg some hc6328) rfl rfl ?_
      refine SafeOps.skip (congrArg some hc6328) rfl rfl ?_
      refine SafeOps.skip (congrArg some hc6328) rfl rfl ?_
      refine SafeOps.skip (congrArg some hc6328) rfl rfl ?_
      refine SafeOps.skip (congrArg some hc6328) rfl rfl ?_
      refine SafeOps.quiet0 E_good rfl rfl rfl (v := V.bool false) (.pickK rfl hc6328 rfl) ?_
      refine SafeOps.quiet0 E_good rfl rfl rfl (v := V.bool false) (.fn rfl) ?_
      refine SafeOps.nil ?_
      repeat (first | refine Safe.seq ?_ | refine Safe.skip ?_ | with_reducible refine thenQ.n ?_ | with_reducible refine blockQ.n ?_)
      refine Safe.ret ?_
      repeat (first | with_reducible refine thenQ.r ?_ | with_reducible refine blockQ.r ?_)
      obtain rfl := Option.some.inj h
      exact retQ.gen (vs := [V.bool false]) rfl (.tmp (v := V.bool false) rfl .nil) (.free rfl) (by simp) (.inr rfl)

def go_ravelref04_in (a0_6679 : Int) (a1_6680 : Int) (a2_6681 : Int) : Bool :=
  ((decide (a0_6679 ≥ a1_6680)) && (decide (a0_6679 ≤ a2_6681)))

def go_ravelref04_may (a0_6678 : api_Instr) : Bool :=
  if (a0_6678.Op == 1) = true then
    ((go_ravelref04_in a0_6678.A 1 100) && (a0_6678.B == 0))
  else
    if (a0_6678.Op == 2) = true then
      ((go_ravelref04_in a0_6678.A 0 15) && (go_ravelref04_in a0_6678.B 0 3))
    else
      if ((a0_6678.Op == 3) || (a0_6678.Op == 9)) = true then
        ((a0_6678.A == 0) && (a0_6678.B == 0))
      else
        if (a0_6678.Op == 4) = true then
          ((go_ravelref04_in a0_6678.A 1 1000) && (a0_6678.B == 0))
        else
          if (a0_6678.Op == 5) = true then
            ((go_ravelref04_in a0_6678.A 0 15) && (a0_6678.B == 0))
          else
            if (a0_6678.Op == 6) = true then
              ((go_ravelref04_in a0_6678.A 0 3) && (a0_6678.B == 0))
            else
              ((((a0_6678.Op == 7) || (a0_6678.Op == 8)) && (go_ravelref04_in a0_6678.A 0 7)) && (a0_6678.B == 0))

end Go.Proofs.YtpkegoikocfchaaDoor
