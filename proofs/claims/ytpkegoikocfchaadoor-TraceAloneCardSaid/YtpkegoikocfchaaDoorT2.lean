/- Helper lemmas for the claim's theorem: an abstract machine over the model, proved sound; no condition beyond each lemma's own. -/
import Derived.Test.YtpkegoikocfchaaDoorT1
set_option linter.unusedVariables false
set_option linter.unusedSimpArgs false
set_option linter.unnecessarySimpa false
set_option linter.unusedSectionVars false
namespace Go.Proofs.YtpkegoikocfchaaDoor
open Go Go.AM
set_option maxRecDepth 100000
set_option maxHeartbeats 1000000
set_option linter.unusedVariables false
set_option linter.unusedSimpArgs false
noncomputable def go_ravellaw18_live  : Option Bool :=
  (go_trace_Check [[(api_Instr.mk 1 1 0), (api_Instr.mk 9 0 0)]] [(api_Event.mk 1 7 0), (api_Event.mk 2 7 1), (api_Event.mk 2 7 9), (api_Event.mk 5 7 0)]).bind fun (x_6257, x_6258) =>
  some ((x_6258 == 0) && (x_6257 == 4))

theorem go_ravellaw18_live_sc  (r : Bool) (h : go_ravellaw18_live  = some r) : SC Tryd.prog gl 9 [] (V.bool r) := by
  rw [go_ravellaw18_live] at h
  refine SC.of E_good Tryd.func9 rfl (fun _ _ => Tryd.call9 _ _) rfl ?_
  repeat (first | refine Safe.seq ?_ | refine Safe.skip ?_ | with_reducible refine thenQ.n ?_ | with_reducible refine blockQ.n ?_)
  refine Safe.region ?_
  refine SafeOps.quiet0 E_good rfl rfl rfl (v := V.bool false) (.fn rfl) ?_
  refine SafeOps.nil ?_
  repeat (first | refine Safe.seq ?_ | refine Safe.skip ?_ | with_reducible refine thenQ.n ?_ | with_reducible refine blockQ.n ?_)
  refine Safe.region ?_
  refine SafeOps.quiet0 E_good rfl rfl rfl (v := V.agg [V.int .i64 1, V.int .i64 1, V.int .i64 0]) (.fn rfl) ?_
  refine SafeOps.quiet0 E_good rfl rfl rfl (v := V.agg [V.int .i64 9, V.int .i64 0, V.int .i64 0]) (.fn rfl) ?_
  refine SafeOps.quiet1 E_good rfl rfl rfl (.litM (f := api_Instr.cells) (xs := [(api_Instr.mk 1 1 0), (api_Instr.mk 9 0 0)]) rfl rfl (by decide) rfl rfl rfl rfl rfl) rfl ?_
  refine SafeOps.freeze [7] rfl ?_
  refine SafeOps.see 7 (u := V.sl 3 (rws api_Instr.cells [(api_Instr.mk 1 1 0), (api_Instr.mk 9 0 0)])) rfl (.full rfl rfl) ?_
  refine SafeOps.quiet1 E_good rfl rfl rfl (.litM (f := (fun l => [V.sl 3 (rws api_Instr.cells l)])) (xs := [[(api_Instr.mk 1 1 0), (api_Instr.mk 9 0 0)]]) rfl rfl (by decide) rfl rfl rfl rfl rfl) rfl ?_
  refine SafeOps.quiet0 E_good rfl rfl rfl (v := V.ref [8] 0 (rws (fun l => [V.sl 3 (rws api_Instr.cells l)]) [[(api_Instr.mk 1 1 0), (api_Instr.mk 9 0 0)]]).length) (.fn rfl) ?_
  refine SafeOps.nil ?_
  repeat (first | refine Safe.seq ?_ | refine Safe.skip ?_ | with_reducible refine thenQ.n ?_ | with_reducible refine blockQ.n ?_)
  refine Safe.region ?_
  refine SafeOps.quiet0 E_good rfl rfl rfl (v := V.agg [V.int .i64 1, V.int .i64 7, V.int .i64 0]) (.fn rfl) ?_
  refine SafeOps.quiet0 E_good rfl rfl rfl (v := V.agg [V.int .i64 2, V.int .i64 7, V.int .i64 1]) (.fn rfl) ?_
  refine SafeOps.quiet0 E_good rfl rfl rfl (v := V.agg [V.int .i64 2, V.int .i64 7, V.int .i64 9]) (.fn rfl) ?_
  refine SafeOps.quiet0 E_good rfl rfl rfl (v := V.agg [V.int .i64 5, V.int .i64 7, V.int .i64 0]) (.fn rfl) ?_
  refine SafeOps.quiet1 E_good rfl rfl rfl (.litM (f := api_Event.cells) (xs := [(api_Event.mk 1 7 0), (api_Event.mk 2 7 1), (api_Event.mk 2 7 9), (api_Event.mk 5 7 0)]) rfl rfl (by decide) rfl rfl rfl rfl rfl) rfl ?_
  refine SafeOps.quiet0 E_good rfl rfl rfl (v := V.ref [13] 0 (rws api_Event.cells [(api_Event.mk 1 7 0), (api_Event.mk 2 7 1), (api_Event.mk 2 7 9), (api_Event.mk 5 7 0)]).length) (.fn rfl) ?_
  refine SafeOps.nil ?_
  repeat (first | refine Safe.seq ?_ | refine Safe.skip ?_ | with_reducible refine thenQ.n ?_ | with_reducible refine blockQ.n ?_)
  refine Safe.region ?_
  refine SafeOps.quiet0 E_good rfl rfl rfl (v := V.ref [8] 0 (rws (fun l => [V.sl 3 (rws api_Instr.cells l)]) [[(api_Instr.mk 1 1 0), (api_Instr.mk 9 0 0)]]).length) (.fn rfl) ?_
  refine SafeOps.quiet0 E_good rfl rfl rfl (v := V.ref [13] 0 (rws api_Event.cells [(api_Event.mk 1 7 0), (api_Event.mk 2 7 1), (api_Event.mk 2 7 9), (api_Event.mk 5 7 0)]).length) (.fn rfl) ?_
  refine bindG h ?_
  rintro ⟨x_6257, x_6258⟩ he6259 h
  refine SafeOps.quiet0 E_good rfl rfl rfl (v := V.tup [V.int .i64 x_6257, V.int .i64 x_6258]) (.callS rfl (.cons (.full rfl rfl) (.cons (.full rfl rfl) .nil)) (go_trace_Check_sc [[(api_Instr.mk 1 1 0), (api_Instr.mk 9 0 0)]] [(api_Event.mk 1 7 0), (api_Event.mk 2 7 1), (api_Event.mk 2 7 9), (api_Event.mk 5 7 0)] _ he6259) (.tupL (.cons (.plain rfl) (.cons (.plain rfl) .nil))) rfl) ?_
  refine SafeOps.quiet0 E_good rfl rfl rfl (v := V.tup [V.int .i64 x_6257, V.int .i64 x_6258]) (.fn rfl) ?_
  refine SafeOps.quiet0 E_good rfl rfl rfl (v := V.int .i64 x_6257) (.fn rfl) ?_
  refine SafeOps.quiet0 E_good rfl rfl rfl (v := V.int .i64 x_6258) (.fn rfl) ?_
  refine SafeOps.quiet0 E_good rfl rfl rfl (v := V.int .i64 x_6257) (.fn rfl) ?_
  refine SafeOps.quiet0 E_good rfl rfl rfl (v := V.int .i64 x_6258) (.fn rfl) ?_
  refine SafeOps.nil ?_
  repeat (first | refine Safe.seq ?_ | refine Safe.skip ?_ | with_reducible refine thenQ.n ?_ | with_reducible refine blockQ.n ?_)
  refine Safe.region ?_
  refine SafeOps.quiet0 E_good rfl rfl rfl (v := V.int .i64 x_6258) (.fn rfl) ?_
  refine SafeOps.quiet0 E_good rfl rfl rfl (v := V.bool (x_6258 == 0)) (.fn rfl) ?_
  refine SafeOps.quiet0 E_good rfl rfl rfl (v := V.bool (x_6258 == 0)) (.fn rfl) ?_
  refine SafeOps.bjoin 3 25 (b := ((x_6258 == 0) && (x_6257 == 4))) (b1 := (x_6257 == 4)) (b0 := false) (fun hc6260 K => ?_) (fun hc6260 K => ?_) bj_and ?_
  · skip
    refine SafeOps.quiet0 E_good (congrArg some hc6260) rfl rfl (v := V.int .i64 x_6257) (.fn rfl) ?_
    refine SafeOps.quiet0 E_good (congrArg some hc6260) rfl rfl (v := V.bool (x_6257 == 4)) (.fn rfl) ?_
    refine SafeOps.quiet0 E_good rfl rfl rfl (v := V.bool (x_6257 == 4)) (.pickK rfl hc6260 rfl) ?_
    exact SafeOps.drop' 3 rfl rfl rfl K
  · skip
    refine SafeOps.skip (congrArg some hc6260) rfl rfl ?_
    refine SafeOps.skip (congrArg some hc6260) rfl rfl ?_
    refine SafeOps.quiet0 E_good rfl rfl rfl (v := V.bool false) (.pickK rfl hc6260 rfl) ?_
    exact SafeOps.drop' 3 rfl rfl rfl K
  refine SafeOps.quiet0 E_good rfl rfl rfl (v := V.bool ((x_6258 == 0) && (x_6257 == 4))) (.fn rfl) ?_
  refine SafeOps.nil ?_
  repeat (first | refine Safe.seq ?_ | refine Safe.skip ?_ | with_reducible refine thenQ.n ?_ | with_reducible refine blockQ.n ?_)
  refine Safe.ret ?_
  repeat (first | with_reducible refine thenQ.r ?_ | with_reducible refine blockQ.r ?_)
  obtain rfl := Option.some.inj h
  exact retQ.gen (vs := [V.bool ((x_6258 == 0) && (x_6257 == 4))]) rfl (.tmp (v := V.bool ((x_6258 == 0) && (x_6257 == 4))) rfl .nil) (.free rfl) (by simp) (.inr rfl)

noncomputable def go_ravelref04_Few_s1 (a0_6263 : List (List api_Instr)) : (Int) → Option ((Int) ⊕ (Bool))
  | v7_6284 =>
    if (decide (v7_6284 < (a0_6263.length : Int))) = true then
      if 0 ≤ v7_6284 ∧ v7_6284 < (a0_6263.length : Int) then
        if (decide (((gt a0_6263 v7_6284).length : Int) > 100)) = true then
          inrO (
            some false)
        else
          nextO (IntKind.i64.wrap (v7_6284 + 1))
      else none
    else
      inrO (
        some (decide ((a0_6263.length : Int) ≤ 100)))

noncomputable def go_ravelref04_Few (a0_6263 : List (List api_Instr)) : Option Bool :=
  whileO (go_ravelref04_Few_s1 a0_6263) 0

theorem go_ravelref04_Few_sc (a0_6263 : List (List api_Instr)) (r : Bool) (h : go_ravelref04_Few a0_6263 = some r) : SC Tryd.prog gl 10 [V.sl 1 (rws (fun l => [V.sl 3 (rws api_Instr.cells l)]) a0_6263)] (V.bool r) := by
  rw [go_ravelref04_Few] at h
  refine SC.of E_good Tryd.func10 rfl (fun _ _ => Tryd.call10 _ _) rfl ?_
  repeat (first | refine Safe.seq ?_ | refine Safe.skip ?_ | with_reducible refine thenQ.n ?_ | with_reducible refine blockQ.n ?_)
  refine Safe.region ?_
  refine SafeOps.quiet0 E_good rfl rfl rfl (v := V.bool false) (.fn rfl) ?_
  refine SafeOps.nil ?_
  repeat (first | refine Safe.seq ?_ | refine Safe.skip ?_ | with_reducible refine thenQ.n ?_ | with_reducible refine blockQ.n ?_)
  refine Safe.region ?_
  refine SafeOps.quiet0 E_good rfl rfl rfl (v := V.sl 1 (rws (fun l => [V.sl 3 (rws api_Instr.cells l)]) a0_6263)) (.fn rfl) ?_
  refine SafeOps.quiet0 E_good rfl rfl rfl (v := V.int .i64 (a0_6263.length : Int)) (.fnE rfl lenE) ?_
  refine SafeOps.quiet0 E_good rfl rfl rfl (v := V.int .i64 0) (.fn rfl) ?_
  refine SafeOps.nil ?_
  repeat (first | refine Safe.seq ?_ | refine Safe.skip ?_ | with_reducible refine thenQ.n ?_ | with_reducible refine blockQ.n ?_)
  refine Safe.block ?_
  repeat (first | refine Safe.seq ?_ | refine Safe.skip ?_ | with_reducible refine thenQ.n ?_ | with_reducible refine blockQ.n ?_)
  refine Safe.loopW (fun (v7_6284 : Int) => ⟨Tryd.f10.ntmps, [(0, V.sl 1 (rws (fun l => [V.sl 3 (rws api_Instr.cells l)]) a0_6263)), (5, V.sl 1 (rws (fun l => [V.sl 3 (rws api_Instr.cells l)]) a0_6263)), (6, V.int .i64 (a0_6263.length : Int)), (7, V.int .i64 v7_6284)], [], [], []⟩) h (.cov ⟨rfl, rfl, (upT_cons (.refl _) (upT_cons (.refl _) (upT_cons (.refl _) (upT_cons (.refl _) upT_nil)))), upOb_nil, upOut_nil, rfl⟩) ?_
  intro v7_6284 ohr6285 h hr6285
  replace h : go_ravelref04_Few_s1 a0_6263 v7_6284 = some ohr6285 := h
  rw [go_ravelref04_Few_s1] at h
  repeat (first | refine Safe.seq ?_ | refine Safe.skip ?_ | with_reducible refine thenQ.n ?_ | with_reducible refine blockQ.n ?_)
  refine Safe.region ?_
  refine SafeOps.quiet0 E_good rfl rfl rfl (v := V.bool (decide (v7_6284 < (a0_6263.length : Int)))) (.fn rfl) ?_
  refine SafeOps.nil ?_
  repeat (first | refine Safe.seq ?_ | refine Safe.skip ?_ | with_reducible refine thenQ.n ?_ | with_reducible refine blockQ.n ?_)
  refine ifG h (fun hc6286 h => ?_) (fun hc6286 h => ?_)
  · skip
    refine Safe.condK rfl hc6286 ?_
    repeat (first | refine Safe.seq ?_ | refine Safe.skip ?_ | with_reducible refine thenQ.n ?_ | with_reducible refine blockQ.n ?_)
    refine Safe.block ?_
    repeat (first | refine Safe.seq ?_ | refine Safe.skip ?_ | with_reducible refine thenQ.n ?_ | with_reducible refine blockQ.n ?_)
    refine Safe.region ?_
    refine okG h (fun hb6287 h => ?_)
    refine SafeOps.quiet0 E_good rfl rfl rfl (v := V.spt 1 (rws (fun l => [V.sl 3 (rws api_Instr.cells l)]) a0_6263) (Int.toNat v7_6284) 0) (.idxSlM (f := (fun l => [V.sl 3 (rws api_Instr.cells l)])) rfl rfl rfl rfl rfl hb6287) ?_
    refine SafeOps.quiet0 E_good rfl rfl rfl (v := V.sl 3 (rws api_Instr.cells (gt a0_6263 v7_6284))) (.load rfl rfl (.sptM (f := (fun l => [V.sl 3 (rws api_Instr.cells l)])) hb6287 rfl) rfl) ?_
    refine SafeOps.quiet0 E_good rfl rfl rfl (v := V.sl 3 (rws api_Instr.cells (gt a0_6263 v7_6284))) (.fn rfl) ?_
    refine SafeOps.nil ?_
    repeat (first | refine Safe.seq ?_ | refine Safe.skip ?_ | with_reducible refine thenQ.n ?_ | with_reducible refine blockQ.n ?_)
    refine Safe.region ?_
    refine SafeOps.quiet0 E_good rfl rfl rfl (v := V.sl 3 (rws api_Instr.cells (gt a0_6263 v7_6284))) (.fn rfl) ?_
    refine SafeOps.quiet0 E_good rfl rfl rfl (v := V.int .i64 ((gt a0_6263 v7_6284).length : Int)) (.fnE rfl lenE) ?_
    refine SafeOps.quiet0 E_good rfl rfl rfl (v := V.bool (decide (((gt a0_6263 v7_6284).length : Int) > 100))) (.fn rfl) ?_
    refine SafeOps.nil ?_
    repeat (first | refine Safe.seq ?_ | refine Safe.skip ?_ | with_reducible refine thenQ.n ?_ | with_reducible refine blockQ.n ?_)
    refine ifG h (fun hc6288 h => ?_) (fun hc6288 h => ?_)
    · skip
      refine Safe.condK rfl hc6288 ?_
      repeat (first | refine Safe.seq ?_ | refine Safe.skip ?_ | with_reducible refine thenQ.n ?_ | with_reducible refine blockQ.n ?_)
      refine Safe.region ?_
      refine SafeOps.quiet0 E_good rfl rfl rfl (v := V.bool false) (.fn rfl) ?_
      refine SafeOps.nil ?_
      repeat (first | refine Safe.seq ?_ | refine Safe.skip ?_ | with_reducible refine thenQ.n ?_ | with_reducible refine blockQ.n ?_)
      refine Safe.ret ?_
      repeat (first | with_reducible refine thenQ.r ?_ | with_reducible refine blockQ.r ?_)
      replace h := inr_out h hr6285
      obtain rfl := Option.some.inj h
      exact retQ.gen (vs := [V.bool false]) rfl (.tmp (v := V.bool false) rfl .nil) (.free rfl) (by simp) (.inr rfl)
    · skip
      refine Safe.condN rfl hc6288 ?_
      repeat (first | refine Safe.seq ?_ | refine Safe.skip ?_ | with_reducible refine thenQ.n ?_ | with_reducible refine blockQ.n ?_)
      refine Safe.region ?_
      refine SafeOps.quiet0 E_good rfl rfl rfl (v := V.int .i64 (IntKind.i64.wrap (v7_6284 + 1))) (.fn rfl) ?_
      refine SafeOps.quiet0 E_good rfl rfl rfl (v := V.int .i64 (IntKind.i64.wrap (v7_6284 + 1))) (.fn rfl) ?_
      refine SafeOps.nil ?_
      repeat (first | refine Safe.seq ?_ | refine Safe.skip ?_ | with_reducible refine thenQ.n ?_ | with_reducible refine blockQ.n ?_)
      exact ⟨_, next_out h, (.cov ⟨rfl, rfl, (upT_cons (.refl _) (upT_cons (.refl _) (upT_cons (.refl _) (upT_cons (.refl _) upT_nil)))), upOb_nil, upOut_nil, rfl⟩)⟩
  · skip
    refine Safe.condN rfl hc6286 ?_
    repeat (first | refine Safe.seq ?_ | refine Safe.skip ?_ | with_reducible refine thenQ.n ?_ | with_reducible refine blockQ.n ?_)
    refine Safe.exit ?_
    repeat (first | with_reducible refine thenQ.e ?_ | with_reducible refine blockQ.x rfl ?_ | with_reducible refine blockQ.y rfl ?_)
    replace h := inr_out h hr6285
    repeat (first | refine Safe.seq ?_ | refine Safe.skip ?_ | with_reducible refine thenQ.n ?_ | with_reducible refine blockQ.n ?_)
    refine Safe.region ?_
    refine SafeOps.quiet0 E_good rfl rfl rfl (v := V.sl 1 (rws (fun l => [V.sl 3 (rws api_Instr.cells l)]) a0_6263)) (.fn rfl) ?_
    refine SafeOps.quiet0 E_good rfl rfl rfl (v := V.int .i64 (a0_6263.length : Int)) (.fnE rfl lenE) ?_
    refine SafeOps.quiet0 E_good rfl rfl rfl (v := V.bool (decide ((a0_6263.length : Int) ≤ 100))) (.fn rfl) ?_
    refine SafeOps.quiet0 E_good rfl rfl rfl (v := V.bool (decide ((a0_6263.length : Int) ≤ 100))) (.fn rfl) ?_
    refine SafeOps.nil ?_
    repeat (first | refine Safe.seq ?_ | refine Safe.skip ?_ | with_reducible refine thenQ.n ?_ | with_reducible refine blockQ.n ?_)
    refine Safe.ret ?_
    repeat (first | with_reducible refine thenQ.r ?_ | with_reducible refine blockQ.r ?_)
    obtain rfl := Option.some.inj h
    exact retQ.gen (vs := [V.bool (decide ((a0_6263.length : Int) ≤ 100))]) rfl (.tmp (v := V.bool (decide ((a0_6263.length : Int) ≤ 100))) rfl .nil) (.free rfl) (by simp) (.inr rfl)

noncomputable def go_trace_Of_s1 (a0_6350 : List api_Event) (a1_6351 : Int) : ((List api_Event) × Int) → Option (((List api_Event) × Int) ⊕ (List api_Event))
  | (v4_6380, v9_6381) =>
    if (decide (v9_6381 < (a0_6350.length : Int))) = true then
      if 0 ≤ v9_6381 ∧ v9_6381 < (a0_6350.length : Int) then
        if (((gt a0_6350 v9_6381).Id) == a1_6351) = true then
          if few (v4_6380 ++ [(gt a0_6350 v9_6381)]).length then
            nextO (v4_6380 ++ [(gt a0_6350 v9_6381)], IntKind.i64.wrap (v9_6381 + 1))
          else none
        else
          nextO (v4_6380, IntKind.i64.wrap (v9_6381 + 1))
      else none
    else
      inrO (
        some v4_6380)

noncomputable def go_trace_Of (a0_6350 : List api_Event) (a1_6351 : Int) : Option (List api_Event) :=
  whileO (go_trace_Of_s1 a0_6350 a1_6351) ([], 0)

theorem go_trace_Of_sc (a0_6350 : List api_Event) (a1_6351 : Int) (r : List api_Event) (h : go_trace_Of a0_6350 a1_6351 = some r) : SC Tryd.prog gl 13 [V.sl 3 (rws api_Event.cells a0_6350), V.int .i64 a1_6351] (V.own 3 (rws api_Event.cells r)) := by
  rw [go_trace_Of] at h
  refine SC.of E_good Tryd.func13 rfl (fun _ _ => Tryd.call13 _ _) rfl ?_
  repeat (first | refine Safe.seq ?_ | refine Safe.skip ?_ | with_reducible refine thenQ.n ?_ | with_reducible refine blockQ.n ?_)
  refine Safe.region ?_
  refine SafeOps.quiet0 E_good rfl rfl rfl (v := V.nils) (.fn rfl) ?_
  refine SafeOps.nil ?_
  repeat (first | refine Safe.seq ?_ | refine Safe.skip ?_ | with_reducible refine thenQ.n ?_ | with_reducible refine blockQ.n ?_)
  refine Safe.region ?_
  refine SafeOps.quiet0 E_good rfl rfl rfl (v := V.sl 3 (rws api_Event.cells a0_6350)) (.fn rfl) ?_
  refine SafeOps.quiet0 E_good rfl rfl rfl (v := V.int .i64 (a0_6350.length : Int)) (.fnE rfl lenE) ?_
  refine SafeOps.quiet0 E_good rfl rfl rfl (v := V.int .i64 0) (.fn rfl) ?_
  refine SafeOps.nil ?_
  repeat (first | refine Safe.seq ?_ | refine Safe.skip ?_ | with_reducible refine thenQ.n ?_ | with_reducible refine blockQ.n ?_)
  refine Safe.block ?_
  repeat (first | refine Safe.seq ?_ | refine Safe.skip ?_ | with_reducible refine thenQ.n ?_ | with_reducible refine blockQ.n ?_)
  refine Safe.loopW (fun ((v4_6380, v9_6381) : (List api_Event) × Int) => ⟨Tryd.f13.ntmps, [(1, V.int .i64 a1_6351), (4, V.ref [7000, 118, 4] 0 (rws api_Event.cells v4_6380).length), (7, V.sl 3 (rws api_Event.cells a0_6350)), (8, V.int .i64 (a0_6350.length : Int)), (9, V.int .i64 v9_6381)], [([7000, 118, 4], Obj.rows 3 (rws api_Event.cells v4_6380) false)], [], []⟩) h (.empty [7000, 118, 4] 3 rfl (.cov ⟨rfl, rfl, (upT_cons (.refl _) (upT_cons (.nilref _) (upT_cons (.refl _) (upT_cons (.refl _) (upT_cons (.refl _) upT_nil))))), (upOb_cons rfl (.refl _) upOb_nil), upOut_nil, rfl⟩)) ?_
  rintro ⟨v4_6380, v9_6381⟩ ohr6382 h hr6382
  replace h : go_trace_Of_s1 a0_6350 a1_6351 (v4_6380, v9_6381) = some ohr6382 := h
  rw [go_trace_Of_s1] at h
  repeat (first | refine Safe.seq ?_ | refine Safe.skip ?_ | with_reducible refine thenQ.n ?_ | with_reducible refine blockQ.n ?_)
  refine Safe.region ?_
  refine SafeOps.quiet0 E_good rfl rfl rfl (v := V.bool (decide (v9_6381 < (a0_6350.length : Int)))) (.fn rfl) ?_
  refine SafeOps.nil ?_
  repeat (first | refine Safe.seq ?_ | refine Safe.skip ?_ | with_reducible refine thenQ.n ?_ | with_reducible refine blockQ.n ?_)
  refine ifG h (fun hc6383 h => ?_) (fun hc6383 h => ?_)
  · skip
    refine Safe.condK rfl hc6383 ?_
    repeat (first | refine Safe.seq ?_ | refine Safe.skip ?_ | with_reducible refine thenQ.n ?_ | with_reducible refine blockQ.n ?_)
    refine Safe.block ?_
    repeat (first | refine Safe.seq ?_ | refine Safe.skip ?_ | with_reducible refine thenQ.n ?_ | with_reducible refine blockQ.n ?_)
    refine Safe.region ?_
    refine okG h (fun hb6384 h => ?_)
    refine SafeOps.quiet0 E_good rfl rfl rfl (v := V.spt 3 (rws api_Event.cells a0_6350) (Int.toNat v9_6381) 0) (.idxSlM (f := api_Event.cells) rfl rfl rfl rfl rfl hb6384) ?_
    refine SafeOps.quiet0 E_good rfl rfl rfl (v := V.agg [V.int .i64 ((gt a0_6350 v9_6381).Kind), V.int .i64 ((gt a0_6350 v9_6381).Id), V.int .i64 ((gt a0_6350 v9_6381).A)]) (.load rfl rfl (.sptM (f := api_Event.cells) hb6384 rfl) rfl) ?_
    refine SafeOps.quiet1 E_good rfl rfl rfl (.alloc rfl rfl) rfl ?_
    refine SafeOps.store (z := Obj.box [V.int .i64 ((gt a0_6350 v9_6381).Kind), V.int .i64 ((gt a0_6350 v9_6381).Id), V.int .i64 ((gt a0_6350 v9_6381).A)]) E_good rfl rfl rfl rfl rfl rfl rfl (.boxM (c := 3) rfl rfl (Nat.le_of_ble_eq_true rfl) rfl) ?_
    refine SafeOps.nil ?_
    repeat (first | refine Safe.seq ?_ | refine Safe.skip ?_ | with_reducible refine thenQ.n ?_ | with_reducible refine blockQ.n ?_)
    refine Safe.region ?_
    refine SafeOps.quiet0 E_good rfl rfl rfl (v := V.ptr [6] 0 1) (.fn rfl) ?_
    refine SafeOps.quiet0 E_good rfl rfl rfl (v := V.int .i64 ((gt a0_6350 v9_6381).Id)) (.load rfl rfl (.box rfl rfl) rfl) ?_
    refine SafeOps.quiet0 E_good rfl rfl rfl (v := V.int .i64 a1_6351) (.fn rfl) ?_
    refine SafeOps.quiet0 E_good rfl rfl rfl (v := V.bool (((gt a0_6350 v9_6381).Id) == a1_6351)) (.fn rfl) ?_
    refine SafeOps.nil ?_
    repeat (first | refine Safe.seq ?_ | refine Safe.skip ?_ | with_reducible refine thenQ.n ?_ | with_reducible refine blockQ.n ?_)
    refine ifG h (fun hc6385 h => ?_) (fun hc6385 h => ?_)
    · skip
      refine Safe.condK rfl hc6385 ?_
      repeat (first | refine Safe.seq ?_ | refine Safe.skip ?_ | with_reducible refine thenQ.n ?_ | with_reducible refine blockQ.n ?_)
      refine Safe.region ?_
      refine SafeOps.quiet0 E_good rfl rfl rfl (v := V.ref [7000, 118, 4] 0 (rws api_Event.cells v4_6380).length) (.fn rfl) ?_
      refine SafeOps.quiet0 E_good rfl rfl rfl (v := V.agg [V.int .i64 ((gt a0_6350 v9_6381).Kind), V.int .i64 ((gt a0_6350 v9_6381).Id), V.int .i64 ((gt a0_6350 v9_6381).A)]) (.load rfl rfl (.box rfl rfl) rfl) ?_
      refine SafeOps.quiet1 E_good rfl rfl rfl (.litM (f := api_Event.cells) (xs := [(gt a0_6350 v9_6381)]) rfl rfl (by decide) rfl rfl rfl rfl rfl) rfl ?_
      refine okG h (fun hb6386 h => ?_)
      refine SafeOps.appendM api_Event.cells (xs := v4_6380) (ys := [(gt a0_6350 v9_6381)]) E_good rfl rfl rfl rfl rfl rfl rfl rfl rfl (.own rfl) (.own rfl) (fun _ => rfl) hb6386 ?_
      refine SafeOps.quiet0 E_good rfl rfl rfl (v := V.ref [20] 0 (rws api_Event.cells (v4_6380 ++ [(gt a0_6350 v9_6381)])).length) (.fn rfl) ?_
      refine SafeOps.nil ?_
      repeat (first | refine Safe.seq ?_ | refine Safe.skip ?_ | with_reducible refine thenQ.n ?_ | with_reducible refine blockQ.n ?_)
      refine Safe.region ?_
      refine SafeOps.quiet0 E_good rfl rfl rfl (v := V.int .i64 (IntKind.i64.wrap (v9_6381 + 1))) (.fn rfl) ?_
      refine SafeOps.quiet0 E_good rfl rfl rfl (v := V.int .i64 (IntKind.i64.wrap (v9_6381 + 1))) (.fn rfl) ?_
      refine SafeOps.nil ?_
      repeat (first | refine Safe.seq ?_ | refine Safe.skip ?_ | with_reducible refine thenQ.n ?_ | with_reducible refine blockQ.n ?_)
      exact ⟨_, next_out h, (.ren [20] [7000, 118, 4] (.cov ⟨rfl, rfl, (upT_cons (.refl _) (upT_cons (.refl _) (upT_cons (.refl _) (upT_cons (.refl _) (upT_cons (.refl _) upT_nil))))), (upOb_cons rfl (.refl _) upOb_nil), upOut_nil, rfl⟩))⟩
    · skip
      refine Safe.condN rfl hc6385 ?_
      repeat (first | refine Safe.seq ?_ | refine Safe.skip ?_ | with_reducible refine thenQ.n ?_ | with_reducible refine blockQ.n ?_)
      refine Safe.region ?_
      refine SafeOps.quiet0 E_good rfl rfl rfl (v := V.int .i64 (IntKind.i64.wrap (v9_6381 + 1))) (.fn rfl) ?_
      refine SafeOps.quiet0 E_good rfl rfl rfl (v := V.int .i64 (IntKind.i64.wrap (v9_6381 + 1))) (.fn rfl) ?_
      refine SafeOps.nil ?_
      repeat (first | refine Safe.seq ?_ | refine Safe.skip ?_ | with_reducible refine thenQ.n ?_ | with_reducible refine blockQ.n ?_)
      exact ⟨_, next_out h, (.cov ⟨rfl, rfl, (upT_cons (.refl _) (upT_cons (.refl _) (upT_cons (.refl _) (upT_cons (.refl _) (upT_cons (.refl _) upT_nil))))), (upOb_cons rfl (.refl _) upOb_nil), upOut_nil, rfl⟩)⟩
  · skip
    refine Safe.condN rfl hc6383 ?_
    repeat (first | refine Safe.seq ?_ | refine Safe.skip ?_ | with_reducible refine thenQ.n ?_ | with_reducible refine blockQ.n ?_)
    refine Safe.exit ?_
    repeat (first | with_reducible refine thenQ.e ?_ | with_reducible refine blockQ.x rfl ?_ | with_reducible refine blockQ.y rfl ?_)
    replace h := inr_out h hr6382
    repeat (first | refine Safe.seq ?_ | refine Safe.skip ?_ | with_reducible refine thenQ.n ?_ | with_reducible refine blockQ.n ?_)
    refine Safe.region ?_
    refine SafeOps.quiet0 E_good rfl rfl rfl (v := V.ref [7000, 118, 4] 0 (rws api_Event.cells v4_6380).length) (.fn rfl) ?_
    refine SafeOps.quiet0 E_good rfl rfl rfl (v := V.ref [7000, 118, 4] 0 (rws api_Event.cells v4_6380).length) (.fn rfl) ?_
    refine SafeOps.nil ?_
    repeat (first | refine Safe.seq ?_ | refine Safe.skip ?_ | with_reducible refine thenQ.n ?_ | with_reducible refine blockQ.n ?_)
    refine Safe.ret ?_
    repeat (first | with_reducible refine thenQ.r ?_ | with_reducible refine blockQ.r ?_)
    obtain rfl := Option.some.inj h
    exact retQ.gen (vs := [V.ref [7000, 118, 4] 0 (rws api_Event.cells v4_6380).length]) rfl (.tmp (v := V.ref [7000, 118, 4] 0 (rws api_Event.cells v4_6380).length) rfl .nil) (by exact (.own rfl rfl)) (by simp) (.inr rfl)

noncomputable def go_ravellaw18_TraceAlone_s2 (a0_6333 : List (List api_Instr)) (a1_6334 : List api_Event) (a2_6335 : Int) (x_6464 : Bool) (x_6470 : Int) : (Bool × Int) → Option ((Bool × Int) ⊕ (Bool))
  | (v10_6526, v44_6527) =>
    if (decide (v44_6527 < (a1_6334.length : Int))) = true then
      if 0 ≤ v44_6527 ∧ v44_6527 < (a1_6334.length : Int) then
        (go_trace_Of a1_6334 ((gt a1_6334 v44_6527).Id)).bind fun x_6531 =>
        (go_trace_Check a0_6333 x_6531).bind fun (x_6533, x_6534) =>
        if (x_6534 != 0) = true then
          inrO (
            some false)
        else
          nextO ((v10_6526 && (x_6533 == (x_6531.length : Int))), IntKind.i64.wrap (v44_6527 + 1))
      else none
    else
      inrO (
        if (!(v10_6526 == (x_6470 == (a1_6334.length : Int)))) = true then
          some false
        else
          if (decide ((a1_6334.length : Int) < 2)) = true then
            some x_6464
          else
            if (IntKind.i64.wrap ((a1_6334.length : Int) - 1)) ≠ 0 then
              if (IntKind.i64.wrap ((a1_6334.length : Int) - 1)) ≠ 0 then
                if 0 ≤ (Int.tmod (IntKind.i64.wrap ((IntKind.i64.wrap ((Int.tmod a2_6335 (IntKind.i64.wrap ((a1_6334.length : Int) - 1))) + (a1_6334.length : Int))) - 1)) (IntKind.i64.wrap ((a1_6334.length : Int) - 1))) ∧ (Int.tmod (IntKind.i64.wrap ((IntKind.i64.wrap ((Int.tmod a2_6335 (IntKind.i64.wrap ((a1_6334.length : Int) - 1))) + (a1_6334.length : Int))) - 1)) (IntKind.i64.wrap ((a1_6334.length : Int) - 1))) < (a1_6334.length : Int) then
                  if 0 ≤ (IntKind.i64.wrap ((Int.tmod (IntKind.i64.wrap ((IntKind.i64.wrap ((Int.tmod a2_6335 (IntKind.i64.wrap ((a1_6334.length : Int) - 1))) + (a1_6334.length : Int))) - 1)) (IntKind.i64.wrap ((a1_6334.length : Int) - 1))) + 1)) ∧ (IntKind.i64.wrap ((Int.tmod (IntKind.i64.wrap ((IntKind.i64.wrap ((Int.tmod a2_6335 (IntKind.i64.wrap ((a1_6334.length : Int) - 1))) + (a1_6334.length : Int))) - 1)) (IntKind.i64.wrap ((a1_6334.length : Int) - 1))) + 1)) < (a1_6334.length : Int) then
                    if (((gt a1_6334 (Int.tmod (IntKind.i64.wrap ((IntKind.i64.wrap ((Int.tmod a2_6335 (IntKind.i64.wrap ((a1_6334.length : Int) - 1))) + (a1_6334.length : Int))) - 1)) (IntKind.i64.wrap ((a1_6334.length : Int) - 1)))).Id) == ((gt a1_6334 (IntKind.i64.wrap ((Int.tmod (IntKind.i64.wrap ((IntKind.i64.wrap ((Int.tmod a2_6335 (IntKind.i64.wrap ((a1_6334.length : Int) - 1))) + (a1_6334.length : Int))) - 1)) (IntKind.i64.wrap ((a1_6334.length : Int) - 1))) + 1))).Id)) = true then
                      some x_6464
                    else
                      if few ([] ++ a1_6334).length then
                        if 0 ≤ (IntKind.i64.wrap ((Int.tmod (IntKind.i64.wrap ((IntKind.i64.wrap ((Int.tmod a2_6335 (IntKind.i64.wrap ((a1_6334.length : Int) - 1))) + (a1_6334.length : Int))) - 1)) (IntKind.i64.wrap ((a1_6334.length : Int) - 1))) + 1)) ∧ (IntKind.i64.wrap ((Int.tmod (IntKind.i64.wrap ((IntKind.i64.wrap ((Int.tmod a2_6335 (IntKind.i64.wrap ((a1_6334.length : Int) - 1))) + (a1_6334.length : Int))) - 1)) (IntKind.i64.wrap ((a1_6334.length : Int) - 1))) + 1)) < (a1_6334.length : Int) then
                          if 0 ≤ (Int.tmod (IntKind.i64.wrap ((IntKind.i64.wrap ((Int.tmod a2_6335 (IntKind.i64.wrap ((a1_6334.length : Int) - 1))) + (a1_6334.length : Int))) - 1)) (IntKind.i64.wrap ((a1_6334.length : Int) - 1))) ∧ (Int.tmod (IntKind.i64.wrap ((IntKind.i64.wrap ((Int.tmod a2_6335 (IntKind.i64.wrap ((a1_6334.length : Int) - 1))) + (a1_6334.length : Int))) - 1)) (IntKind.i64.wrap ((a1_6334.length : Int) - 1))) < (([] ++ a1_6334).length : Int) then
                            if 0 ≤ (Int.tmod (IntKind.i64.wrap ((IntKind.i64.wrap ((Int.tmod a2_6335 (IntKind.i64.wrap ((a1_6334.length : Int) - 1))) + (a1_6334.length : Int))) - 1)) (IntKind.i64.wrap ((a1_6334.length : Int) - 1))) ∧ (Int.tmod (IntKind.i64.wrap ((IntKind.i64.wrap ((Int.tmod a2_6335 (IntKind.i64.wrap ((a1_6334.length : Int) - 1))) + (a1_6334.length : Int))) - 1)) (IntKind.i64.wrap ((a1_6334.length : Int) - 1))) < (a1_6334.length : Int) then
                              if 0 ≤ (IntKind.i64.wrap ((Int.tmod (IntKind.i64.wrap ((IntKind.i64.wrap ((Int.tmod a2_6335 (IntKind.i64.wrap ((a1_6334.length : Int) - 1))) + (a1_6334.length : Int))) - 1)) (IntKind.i64.wrap ((a1_6334.length : Int) - 1))) + 1)) ∧ (IntKind.i64.wrap ((Int.tmod (IntKind.i64.wrap ((IntKind.i64.wrap ((Int.tmod a2_6335 (IntKind.i64.wrap ((a1_6334.length : Int) - 1))) + (a1_6334.length : Int))) - 1)) (IntKind.i64.wrap ((a1_6334.length : Int) - 1))) + 1)) < ((st ([] ++ a1_6334) (Int.tmod (IntKind.i64.wrap ((IntKind.i64.wrap ((Int.tmod a2_6335 (IntKind.i64.wrap ((a1_6334.length : Int) - 1))) + (a1_6334.length : Int))) - 1)) (IntKind.i64.wrap ((a1_6334.length : Int) - 1))) (gt a1_6334 (IntKind.i64.wrap ((Int.tmod (IntKind.i64.wrap ((IntKind.i64.wrap ((Int.tmod a2_6335 (IntKind.i64.wrap ((a1_6334.length : Int) - 1))) + (a1_6334.length : Int))) - 1)) (IntKind.i64.wrap ((a1_6334.length : Int) - 1))) + 1)))).length : Int) then
                                (go_trace_Check a0_6333 (st (st ([] ++ a1_6334) (Int.tmod (IntKind.i64.wrap ((IntKind.i64.wrap ((Int.tmod a2_6335 (IntKind.i64.wrap ((a1_6334.length : Int) - 1))) + (a1_6334.length : Int))) - 1)) (IntKind.i64.wrap ((a1_6334.length : Int) - 1))) (gt a1_6334 (IntKind.i64.wrap ((Int.tmod (IntKind.i64.wrap ((IntKind.i64.wrap ((Int.tmod a2_6335 (IntKind.i64.wrap ((a1_6334.length : Int) - 1))) + (a1_6334.length : Int))) - 1)) (IntKind.i64.wrap ((a1_6334.length : Int) - 1))) + 1)))) (IntKind.i64.wrap ((Int.tmod (IntKind.i64.wrap ((IntKind.i64.wrap ((Int.tmod a2_6335 (IntKind.i64.wrap ((a1_6334.length : Int) - 1))) + (a1_6334.length : Int))) - 1)) (IntKind.i64.wrap ((a1_6334.length : Int) - 1))) + 1)) (gt a1_6334 (Int.tmod (IntKind.i64.wrap ((IntKind.i64.wrap ((Int.tmod a2_6335 (IntKind.i64.wrap ((a1_6334.length : Int) - 1))) + (a1_6334.length : Int))) - 1)) (IntKind.i64.wrap ((a1_6334.length : Int) - 1)))))).bind fun (x_6550, x_6551) =>
                                some ((x_6464 && (x_6551 == 0)) && ((x_6550 == (a1_6334.length : Int)) == (x_6470 == (a1_6334.length : Int))))
                              else none
                            else none
                          else none
                        else none
                      else none
                  else none
                else none
              else none
            else none)

noncomputable def go_ravellaw18_TraceAlone (a0_6333 : List (List api_Instr)) (a1_6334 : List api_Event) (a2_6335 : Int) : Option Bool :=
  (go_ravellaw18_live).bind fun x_6464 =>
  (go_ravelref04_Few a0_6333).bind fun x_6466 =>
  if ((!x_6466) || (decide ((a1_6334.length : Int) > 100))) = true then
    some x_6464
  else
    (go_trace_Check a0_6333 a1_6334).bind fun (x_6470, x_6471) =>
    if (x_6471 != 0) = true then
      some (x_6464 && (x_6470 == 0))
    else
      whileO (go_ravellaw18_TraceAlone_s2 a0_6333 a1_6334 a2_6335 x_6464 x_6470) (true, 0)

theorem go_ravellaw18_TraceAlone_sc (a0_6333 : List (List api_Instr)) (a1_6334 : List api_Event) (a2_6335 : Int) (r : Bool) (h : go_ravellaw18_TraceAlone a0_6333 a1_6334 a2_6335 = some r) : SC Tryd.prog gl 4 [V.sl 1 (rws (fun l => [V.sl 3 (rws api_Instr.cells l)]) a0_6333), V.sl 3 (rws api_Event.cells a1_6334), V.int .i64 a2_6335] (V.bool r) := by
  rw [go_ravellaw18_TraceAlone] at h
  refine SC.of E_good Tryd.func4 rfl (fun _ _ => Tryd.call4 _ _) rfl ?_
  repeat (first | refine Safe.seq ?_ | refine Safe.skip ?_ | with_reducible refine thenQ.n ?_ | with_reducible refine blockQ.n ?_)
  refine Safe.region ?_
  refine SafeOps.quiet0 E_good rfl rfl rfl (v := V.bool false) (.fn rfl) ?_
  refine SafeOps.nil ?_
  repeat (first | refine Safe.seq ?_ | refine Safe.skip ?_ | with_reducible refine thenQ.n ?_ | with_reducible refine blockQ.n ?_)
  refine Safe.region ?_
  refine bindG h ?_
  intro x_6464 he6465 h
  refine SafeOps.quiet0 E_good rfl rfl rfl (v := V.bool x_6464) (.callP rfl rfl (go_ravellaw18_live_sc  _ he6465) rfl) ?_
  refine SafeOps.quiet0 E_good rfl rfl rfl (v := V.bool x_6464) (.fn rfl) ?_
  refine SafeOps.nil ?_
  repeat (first | refine Safe.seq ?_ | refine Safe.skip ?_ | with_reducible refine thenQ.n ?_ | with_reducible refine blockQ.n ?_)
  refine Safe.region ?_
  refine SafeOps.quiet0 E_good rfl rfl rfl (v := V.sl 1 (rws (fun l => [V.sl 3 (rws api_Instr.cells l)]) a0_6333)) (.fn rfl) ?_
  refine bindG h ?_
  intro x_6466 he6467 h
  refine SafeOps.quiet0 E_good rfl rfl rfl (v := V.bool x_6466) (.callP rfl rfl (go_ravelref04_Few_sc a0_6333 _ he6467) rfl) ?_
  refine SafeOps.quiet0 E_good rfl rfl rfl (v := V.bool (!x_6466)) (.fn rfl) ?_
  refine SafeOps.quiet0 E_good rfl rfl rfl (v := V.bool (!x_6466)) (.fn rfl) ?_
  refine SafeOps.bjoin 4 27 (b := ((!x_6466) || (decide ((a1_6334.length : Int) > 100)))) (b1 := true) (b0 := decide ((a1_6334.length : Int) > 100)) (fun hc6468 K => ?_) (fun hc6468 K => ?_) bj_or ?_
  · skip
    refine SafeOps.skip (congrArg (fun b => some (!b)) hc6468) rfl rfl ?_
    refine SafeOps.skip (congrArg (fun b => some (!b)) hc6468) rfl rfl ?_
    refine SafeOps.skip (congrArg (fun b => some (!b)) hc6468) rfl rfl ?_
    refine SafeOps.quiet0 E_good rfl rfl rfl (v := V.bool true) (.pickK rfl hc6468 rfl) ?_
    exact SafeOps.drop' 4 rfl rfl rfl K
  · skip
    refine SafeOps.quiet0 E_good (congrArg (fun b => some (!b)) hc6468) rfl rfl (v := V.sl 3 (rws api_Event.cells a1_6334)) (.fn rfl) ?_
    refine SafeOps.quiet0 E_good (congrArg (fun b => some (!b)) hc6468) rfl rfl (v := V.int .i64 (a1_6334.length : Int)) (.fnE rfl lenE) ?_
    refine SafeOps.quiet0 E_good (congrArg (fun b => some (!b)) hc6468) rfl rfl (v := V.bool (decide ((a1_6334.length : Int) > 100))) (.fn rfl) ?_
    refine SafeOps.quiet0 E_good rfl rfl rfl (v := V.bool (decide ((a1_6334.length : Int) > 100))) (.pickK rfl hc6468 rfl) ?_
    exact SafeOps.drop' 4 rfl rfl rfl K
  refine SafeOps.nil ?_
  repeat (first | refine Safe.seq ?_ | refine Safe.skip ?_ | with_reducible refine thenQ.n ?_ | with_reducible refine blockQ.n ?_)
  refine ifG h (fun hc6469 h => ?_) (fun hc6469 h => ?_)
  · skip
    refine Safe.condK rfl hc6469 ?_
    repeat (first | refine Safe.seq ?_ | refine Safe.skip ?_ | with_reducible refine thenQ.n ?_ | with_reducible refine blockQ.n ?_)
    refine Safe.region ?_
    refine SafeOps.quiet0 E_good rfl rfl rfl (v := V.bool x_6464) (.fn rfl) ?_
    refine SafeOps.quiet0 E_good rfl rfl rfl (v := V.bool x_6464) (.fn rfl) ?_
    refine SafeOps.nil ?_
    repeat (first | refine Safe.seq ?_ | refine Safe.skip ?_ | with_reducible refine thenQ.n ?_ | with_reducible refine blockQ.n ?_)
    refine Safe.ret ?_
    repeat (first | with_reducible refine thenQ.r ?_ | with_reducible refine blockQ.r ?_)
    obtain rfl := Option.some.inj h
    exact retQ.gen (vs := [V.bool x_6464]) rfl (.tmp (v := V.bool x_6464) rfl .nil) (.free rfl) (by simp) (.inr rfl)
  · skip
    refine Safe.condN rfl hc6469 ?_
    repeat (first | refine Safe.seq ?_ | refine Safe.skip ?_ | with_reducible refine thenQ.n ?_ | with_reducible refine blockQ.n ?_)
    refine Safe.region ?_
    refine SafeOps.quiet0 E_good rfl rfl rfl (v := V.sl 1 (rws (fun l => [V.sl 3 (rws api_Instr.cells l)]) a0_6333)) (.fn rfl) ?_
    refine SafeOps.quiet0 E_good rfl rfl rfl (v := V.sl 3 (rws api_Event.cells a1_6334)) (.fn rfl) ?_
    refine bindG h ?_
    rintro ⟨x_6470, x_6471⟩ he6472 h
    refine SafeOps.quiet0 E_good rfl rfl rfl (v := V.tup [V.int .i64 x_6470, V.int .i64 x_6471]) (.callP rfl rfl (go_trace_Check_sc a0_6333 a1_6334 _ he6472) rfl) ?_
    refine SafeOps.quiet0 E_good rfl rfl rfl (v := V.tup [V.int .i64 x_6470, V.int .i64 x_6471]) (.fn rfl) ?_
    refine SafeOps.quiet0 E_good rfl rfl rfl (v := V.int .i64 x_6470) (.fn rfl) ?_
    refine SafeOps.quiet0 E_good rfl rfl rfl (v := V.int .i64 x_6471) (.fn rfl) ?_
    refine SafeOps.quiet0 E_good rfl rfl rfl (v := V.int .i64 x_6470) (.fn rfl) ?_
    refine SafeOps.quiet0 E_good rfl rfl rfl (v := V.int .i64 x_6471) (.fn rfl) ?_
    refine SafeOps.nil ?_
    repeat (first | refine Safe.seq ?_ | refine Safe.skip ?_ | with_reducible refine thenQ.n ?_ | with_reducible refine blockQ.n ?_)
    refine Safe.region ?_
    refine SafeOps.quiet0 E_good rfl rfl rfl (v := V.int .i64 x_6471) (.fn rfl) ?_
    refine SafeOps.quiet0 E_good rfl rfl rfl (v := V.bool (x_6471 != 0)) (.fn rfl) ?_
    refine SafeOps.nil ?_
    repeat (first | refine Safe.seq ?_ | refine Safe.skip ?_ | with_reducible refine thenQ.n ?_ | with_reducible refine blockQ.n ?_)
    refine ifG h (fun hc6474 h => ?_) (fun hc6474 h => ?_)
    · skip
      refine Safe.condK rfl hc6474 ?_
      repeat (first | refine Safe.seq ?_ | refine Safe.skip ?_ | with_reducible refine thenQ.n ?_ | with_reducible refine blockQ.n ?_)
      refine Safe.region ?_
      refine SafeOps.quiet0 E_good rfl rfl rfl (v := V.bool x_6464) (.fn rfl) ?_
      refine SafeOps.quiet0 E_good rfl rfl rfl (v := V.bool x_6464) (.fn rfl) ?_
      refine SafeOps.bjoin 3 41 (b := (x_6464 && (x_6470 == 0))) (b1 := (x_6470 == 0)) (b0 := false) (fun hc6475 K => ?_) (fun hc6475 K => ?_) bj_and ?_
      · skip
        refine SafeOps.quiet0 E_good (congrArg some hc6475) rfl rfl (v := V.int .i64 x_6470) (.fn rfl) ?_
        refine SafeOps.quiet0 E_good (congrArg some hc6475) rfl rfl (v := V.bool (x_6470 == 0)) (.fn rfl) ?_
        refine SafeOps.quiet0 E_good rfl rfl rfl (v := V.bool (x_6470 == 0)) (.pickK rfl hc6475 rfl) ?_
        exact SafeOps.drop' 3 rfl rfl rfl K
      · skip
        refine SafeOps.skip (congrArg some hc6475) rfl rfl ?_
        refine SafeOps.skip (congrArg some hc6475) rfl rfl ?_
        refine SafeOps.quiet0 E_good rfl rfl rfl (v := V.bool false) (.pickK rfl hc6475 rfl) ?_
        exact SafeOps.drop' 3 rfl rfl rfl K
      refine SafeOps.quiet0 E_good rfl rfl rfl (v := V.bool (x_6464 && (x_6470 == 0))) (.fn rfl) ?_
      refine SafeOps.nil ?_
      repeat (first | refine Safe.seq ?_ | refine Safe.skip ?_ | with_reducible refine thenQ.n ?_ | with_reducible refine blockQ.n ?_)
      refine Safe.ret ?_
      repeat (first | with_reducible refine thenQ.r ?_ | with_reducible refine blockQ.r ?_)
      obtain rfl := Option.some.inj h
      exact retQ.gen (vs := [V.bool (x_6464 && (x_6470 == 0))]) rfl (.tmp (v := V.bool (x_6464 && (x_6470 == 0))) rfl .nil) (.free rfl) (by simp) (.inr rfl)
    · skip
      refine Safe.condN rfl hc6474 ?_
      repeat (first | refine Safe.seq ?_ | refine Safe.skip ?_ | with_reducible refine thenQ.n ?_ | with_reducible refine blockQ.n ?_)
      refine Safe.region ?_
      refine SafeOps.quiet0 E_good rfl rfl rfl (v := V.bool true) (.fn rfl) ?_
      refine SafeOps.nil ?_
      repeat (first | refine Safe.seq ?_ | refine Safe.skip ?_ | with_reducible refine thenQ.n ?_ | with_reducible refine blockQ.n ?_)
      refine Safe.region ?_
      refine SafeOps.quiet0 E_good rfl rfl rfl (v := V.sl 3 (rws api_Event.cells a1_6334)) (.fn rfl) ?_
      refine SafeOps.quiet0 E_good rfl rfl rfl (v := V.int .i64 (a1_6334.length : Int)) (.fnE rfl lenE) ?_
      refine SafeOps.quiet0 E_good rfl rfl rfl (v := V.int .i64 0) (.fn rfl) ?_
      refine SafeOps.nil ?_
      repeat (first | refine Safe.seq ?_ | refine Safe.skip ?_ | with_reducible refine thenQ.n ?_ | with_reducible refine blockQ.n ?_)
      refine Safe.block ?_
      repeat (first | refine Safe.seq ?_ | refine Safe.skip ?_ | with_reducible refine thenQ.n ?_ | with_reducible refine blockQ.n ?_)
      refine Safe.loopW (fun ((v10_6526, v44_6527) : Bool × Int) => ⟨Tryd.f4.ntmps, [(0, V.sl 1 (rws (fun l => [V.sl 3 (rws api_Instr.cells l)]) a0_6333)), (1, V.sl 3 (rws api_Event.cells a1_6334)), (2, V.int .i64 a2_6335), (7, V.bool x_6464), (8, V.int .i64 x_6470), (10, V.bool v10_6526), (42, V.sl 3 (rws api_Event.cells a1_6334)), (43, V.int .i64 (a1_6334.length : Int)), (44, V.int .i64 v44_6527)], [], [], []⟩) h (.cov ⟨rfl, rfl, (upT_cons (.refl _) (upT_cons (.refl _) (upT_cons (.refl _) (upT_cons (.refl _) (upT_cons (.refl _) (upT_cons (.refl _) (upT_cons (.refl _) (upT_cons (.refl _) (upT_cons (.refl _) upT_nil))))))))), upOb_nil, upOut_nil, rfl⟩) ?_
      rintro ⟨v10_6526, v44_6527⟩ ohr6528 h hr6528
      replace h : go_ravellaw18_TraceAlone_s2 a0_6333 a1_6334 a2_6335 x_6464 x_6470 (v10_6526, v44_6527) = some ohr6528 := h
      rw [go_ravellaw18_TraceAlone_s2] at h
      repeat (first | refine Safe.seq ?_ | refine Safe.skip ?_ | with_reducible refine thenQ.n ?_ | with_reducible refine blockQ.n ?_)
      refine Safe.region ?_
      refine SafeOps.quiet0 E_good rfl rfl rfl (v := V.bool (decide (v44_6527 < (a1_6334.length : Int)))) (.fn rfl) ?_
      refine SafeOps.nil ?_
      repeat (first | refine Safe.seq ?_ | refine Safe.skip ?_ | with_reducible refine thenQ.n ?_ | with_reducible refine blockQ.n ?_)
      refine ifG h (fun hc6529 h => ?_) (fun hc6529 h => ?_)
      · skip
        refine Safe.condK rfl hc6529 ?_
        repeat (first | refine Safe.seq ?_ | refine Safe.skip ?_ | with_reducible refine thenQ.n ?_ | with_reducible refine blockQ.n ?_)
        refine Safe.block ?_
        repeat (first | refine Safe.seq ?_ | refine Safe.skip ?_ | with_reducible refine thenQ.n ?_ | with_reducible refine blockQ.n ?_)
        refine Safe.region ?_
        refine okG h (fun hb6530 h => ?_)
        refine SafeOps.quiet0 E_good rfl rfl rfl (v := V.spt 3 (rws api_Event.cells a1_6334) (Int.toNat v44_6527) 0) (.idxSlM (f := api_Event.cells) rfl rfl rfl rfl rfl hb6530) ?_
        refine SafeOps.quiet0 E_good rfl rfl rfl (v := V.agg [V.int .i64 ((gt a1_6334 v44_6527).Kind), V.int .i64 ((gt a1_6334 v44_6527).Id), V.int .i64 ((gt a1_6334 v44_6527).A)]) (.load rfl rfl (.sptM (f := api_Event.cells) hb6530 rfl) rfl) ?_
        refine SafeOps.quiet1 E_good rfl rfl rfl (.alloc rfl rfl) rfl ?_
        refine SafeOps.store (z := Obj.box [V.int .i64 ((gt a1_6334 v44_6527).Kind), V.int .i64 ((gt a1_6334 v44_6527).Id), V.int .i64 ((gt a1_6334 v44_6527).A)]) E_good rfl rfl rfl rfl rfl rfl rfl (.boxM (c := 3) rfl rfl (Nat.le_of_ble_eq_true rfl) rfl) ?_
        refine SafeOps.nil ?_
        repeat (first | refine Safe.seq ?_ | refine Safe.skip ?_ | with_reducible refine thenQ.n ?_ | with_reducible refine blockQ.n ?_)
        refine Safe.region ?_
        refine SafeOps.quiet0 E_good rfl rfl rfl (v := V.sl 3 (rws api_Event.cells a1_6334)) (.fn rfl) ?_
        refine SafeOps.quiet0 E_good rfl rfl rfl (v := V.ptr [12] 0 1) (.fn rfl) ?_
        refine SafeOps.quiet0 E_good rfl rfl rfl (v := V.int .i64 ((gt a1_6334 v44_6527).Id)) (.load rfl rfl (.box rfl rfl) rfl) ?_
        refine bindG h ?_
        intro x_6531 he6532 h
        refine SafeOps.quiet E_good rfl rfl rfl (v := V.ref [51, 0] 0 (rws api_Event.cells x_6531).length) (.callP rfl rfl (go_trace_Of_sc a1_6334 ((gt a1_6334 v44_6527).Id) _ he6532) rfl) rfl ?_
        refine SafeOps.quiet0 E_good rfl rfl rfl (v := V.ref [51, 0] 0 (rws api_Event.cells x_6531).length) (.fn rfl) ?_
        refine SafeOps.nil ?_
        repeat (first | refine Safe.seq ?_ | refine Safe.skip ?_ | with_reducible refine thenQ.n ?_ | with_reducible refine blockQ.n ?_)
        refine Safe.region ?_
        refine SafeOps.quiet0 E_good rfl rfl rfl (v := V.sl 1 (rws (fun l => [V.sl 3 (rws api_Instr.cells l)]) a0_6333)) (.fn rfl) ?_
        refine SafeOps.quiet0 E_good rfl rfl rfl (v := V.ref [51, 0] 0 (rws api_Event.cells x_6531).length) (.fn rfl) ?_
        refine bindG h ?_
        rintro ⟨x_6533, x_6534⟩ he6535 h
        refine SafeOps.quiet0 E_good rfl rfl rfl (v := V.tup [V.int .i64 x_6533, V.int .i64 x_6534]) (.callS rfl (.cons (.free rfl) (.cons (.full rfl rfl) .nil)) (go_trace_Check_sc a0_6333 x_6531 _ he6535) (.tupL (.cons (.plain rfl) (.cons (.plain rfl) .nil))) rfl) ?_
        refine SafeOps.quiet0 E_good rfl rfl rfl (v := V.tup [V.int .i64 x_6533, V.int .i64 x_6534]) (.fn rfl) ?_
        refine SafeOps.quiet0 E_good rfl rfl rfl (v := V.int .i64 x_6533) (.fn rfl) ?_
        refine SafeOps.quiet0 E_good rfl rfl rfl (v := V.int .i64 x_6534) (.fn rfl) ?_
        refine SafeOps.quiet0 E_good rfl rfl rfl (v := V.int .i64 x_6533) (.fn rfl) ?_
        refine SafeOps.quiet0 E_good rfl rfl rfl (v := V.int .i64 x_6534) (.fn rfl) ?_
        refine SafeOps.nil ?_
        repeat (first | refine Safe.seq ?_ | refine Safe.skip ?_ | with_reducible refine thenQ.n ?_ | with_reducible refine blockQ.n ?_)
        refine Safe.region ?_
        refine SafeOps.quiet0 E_good rfl rfl rfl (v := V.int .i64 x_6534) (.fn rfl) ?_
        refine SafeOps.quiet0 E_good rfl rfl rfl (v := V.bool (x_6534 != 0)) (.fn rfl) ?_
        refine SafeOps.nil ?_
        repeat (first | refine Safe.seq ?_ | refine Safe.skip ?_ | with_reducible refine thenQ.n ?_ | with_reducible refine blockQ.n ?_)
        refine ifG h (fun hc6536 h => ?_) (fun hc6536 h => ?_)
        · skip
          refine Safe.condK rfl hc6536 ?_
          repeat (first | refine Safe.seq ?_ | refine Safe.skip ?_ | with_reducible refine thenQ.n ?_ | with_reducible refine blockQ.n ?_)
          refine Safe.region ?_
          refine SafeOps.quiet0 E_good rfl rfl rfl (v := V.bool false) (.fn rfl) ?_
          refine SafeOps.nil ?_
          repeat (first | refine Safe.seq ?_ | refine Safe.skip ?_ | with_reducible refine thenQ.n ?_ | with_reducible refine blockQ.n ?_)
          refine Safe.ret ?_
          repeat (first | with_reducible refine thenQ.r ?_ | with_reducible refine blockQ.r ?_)
          replace h := inr_out h hr6528
          obtain rfl := Option.some.inj h
          exact retQ.gen (vs := [V.bool false]) rfl (.tmp (v := V.bool false) rfl .nil) (.free rfl) (by simp) (.inr rfl)
        · skip
          refine Safe.condN rfl hc6536 ?_
          repeat (first | refine Safe.seq ?_ | refine Safe.skip ?_ | with_reducible refine thenQ.n ?_ | with_reducible refine blockQ.n ?_)
          refine Safe.region ?_
          refine SafeOps.quiet0 E_good rfl rfl rfl (v := V.bool v10_6526) (.fn rfl) ?_
          refine SafeOps.quiet0 E_good rfl rfl rfl (v := V.bool v10_6526) (.fn rfl) ?_
          refine SafeOps.bjoin 5 66 (b := (v10_6526 && (x_6533 == (x_6531.length : Int)))) (b1 := (x_6533 == (x_6531.length : Int))) (b0 := false) (fun hc6537 K => ?_) (fun hc6537 K => ?_) bj_and ?_
          · skip
            refine SafeOps.quiet0 E_good (congrArg some hc6537) rfl rfl (v := V.int .i64 x_6533) (.fn rfl) ?_
            refine SafeOps.quiet0 E_good (congrArg some hc6537) rfl rfl (v := V.ref [51, 0] 0 (rws api_Event.cells x_6531).length) (.fn rfl) ?_
            refine SafeOps.quiet0 E_good (congrArg some hc6537) rfl rfl (v := V.int .i64 (x_6531.length : Int)) (.fnE rfl lenE) ?_
            refine SafeOps.quiet0 E_good (congrArg some hc6537) rfl rfl (v := V.bool (x_6533 == (x_6531.length : Int))) (.fn rfl) ?_
            refine SafeOps.quiet0 E_good rfl rfl rfl (v := V.bool (x_6533 == (x_6531.length : Int))) (.pickK rfl hc6537 rfl) ?_
            exact SafeOps.drop' 5 rfl rfl rfl K
          · skip
            refine SafeOps.skip (congrArg some hc6537) rfl rfl ?_
            refine SafeOps.skip (congrArg some hc6537) rfl rfl ?_
            refine SafeOps.skip (congrArg some hc6537) rfl rfl ?_
            refine SafeOps.skip (congrArg some hc6537) rfl rfl ?_
            refine SafeOps.quiet0 E_good rfl rfl rfl (v := V.bool false) (.pickK rfl hc6537 rfl) ?_
            exact SafeOps.drop' 5 rfl rfl rfl K
          refine SafeOps.quiet0 E_good rfl rfl rfl (v := V.bool (v10_6526 && (x_6533 == (x_6531.length : Int)))) (.fn rfl) ?_
          refine SafeOps.nil ?_
          repeat (first | refine Safe.seq ?_ | refine Safe.skip ?_ | with_reducible refine thenQ.n ?_ | with_reducible refine blockQ.n ?_)
          refine Safe.region ?_
          refine SafeOps.quiet0 E_good rfl rfl rfl (v := V.int .i64 (IntKind.i64.wrap (v44_6527 + 1))) (.fn rfl) ?_
          refine SafeOps.quiet0 E_good rfl rfl rfl (v := V.int .i64 (IntKind.i64.wrap (v44_6527 + 1))) (.fn rfl) ?_
          refine SafeOps.nil ?_
          repeat (first | refine Safe.seq ?_ | refine Safe.skip ?_ | with_reducible refine thenQ.n ?_ | with_reducible refine blockQ.n ?_)
          exact ⟨_, next_out h, (.cov ⟨rfl, rfl, (upT_cons (.refl _) (upT_cons (.refl _) (upT_cons (.refl _) (upT_cons (.refl _) (upT_cons (.refl _) (upT_cons (.refl _) (upT_cons (.refl _) (upT_cons (.refl _) (upT_cons (.refl _) upT_nil))))))))), upOb_nil, upOut_nil, rfl⟩)⟩
      · skip
        refine Safe.condN rfl hc6529 ?_
        repeat (first | refine Safe.seq ?_ | refine Safe.skip ?_ | with_reducible refine thenQ.n ?_ | with_reducible refine blockQ.n ?_)
        refine Safe.exit ?_
        repeat (first | with_reducible refine thenQ.e ?_ | with_reducible refine blockQ.x rfl ?_ | with_reducible refine blockQ.y rfl ?_)
        replace h := inr_out h hr6528
        repeat (first | refine Safe.seq ?_ | refine Safe.skip ?_ | with_reducible refine thenQ.n ?_ | with_reducible refine blockQ.n ?_)
        refine Safe.region ?_
        refine SafeOps.quiet0 E_good rfl rfl rfl (v := V.bool v10_6526) (.fn rfl) ?_
        refine SafeOps.quiet0 E_good rfl rfl rfl (v := V.int .i64 x_6470) (.fn rfl) ?_
        refine SafeOps.quiet0 E_good rfl rfl rfl (v := V.sl 3 (rws api_Event.cells a1_6334)) (.fn rfl) ?_
        refine SafeOps.quiet0 E_good rfl rfl rfl (v := V.int .i64 (a1_6334.length : Int)) (.fnE rfl lenE) ?_
        refine SafeOps.quiet0 E_good rfl rfl rfl (v := V.bool (x_6470 == (a1_6334.length : Int))) (.fn rfl) ?_
        refine SafeOps.quiet0 E_good rfl rfl rfl (v := V.bool (!(v10_6526 == (x_6470 == (a1_6334.length : Int))))) (.fn rfl) ?_
        refine SafeOps.nil ?_
        repeat (first | refine Safe.seq ?_ | refine Safe.skip ?_ | with_reducible refine thenQ.n ?_ | with_reducible refine blockQ.n ?_)
        refine ifG h (fun hc6538 h => ?_) (fun hc6538 h => ?_)
        · skip
          refine Safe.condK rfl hc6538 ?_
          repeat (first | refine Safe.seq ?_ | refine Safe.skip ?_ | with_reducible refine thenQ.n ?_ | with_reducible refine blockQ.n ?_)
          refine Safe.region ?_
          refine SafeOps.quiet0 E_good rfl rfl rfl (v := V.bool false) (.fn rfl) ?_
          refine SafeOps.nil ?_
          repeat (first | refine Safe.seq ?_ | refine Safe.skip ?_ | with_reducible refine thenQ.n ?_ | with_reducible refine blockQ.n ?_)
          refine Safe.ret ?_
          repeat (first | with_reducible refine thenQ.r ?_ | with_reducible refine blockQ.r ?_)
          obtain rfl := Option.some.inj h
          exact retQ.gen (vs := [V.bool false]) rfl (.tmp (v := V.bool false) rfl .nil) (.free rfl) (by simp) (.inr rfl)
        · skip
          refine Safe.condN rfl hc6538 ?_
          repeat (first | refine Safe.seq ?_ | refine Safe.skip ?_ | with_reducible refine thenQ.n ?_ | with_reducible refine blockQ.n ?_)
          refine Safe.region ?_
          refine SafeOps.quiet0 E_good rfl rfl rfl (v := V.sl 3 (rws api_Event.cells a1_6334)) (.fn rfl) ?_
          refine SafeOps.quiet0 E_good rfl rfl rfl (v := V.int .i64 (a1_6334.length : Int)) (.fnE rfl lenE) ?_
          refine SafeOps.quiet0 E_good rfl rfl rfl (v := V.bool (decide ((a1_6334.length : Int) < 2))) (.fn rfl) ?_
          refine SafeOps.nil ?_
          repeat (first | refine Safe.seq ?_ | refine Safe.skip ?_ | with_reducible refine thenQ.n ?_ | with_reducible refine blockQ.n ?_)
          refine ifG h (fun hc6539 h => ?_) (fun hc6539 h => ?_)
          · skip
            refine Safe.condK rfl hc6539 ?_
            repeat (first | refine Safe.seq ?_ | refine Safe.skip ?_ | with_reducible refine thenQ.n ?_ | with_reducible refine blockQ.n ?_)
            refine Safe.region ?_
            refine SafeOps.quiet0 E_good rfl rfl rfl (v := V.bool x_6464) (.fn rfl) ?_
            refine SafeOps.quiet0 E_good rfl rfl rfl (v := V.bool x_6464) (.fn rfl) ?_
            refine SafeOps.nil ?_
            repeat (first | refine Safe.seq ?_ | refine Safe.skip ?_ | with_reducible refine thenQ.n ?_ | with_reducible refine blockQ.n ?_)
            refine Safe.ret ?_
            repeat (first | with_reducible refine thenQ.r ?_ | with_reducible refine blockQ.r ?_)
            obtain rfl := Option.some.inj h
            exact retQ.gen (vs := [V.bool x_6464]) rfl (.tmp (v := V.bool x_6464) rfl .nil) (.free rfl) (by simp) (.inr rfl)
          · skip
            refine Safe.condN rfl hc6539 ?_
            repeat (first | refine Safe.seq ?_ | refine Safe.skip ?_ | with_reducible refine thenQ.n ?_ | with_reducible refine blockQ.n ?_)
            refine Safe.region ?_
            refine SafeOps.quiet0 E_good rfl rfl rfl (v := V.int .i64 a2_6335) (.fn rfl) ?_
            refine SafeOps.quiet0 E_good rfl rfl rfl (v := V.sl 3 (rws api_Event.cells a1_6334)) (.fn rfl) ?_
            refine SafeOps.quiet0 E_good rfl rfl rfl (v := V.int .i64 (a1_6334.length : Int)) (.fnE rfl lenE) ?_
            refine SafeOps.quiet0 E_good rfl rfl rfl (v := V.int .i64 (IntKind.i64.wrap ((a1_6334.length : Int) - 1))) (.fn rfl) ?_
            refine okG h (fun hb6540 h => ?_)
            refine SafeOps.quiet0 E_good rfl rfl rfl (v := V.int .i64 (Int.tmod a2_6335 (IntKind.i64.wrap ((a1_6334.length : Int) - 1)))) (.remV rfl rfl hb6540) ?_
            refine SafeOps.quiet0 E_good rfl rfl rfl (v := V.sl 3 (rws api_Event.cells a1_6334)) (.fn rfl) ?_
            refine SafeOps.quiet0 E_good rfl rfl rfl (v := V.int .i64 (a1_6334.length : Int)) (.fnE rfl lenE) ?_
            refine SafeOps.quiet0 E_good rfl rfl rfl (v := V.int .i64 (IntKind.i64.wrap ((Int.tmod a2_6335 (IntKind.i64.wrap ((a1_6334.length : Int) - 1))) + (a1_6334.length : Int)))) (.fn rfl) ?_
            refine SafeOps.quiet0 E_good rfl rfl rfl (v := V.int .i64 (IntKind.i64.wrap ((IntKind.i64.wrap ((Int.tmod a2_6335 (IntKind.i64.wrap ((a1_6334.length : Int) - 1))) + (a1_6334.length : Int))) - 1))) (.fn rfl) ?_
            refine SafeOps.quiet0 E_good rfl rfl rfl (v := V.sl 3 (rws api_Event.cells a1_6334)) (.fn rfl) ?_
            refine SafeOps.quiet0 E_good rfl rfl rfl (v := V.int .i64 (a1_6334.length : Int)) (.fnE rfl lenE) ?_
            refine SafeOps.quiet0 E_good rfl rfl rfl (v := V.int .i64 (IntKind.i64.wrap ((a1_6334.length : Int) - 1))) (.fn rfl) ?_
            refine okG h (fun hb6541 h => ?_)
            refine SafeOps.quiet0 E_good rfl rfl rfl (v := V.int .i64 (Int.tmod (IntKind.i64.wrap ((IntKind.i64.wrap ((Int.tmod a2_6335 (IntKind.i64.wrap ((a1_6334.length : Int) - 1))) + (a1_6334.length : Int))) - 1)) (IntKind.i64.wrap ((a1_6334.length : Int) - 1)))) (.remV rfl rfl hb6541) ?_
            refine SafeOps.quiet0 E_good rfl rfl rfl (v := V.int .i64 (Int.tmod (IntKind.i64.wrap ((IntKind.i64.wrap ((Int.tmod a2_6335 (IntKind.i64.wrap ((a1_6334.length : Int) - 1))) + (a1_6334.length : Int))) - 1)) (IntKind.i64.wrap ((a1_6334.length : Int) - 1)))) (.fn rfl) ?_
            refine SafeOps.nil ?_
            repeat (first | refine Safe.seq ?_ | refine Safe.skip ?_ | with_reducible refine thenQ.n ?_ | with_reducible refine blockQ.n ?_)
            refine Safe.regionD (n := 12) [] [] E_good mixed rfl ?_
            refine DAny.take (i := 0) rfl (by kernel_rfl) [] (by kernel_rfl) (by kernel_rfl) (by kernel_rfl) rfl rfl rfl (v := V.sl 3 (rws api_Event.cells a1_6334)) (fun _ hz => (.fn rfl)) ?_
            refine DAny.take (i := 1) rfl (by kernel_rfl) [] (by kernel_rfl) (by kernel_rfl) (by kernel_rfl) rfl rfl rfl (v := V.int .i64 (Int.tmod (IntKind.i64.wrap ((IntKind.i64.wrap ((Int.tmod a2_6335 (IntKind.i64.wrap ((a1_6334.length : Int) - 1))) + (a1_6334.length : Int))) - 1)) (IntKind.i64.wrap ((a1_6334.length : Int) - 1)))) (fun _ hz => (.fn rfl)) ?_
            refine okG h (fun hb6542 h => ?_)
            refine DAny.take (i := 2) rfl (by kernel_rfl) [] (by kernel_rfl) (by kernel_rfl) (by kernel_rfl) rfl rfl rfl (v := V.spt 3 (rws api_Event.cells a1_6334) (Int.toNat (Int.tmod (IntKind.i64.wrap ((IntKind.i64.wrap ((Int.tmod a2_6335 (IntKind.i64.wrap ((a1_6334.length : Int) - 1))) + (a1_6334.length : Int))) - 1)) (IntKind.i64.wrap ((a1_6334.length : Int) - 1)))) 0) (fun _ hz => (.idxSlM (f := api_Event.cells) rfl rfl rfl rfl rfl hb6542)) ?_
            refine DAny.take (i := 3) rfl (by kernel_rfl) [] (by kernel_rfl) (by kernel_rfl) (by kernel_rfl) rfl rfl rfl (v := V.spt 3 (rws api_Event.cells a1_6334) (Int.toNat (Int.tmod (IntKind.i64.wrap ((IntKind.i64.wrap ((Int.tmod a2_6335 (IntKind.i64.wrap ((a1_6334.length : Int) - 1))) + (a1_6334.length : Int))) - 1)) (IntKind.i64.wrap ((a1_6334.length : Int) - 1)))) 1) (fun _ hz => (.fn rfl)) ?_
            refine DAny.take (i := 4) rfl (by kernel_rfl) [] (by kernel_rfl) (by kernel_rfl) (by kernel_rfl) rfl rfl rfl (v := V.int .i64 ((gt a1_6334 (Int.tmod (IntKind.i64.wrap ((IntKind.i64.wrap ((Int.tmod a2_6335 (IntKind.i64.wrap ((a1_6334.length : Int) - 1))) + (a1_6334.length : Int))) - 1)) (IntKind.i64.wrap ((a1_6334.length : Int) - 1)))).Id)) (fun _ hz => (.load rfl rfl (.sptM (f := api_Event.cells) hb6542 rfl) rfl)) ?_
            refine DAny.take (i := 5) rfl (by kernel_rfl) [] (by kernel_rfl) (by kernel_rfl) (by kernel_rfl) rfl rfl rfl (v := V.sl 3 (rws api_Event.cells a1_6334)) (fun _ hz => (.fn rfl)) ?_
            refine DAny.take (i := 6) rfl (by kernel_rfl) [] (by kernel_rfl) (by kernel_rfl) (by kernel_rfl) rfl rfl rfl (v := V.int .i64 (Int.tmod (IntKind.i64.wrap ((IntKind.i64.wrap ((Int.tmod a2_6335 (IntKind.i64.wrap ((a1_6334.length : Int) - 1))) + (a1_6334.length : Int))) - 1)) (IntKind.i64.wrap ((a1_6334.length : Int) - 1)))) (fun _ hz => (.fn rfl)) ?_
            refine DAny.take (i := 7) rfl (by kernel_rfl) [] (by kernel_rfl) (by kernel_rfl) (by kernel_rfl) rfl rfl rfl (v := V.int .i64 (IntKind.i64.wrap ((Int.tmod (IntKind.i64.wrap ((IntKind.i64.wrap ((Int.tmod a2_6335 (IntKind.i64.wrap ((a1_6334.length : Int) - 1))) + (a1_6334.length : Int))) - 1)) (IntKind.i64.wrap ((a1_6334.length : Int) - 1))) + 1))) (fun _ hz => (.fn rfl)) ?_
            refine okG h (fun hb6543 h => ?_)
            refine DAny.take (i := 8) rfl (by kernel_rfl) [] (by kernel_rfl) (by kernel_rfl) (by kernel_rfl) rfl rfl rfl (v := V.spt 3 (rws api_Event.cells a1_6334) (Int.toNat (IntKind.i64.wrap ((Int.tmod (IntKind.i64.wrap ((IntKind.i64.wrap ((Int.tmod a2_6335 (IntKind.i64.wrap ((a1_6334.length : Int) - 1))) + (a1_6334.length : Int))) - 1)) (IntKind.i64.wrap ((a1_6334.length : Int) - 1))) + 1))) 0) (fun _ hz => (.idxSlM (f := api_Event.cells) rfl rfl rfl rfl rfl hb6543)) ?_
            refine DAny.take (i := 9) rfl (by kernel_rfl) [] (by kernel_rfl) (by kernel_rfl) (by kernel_rfl) rfl rfl rfl (v := V.spt 3 (rws api_Event.cells a1_6334) (Int.toNat (IntKind.i64.wrap ((Int.tmod (IntKind.i64.wrap ((IntKind.i64.wrap ((Int.tmod a2_6335 (IntKind.i64.wrap ((a1_6334.length : Int) - 1))) + (a1_6334.length : Int))) - 1)) (IntKind.i64.wrap ((a1_6334.length : Int) - 1))) + 1))) 1) (fun _ hz => (.fn rfl)) ?_
            refine DAny.take (i := 10) rfl (by kernel_rfl) [] (by kernel_rfl) (by kernel_rfl) (by kernel_rfl) rfl rfl rfl (v := V.int .i64 ((gt a1_6334 (IntKind.i64.wrap ((Int.tmod (IntKind.i64.wrap ((IntKind.i64.wrap ((Int.tmod a2_6335 (IntKind.i64.wrap ((a1_6334.length : Int) - 1))) + (a1_6334.length : Int))) - 1)) (IntKind.i64.wrap ((a1_6334.length : Int) - 1))) + 1))).Id)) (fun _ hz => (.load rfl rfl (.sptM (f := api_Event.cells) hb6543 rfl) rfl)) ?_
            refine DAny.take (i := 11) rfl (by kernel_rfl) [] (by kernel_rfl) (by kernel_rfl) (by kernel_rfl) rfl rfl rfl (v := V.bool (((gt a1_6334 (Int.tmod (IntKind.i64.wrap ((IntKind.i64.wrap ((Int.tmod a2_6335 (IntKind.i64.wrap ((a1_6334.length : Int) - 1))) + (a1_6334.length : Int))) - 1)) (IntKind.i64.wrap ((a1_6334.length : Int) - 1)))).Id) == ((gt a1_6334 (IntKind.i64.wrap ((Int.tmod (IntKind.i64.wrap ((IntKind.i64.wrap ((Int.tmod a2_6335 (IntKind.i64.wrap ((a1_6334.length : Int) - 1))) + (a1_6334.length : Int))) - 1)) (IntKind.i64.wrap ((a1_6334.length : Int) - 1))) + 1))).Id))) (fun _ hz => (.fn rfl)) ?_
            refine DAny.nil (by kernel_rfl) ?_
            repeat (first | refine Safe.seq ?_ | refine Safe.skip ?_ | with_reducible refine thenQ.n ?_ | with_reducible refine blockQ.n ?_)
            refine ifG h (fun hc6544 h => ?_) (fun hc6544 h => ?_)
            · skip
              refine Safe.condK rfl hc6544 ?_
              repeat (first | refine Safe.seq ?_ | refine Safe.skip ?_ | with_reducible refine thenQ.n ?_ | with_reducible refine blockQ.n ?_)
              refine Safe.region ?_
              refine SafeOps.quiet0 E_good rfl rfl rfl (v := V.bool x_6464) (.fn rfl) ?_
              refine SafeOps.quiet0 E_good rfl rfl rfl (v := V.bool x_6464) (.fn rfl) ?_
              refine SafeOps.nil ?_
              repeat (first | refine Safe.seq ?_ | refine Safe.skip ?_ | with_reducible refine thenQ.n ?_ | with_reducible refine blockQ.n ?_)
              refine Safe.ret ?_
              repeat (first | with_reducible refine thenQ.r ?_ | with_reducible refine blockQ.r ?_)
              obtain rfl := Option.some.inj h
              exact retQ.gen (vs := [V.bool x_6464]) rfl (.tmp (v := V.bool x_6464) rfl .nil) (.free rfl) (by simp) (.inr rfl)
            · skip
              refine Safe.condN rfl hc6544 ?_
              repeat (first | refine Safe.seq ?_ | refine Safe.skip ?_ | with_reducible refine thenQ.n ?_ | with_reducible refine blockQ.n ?_)
              refine Safe.region ?_
              refine SafeOps.quiet0 E_good rfl rfl rfl (v := V.sl 3 (rws api_Event.cells a1_6334)) (.fn rfl) ?_
              refine okG h (fun hb6545 h => ?_)
              refine SafeOps.appendM api_Event.cells (xs := []) (ys := a1_6334) E_good rfl rfl rfl rfl rfl rfl rfl rfl rfl .nils (.sl _) (fun _ => rfl) hb6545 ?_
              refine SafeOps.quiet0 E_good rfl rfl rfl (v := V.ref [105] 0 (rws api_Event.cells ([] ++ a1_6334)).length) (.fn rfl) ?_
              refine SafeOps.nil ?_
              repeat (first | refine Safe.seq ?_ | refine Safe.skip ?_ | with_reducible refine thenQ.n ?_ | with_reducible refine blockQ.n ?_)
              refine Safe.region ?_
              refine SafeOps.quiet0 E_good rfl rfl rfl (v := V.ref [105] 0 (rws api_Event.cells ([] ++ a1_6334)).length) (.fn rfl) ?_
              refine SafeOps.quiet0 E_good rfl rfl rfl (v := V.int .i64 (Int.tmod (IntKind.i64.wrap ((IntKind.i64.wrap ((Int.tmod a2_6335 (IntKind.i64.wrap ((a1_6334.length : Int) - 1))) + (a1_6334.length : Int))) - 1)) (IntKind.i64.wrap ((a1_6334.length : Int) - 1)))) (.fn rfl) ?_
              refine SafeOps.quiet0 E_good rfl rfl rfl (v := V.sl 3 (rws api_Event.cells a1_6334)) (.fn rfl) ?_
              refine SafeOps.quiet0 E_good rfl rfl rfl (v := V.int .i64 (Int.tmod (IntKind.i64.wrap ((IntKind.i64.wrap ((Int.tmod a2_6335 (IntKind.i64.wrap ((a1_6334.length : Int) - 1))) + (a1_6334.length : Int))) - 1)) (IntKind.i64.wrap ((a1_6334.length : Int) - 1)))) (.fn rfl) ?_
              refine SafeOps.quiet0 E_good rfl rfl rfl (v := V.int .i64 (IntKind.i64.wrap ((Int.tmod (IntKind.i64.wrap ((IntKind.i64.wrap ((Int.tmod a2_6335 (IntKind.i64.wrap ((a1_6334.length : Int) - 1))) + (a1_6334.length : Int))) - 1)) (IntKind.i64.wrap ((a1_6334.length : Int) - 1))) + 1))) (.fn rfl) ?_
              refine okG h (fun hb6546 h => ?_)
              refine SafeOps.quiet0 E_good rfl rfl rfl (v := V.spt 3 (rws api_Event.cells a1_6334) (Int.toNat (IntKind.i64.wrap ((Int.tmod (IntKind.i64.wrap ((IntKind.i64.wrap ((Int.tmod a2_6335 (IntKind.i64.wrap ((a1_6334.length : Int) - 1))) + (a1_6334.length : Int))) - 1)) (IntKind.i64.wrap ((a1_6334.length : Int) - 1))) + 1))) 0) (.idxSlM (f := api_Event.cells) rfl rfl rfl rfl rfl hb6546) ?_
              refine SafeOps.quiet0 E_good rfl rfl rfl (v := V.agg [V.int .i64 ((gt a1_6334 (IntKind.i64.wrap ((Int.tmod (IntKind.i64.wrap ((IntKind.i64.wrap ((Int.tmod a2_6335 (IntKind.i64.wrap ((a1_6334.length : Int) - 1))) + (a1_6334.length : Int))) - 1)) (IntKind.i64.wrap ((a1_6334.length : Int) - 1))) + 1))).Kind), V.int .i64 ((gt a1_6334 (IntKind.i64.wrap ((Int.tmod (IntKind.i64.wrap ((IntKind.i64.wrap ((Int.tmod a2_6335 (IntKind.i64.wrap ((a1_6334.length : Int) - 1))) + (a1_6334.length : Int))) - 1)) (IntKind.i64.wrap ((a1_6334.length : Int) - 1))) + 1))).Id), V.int .i64 ((gt a1_6334 (IntKind.i64.wrap ((Int.tmod (IntKind.i64.wrap ((IntKind.i64.wrap ((Int.tmod a2_6335 (IntKind.i64.wrap ((a1_6334.length : Int) - 1))) + (a1_6334.length : Int))) - 1)) (IntKind.i64.wrap ((a1_6334.length : Int) - 1))) + 1))).A)]) (.load rfl rfl (.sptM (f := api_Event.cells) hb6546 rfl) rfl) ?_
              refine okG h (fun hb6547 h => ?_)
              refine SafeOps.quiet0 E_good rfl rfl rfl (v := V.ptr [105] (0 + Int.toNat (Int.tmod (IntKind.i64.wrap ((IntKind.i64.wrap ((Int.tmod a2_6335 (IntKind.i64.wrap ((a1_6334.length : Int) - 1))) + (a1_6334.length : Int))) - 1)) (IntKind.i64.wrap ((a1_6334.length : Int) - 1)))) 0) (.idxRefM (f := api_Event.cells) (xs := [] ++ a1_6334) rfl rfl rfl rfl rfl rfl hb6547) ?_
              refine SafeOps.store (z := Obj.rows 3 (rws api_Event.cells (st ([] ++ a1_6334) (Int.tmod (IntKind.i64.wrap ((IntKind.i64.wrap ((Int.tmod a2_6335 (IntKind.i64.wrap ((a1_6334.length : Int) - 1))) + (a1_6334.length : Int))) - 1)) (IntKind.i64.wrap ((a1_6334.length : Int) - 1))) (gt a1_6334 (IntKind.i64.wrap ((Int.tmod (IntKind.i64.wrap ((IntKind.i64.wrap ((Int.tmod a2_6335 (IntKind.i64.wrap ((a1_6334.length : Int) - 1))) + (a1_6334.length : Int))) - 1)) (IntKind.i64.wrap ((a1_6334.length : Int) - 1))) + 1))))) false) E_good rfl rfl rfl rfl rfl rfl rfl (.rowsM (f := api_Event.cells) (xs := [] ++ a1_6334) (y := (gt a1_6334 (IntKind.i64.wrap ((Int.tmod (IntKind.i64.wrap ((IntKind.i64.wrap ((Int.tmod a2_6335 (IntKind.i64.wrap ((a1_6334.length : Int) - 1))) + (a1_6334.length : Int))) - 1)) (IntKind.i64.wrap ((a1_6334.length : Int) - 1))) + 1)))) hb6547 rfl rfl rfl rfl) ?_
              refine SafeOps.see 105 (u := V.ref [105] 0 (rws api_Event.cells (st ([] ++ a1_6334) (Int.tmod (IntKind.i64.wrap ((IntKind.i64.wrap ((Int.tmod a2_6335 (IntKind.i64.wrap ((a1_6334.length : Int) - 1))) + (a1_6334.length : Int))) - 1)) (IntKind.i64.wrap ((a1_6334.length : Int) - 1))) (gt a1_6334 (IntKind.i64.wrap ((Int.tmod (IntKind.i64.wrap ((IntKind.i64.wrap ((Int.tmod a2_6335 (IntKind.i64.wrap ((a1_6334.length : Int) - 1))) + (a1_6334.length : Int))) - 1)) (IntKind.i64.wrap ((a1_6334.length : Int) - 1))) + 1))))).length) rfl (.len (by simp [rws, st])) ?_
              refine SafeOps.see 16 (u := V.ref [105] 0 (rws api_Event.cells (st ([] ++ a1_6334) (Int.tmod (IntKind.i64.wrap ((IntKind.i64.wrap ((Int.tmod a2_6335 (IntKind.i64.wrap ((a1_6334.length : Int) - 1))) + (a1_6334.length : Int))) - 1)) (IntKind.i64.wrap ((a1_6334.length : Int) - 1))) (gt a1_6334 (IntKind.i64.wrap ((Int.tmod (IntKind.i64.wrap ((IntKind.i64.wrap ((Int.tmod a2_6335 (IntKind.i64.wrap ((a1_6334.length : Int) - 1))) + (a1_6334.length : Int))) - 1)) (IntKind.i64.wrap ((a1_6334.length : Int) - 1))) + 1))))).length) rfl (.len (by simp [rws, st])) ?_
              refine SafeOps.see 106 (u := V.ref [105] 0 (rws api_Event.cells (st ([] ++ a1_6334) (Int.tmod (IntKind.i64.wrap ((IntKind.i64.wrap ((Int.tmod a2_6335 (IntKind.i64.wrap ((a1_6334.length : Int) - 1))) + (a1_6334.length : Int))) - 1)) (IntKind.i64.wrap ((a1_6334.length : Int) - 1))) (gt a1_6334 (IntKind.i64.wrap ((Int.tmod (IntKind.i64.wrap ((IntKind.i64.wrap ((Int.tmod a2_6335 (IntKind.i64.wrap ((a1_6334.length : Int) - 1))) + (a1_6334.length : Int))) - 1)) (IntKind.i64.wrap ((a1_6334.length : Int) - 1))) + 1))))).length) rfl (.len (by simp [rws, st])) ?_
              refine SafeOps.nil ?_
              repeat (first | refine Safe.seq ?_ | refine Safe.skip ?_ | with_reducible refine thenQ.n ?_ | with_reducible refine blockQ.n ?_)
              refine Safe.region ?_
              refine SafeOps.quiet0 E_good rfl rfl rfl (v := V.ref [105] 0 (rws api_Event.cells (st ([] ++ a1_6334) (Int.tmod (IntKind.i64.wrap ((IntKind.i64.wrap ((Int.tmod a2_6335 (IntKind.i64.wrap ((a1_6334.length : Int) - 1))) + (a1_6334.length : Int))) - 1)) (IntKind.i64.wrap ((a1_6334.length : Int) - 1))) (gt a1_6334 (IntKind.i64.wrap ((Int.tmod (IntKind.i64.wrap ((IntKind.i64.wrap ((Int.tmod a2_6335 (IntKind.i64.wrap ((a1_6334.length : Int) - 1))) + (a1_6334.length : Int))) - 1)) (IntKind.i64.wrap ((a1_6334.length : Int) - 1))) + 1))))).length) (.fn rfl) ?_
              refine SafeOps.quiet0 E_good rfl rfl rfl (v := V.int .i64 (Int.tmod (IntKind.i64.wrap ((IntKind.i64.wrap ((Int.tmod a2_6335 (IntKind.i64.wrap ((a1_6334.length : Int) - 1))) + (a1_6334.length : Int))) - 1)) (IntKind.i64.wrap ((a1_6334.length : Int) - 1)))) (.fn rfl) ?_
              refine SafeOps.quiet0 E_good rfl rfl rfl (v := V.int .i64 (IntKind.i64.wrap ((Int.tmod (IntKind.i64.wrap ((IntKind.i64.wrap ((Int.tmod a2_6335 (IntKind.i64.wrap ((a1_6334.length : Int) - 1))) + (a1_6334.length : Int))) - 1)) (IntKind.i64.wrap ((a1_6334.length : Int) - 1))) + 1))) (.fn rfl) ?_
              refine SafeOps.quiet0 E_good rfl rfl rfl (v := V.sl 3 (rws api_Event.cells a1_6334)) (.fn rfl) ?_
              refine SafeOps.quiet0 E_good rfl rfl rfl (v := V.int .i64 (Int.tmod (IntKind.i64.wrap ((IntKind.i64.wrap ((Int.tmod a2_6335 (IntKind.i64.wrap ((a1_6334.length : Int) - 1))) + (a1_6334.length : Int))) - 1)) (IntKind.i64.wrap ((a1_6334.length : Int) - 1)))) (.fn rfl) ?_
              refine okG h (fun hb6548 h => ?_)
              refine SafeOps.quiet0 E_good rfl rfl rfl (v := V.spt 3 (rws api_Event.cells a1_6334) (Int.toNat (Int.tmod (IntKind.i64.wrap ((IntKind.i64.wrap ((Int.tmod a2_6335 (IntKind.i64.wrap ((a1_6334.length : Int) - 1))) + (a1_6334.length : Int))) - 1)) (IntKind.i64.wrap ((a1_6334.length : Int) - 1)))) 0) (.idxSlM (f := api_Event.cells) rfl rfl rfl rfl rfl hb6548) ?_
              refine SafeOps.quiet0 E_good rfl rfl rfl (v := V.agg [V.int .i64 ((gt a1_6334 (Int.tmod (IntKind.i64.wrap ((IntKind.i64.wrap ((Int.tmod a2_6335 (IntKind.i64.wrap ((a1_6334.length : Int) - 1))) + (a1_6334.length : Int))) - 1)) (IntKind.i64.wrap ((a1_6334.length : Int) - 1)))).Kind), V.int .i64 ((gt a1_6334 (Int.tmod (IntKind.i64.wrap ((IntKind.i64.wrap ((Int.tmod a2_6335 (IntKind.i64.wrap ((a1_6334.length : Int) - 1))) + (a1_6334.length : Int))) - 1)) (IntKind.i64.wrap ((a1_6334.length : Int) - 1)))).Id), V.int .i64 ((gt a1_6334 (Int.tmod (IntKind.i64.wrap ((IntKind.i64.wrap ((Int.tmod a2_6335 (IntKind.i64.wrap ((a1_6334.length : Int) - 1))) + (a1_6334.length : Int))) - 1)) (IntKind.i64.wrap ((a1_6334.length : Int) - 1)))).A)]) (.load rfl rfl (.sptM (f := api_Event.cells) hb6548 rfl) rfl) ?_
              refine okG h (fun hb6549 h => ?_)
              refine SafeOps.quiet0 E_good rfl rfl rfl (v := V.ptr [105] (0 + Int.toNat (IntKind.i64.wrap ((Int.tmod (IntKind.i64.wrap ((IntKind.i64.wrap ((Int.tmod a2_6335 (IntKind.i64.wrap ((a1_6334.length : Int) - 1))) + (a1_6334.length : Int))) - 1)) (IntKind.i64.wrap ((a1_6334.length : Int) - 1))) + 1))) 0) (.idxRefM (f := api_Event.cells) (xs := st ([] ++ a1_6334) (Int.tmod (IntKind.i64.wrap ((IntKind.i64.wrap ((Int.tmod a2_6335 (IntKind.i64.wrap ((a1_6334.length : Int) - 1))) + (a1_6334.length : Int))) - 1)) (IntKind.i64.wrap ((a1_6334.length : Int) - 1))) (gt a1_6334 (IntKind.i64.wrap ((Int.tmod (IntKind.i64.wrap ((IntKind.i64.wrap ((Int.tmod a2_6335 (IntKind.i64.wrap ((a1_6334.length : Int) - 1))) + (a1_6334.length : Int))) - 1)) (IntKind.i64.wrap ((a1_6334.length : Int) - 1))) + 1)))) rfl rfl rfl rfl rfl rfl hb6549) ?_
              refine SafeOps.store (z := Obj.rows 3 (rws api_Event.cells (st (st ([] ++ a1_6334) (Int.tmod (IntKind.i64.wrap ((IntKind.i64.wrap ((Int.tmod a2_6335 (IntKind.i64.wrap ((a1_6334.length : Int) - 1))) + (a1_6334.length : Int))) - 1)) (IntKind.i64.wrap ((a1_6334.length : Int) - 1))) (gt a1_6334 (IntKind.i64.wrap ((Int.tmod (IntKind.i64.wrap ((IntKind.i64.wrap ((Int.tmod a2_6335 (IntKind.i64.wrap ((a1_6334.length : Int) - 1))) + (a1_6334.length : Int))) - 1)) (IntKind.i64.wrap ((a1_6334.length : Int) - 1))) + 1)))) (IntKind.i64.wrap ((Int.tmod (IntKind.i64.wrap ((IntKind.i64.wrap ((Int.tmod a2_6335 (IntKind.i64.wrap ((a1_6334.length : Int) - 1))) + (a1_6334.length : Int))) - 1)) (IntKind.i64.wrap ((a1_6334.length : Int) - 1))) + 1)) (gt a1_6334 (Int.tmod (IntKind.i64.wrap ((IntKind.i64.wrap ((Int.tmod a2_6335 (IntKind.i64.wrap ((a1_6334.length : Int) - 1))) + (a1_6334.length : Int))) - 1)) (IntKind.i64.wrap ((a1_6334.length : Int) - 1)))))) false) E_good rfl rfl rfl rfl rfl rfl rfl (.rowsM (f := api_Event.cells) (xs := st ([] ++ a1_6334) (Int.tmod (IntKind.i64.wrap ((IntKind.i64.wrap ((Int.tmod a2_6335 (IntKind.i64.wrap ((a1_6334.length : Int) - 1))) + (a1_6334.length : Int))) - 1)) (IntKind.i64.wrap ((a1_6334.length : Int) - 1))) (gt a1_6334 (IntKind.i64.wrap ((Int.tmod (IntKind.i64.wrap ((IntKind.i64.wrap ((Int.tmod a2_6335 (IntKind.i64.wrap ((a1_6334.length : Int) - 1))) + (a1_6334.length : Int))) - 1)) (IntKind.i64.wrap ((a1_6334.length : Int) - 1))) + 1)))) (y := (gt a1_6334 (Int.tmod (IntKind.i64.wrap ((IntKind.i64.wrap ((Int.tmod a2_6335 (IntKind.i64.wrap ((a1_6334.length : Int) - 1))) + (a1_6334.length : Int))) - 1)) (IntKind.i64.wrap ((a1_6334.length : Int) - 1))))) hb6549 rfl rfl rfl rfl) ?_
              refine SafeOps.see 105 (u := V.ref [105] 0 (rws api_Event.cells (st (st ([] ++ a1_6334) (Int.tmod (IntKind.i64.wrap ((IntKind.i64.wrap ((Int.tmod a2_6335 (IntKind.i64.wrap ((a1_6334.length : Int) - 1))) + (a1_6334.length : Int))) - 1)) (IntKind.i64.wrap ((a1_6334.length : Int) - 1))) (gt a1_6334 (IntKind.i64.wrap ((Int.tmod (IntKind.i64.wrap ((IntKind.i64.wrap ((Int.tmod a2_6335 (IntKind.i64.wrap ((a1_6334.length : Int) - 1))) + (a1_6334.length : Int))) - 1)) (IntKind.i64.wrap ((a1_6334.length : Int) - 1))) + 1)))) (IntKind.i64.wrap ((Int.tmod (IntKind.i64.wrap ((IntKind.i64.wrap ((Int.tmod a2_6335 (IntKind.i64.wrap ((a1_6334.length : Int) - 1))) + (a1_6334.length : Int))) - 1)) (IntKind.i64.wrap ((a1_6334.length : Int) - 1))) + 1)) (gt a1_6334 (Int.tmod (IntKind.i64.wrap ((IntKind.i64.wrap ((Int.tmod a2_6335 (IntKind.i64.wrap ((a1_6334.length : Int) - 1))) + (a1_6334.length : Int))) - 1)) (IntKind.i64.wrap ((a1_6334.length : Int) - 1)))))).length) rfl (.len (by simp [rws, st])) ?_
              refine SafeOps.see 16 (u := V.ref [105] 0 (rws api_Event.cells (st (st ([] ++ a1_6334) (Int.tmod (IntKind.i64.wrap ((IntKind.i64.wrap ((Int.tmod a2_6335 (IntKind.i64.wrap ((a1_6334.length : Int) - 1))) + (a1_6334.length : Int))) - 1)) (IntKind.i64.wrap ((a1_6334.length : Int) - 1))) (gt a1_6334 (IntKind.i64.wrap ((Int.tmod (IntKind.i64.wrap ((IntKind.i64.wrap ((Int.tmod a2_6335 (IntKind.i64.wrap ((a1_6334.length : Int) - 1))) + (a1_6334.length : Int))) - 1)) (IntKind.i64.wrap ((a1_6334.length : Int) - 1))) + 1)))) (IntKind.i64.wrap ((Int.tmod (IntKind.i64.wrap ((IntKind.i64.wrap ((Int.tmod a2_6335 (IntKind.i64.wrap ((a1_6334.length : Int) - 1))) + (a1_6334.length : Int))) - 1)) (IntKind.i64.wrap ((a1_6334.length : Int) - 1))) + 1)) (gt a1_6334 (Int.tmod (IntKind.i64.wrap ((IntKind.i64.wrap ((Int.tmod a2_6335 (IntKind.i64.wrap ((a1_6334.length : Int) - 1))) + (a1_6334.length : Int))) - 1)) (IntKind.i64.wrap ((a1_6334.length : Int) - 1)))))).length) rfl (.len (by simp [rws, st])) ?_
              refine SafeOps.see 106 (u := V.ref [105] 0 (rws api_Event.cells (st (st ([] ++ a1_6334) (Int.tmod (IntKind.i64.wrap ((IntKind.i64.wrap ((Int.tmod a2_6335 (IntKind.i64.wrap ((a1_6334.length : Int) - 1))) + (a1_6334.length : Int))) - 1)) (IntKind.i64.wrap ((a1_6334.length : Int) - 1))) (gt a1_6334 (IntKind.i64.wrap ((Int.tmod (IntKind.i64.wrap ((IntKind.i64.wrap ((Int.tmod a2_6335 (IntKind.i64.wrap ((a1_6334.length : Int) - 1))) + (a1_6334.length : Int))) - 1)) (IntKind.i64.wrap ((a1_6334.length : Int) - 1))) + 1)))) (IntKind.i64.wrap ((Int.tmod (IntKind.i64.wrap ((IntKind.i64.wrap ((Int.tmod a2_6335 (IntKind.i64.wrap ((a1_6334.length : Int) - 1))) + (a1_6334.length : Int))) - 1)) (IntKind.i64.wrap ((a1_6334.length : Int) - 1))) + 1)) (gt a1_6334 (Int.tmod (IntKind.i64.wrap ((IntKind.i64.wrap ((Int.tmod a2_6335 (IntKind.i64.wrap ((a1_6334.length : Int) - 1))) + (a1_6334.length : Int))) - 1)) (IntKind.i64.wrap ((a1_6334.length : Int) - 1)))))).length) rfl (.len (by simp [rws, st])) ?_
              refine SafeOps.see 114 (u := V.ref [105] 0 (rws api_Event.cells (st (st ([] ++ a1_6334) (Int.tmod (IntKind.i64.wrap ((IntKind.i64.wrap ((Int.tmod a2_6335 (IntKind.i64.wrap ((a1_6334.length : Int) - 1))) + (a1_6334.length : Int))) - 1)) (IntKind.i64.wrap ((a1_6334.length : Int) - 1))) (gt a1_6334 (IntKind.i64.wrap ((Int.tmod (IntKind.i64.wrap ((IntKind.i64.wrap ((Int.tmod a2_6335 (IntKind.i64.wrap ((a1_6334.length : Int) - 1))) + (a1_6334.length : Int))) - 1)) (IntKind.i64.wrap ((a1_6334.length : Int) - 1))) + 1)))) (IntKind.i64.wrap ((Int.tmod (IntKind.i64.wrap ((IntKind.i64.wrap ((Int.tmod a2_6335 (IntKind.i64.wrap ((a1_6334.length : Int) - 1))) + (a1_6334.length : Int))) - 1)) (IntKind.i64.wrap ((a1_6334.length : Int) - 1))) + 1)) (gt a1_6334 (Int.tmod (IntKind.i64.wrap ((IntKind.i64.wrap ((Int.tmod a2_6335 (IntKind.i64.wrap ((a1_6334.length : Int) - 1))) + (a1_6334.length : Int))) - 1)) (IntKind.i64.wrap ((a1_6334.length : Int) - 1)))))).length) rfl (.len (by simp [rws, st])) ?_
              refine SafeOps.nil ?_
              repeat (first | refine Safe.seq ?_ | refine Safe.skip ?_ | with_reducible refine thenQ.n ?_ | with_reducible refine blockQ.n ?_)
              refine Safe.region ?_
              refine SafeOps.quiet0 E_good rfl rfl rfl (v := V.sl 1 (rws (fun l => [V.sl 3 (rws api_Instr.cells l)]) a0_6333)) (.fn rfl) ?_
              refine SafeOps.quiet0 E_good rfl rfl rfl (v := V.ref [105] 0 (rws api_Event.cells (st (st ([] ++ a1_6334) (Int.tmod (IntKind.i64.wrap ((IntKind.i64.wrap ((Int.tmod a2_6335 (IntKind.i64.wrap ((a1_6334.length : Int) - 1))) + (a1_6334.length : Int))) - 1)) (IntKind.i64.wrap ((a1_6334.length : Int) - 1))) (gt a1_6334 (IntKind.i64.wrap ((Int.tmod (IntKind.i64.wrap ((IntKind.i64.wrap ((Int.tmod a2_6335 (IntKind.i64.wrap ((a1_6334.length : Int) - 1))) + (a1_6334.length : Int))) - 1)) (IntKind.i64.wrap ((a1_6334.length : Int) - 1))) + 1)))) (IntKind.i64.wrap ((Int.tmod (IntKind.i64.wrap ((IntKind.i64.wrap ((Int.tmod a2_6335 (IntKind.i64.wrap ((a1_6334.length : Int) - 1))) + (a1_6334.length : Int))) - 1)) (IntKind.i64.wrap ((a1_6334.length : Int) - 1))) + 1)) (gt a1_6334 (Int.tmod (IntKind.i64.wrap ((IntKind.i64.wrap ((Int.tmod a2_6335 (IntKind.i64.wrap ((a1_6334.length : Int) - 1))) + (a1_6334.length : Int))) - 1)) (IntKind.i64.wrap ((a1_6334.length : Int) - 1)))))).length) (.fn rfl) ?_
              refine bindG h ?_
              rintro ⟨x_6550, x_6551⟩ he6552 h
              refine SafeOps.quiet0 E_good rfl rfl rfl (v := V.tup [V.int .i64 x_6550, V.int .i64 x_6551]) (.callS rfl (.cons (.free rfl) (.cons (.full rfl rfl) .nil)) (go_trace_Check_sc a0_6333 (st (st ([] ++ a1_6334) (Int.tmod (IntKind.i64.wrap ((IntKind.i64.wrap ((Int.tmod a2_6335 (IntKind.i64.wrap ((a1_6334.length : Int) - 1))) + (a1_6334.length : Int))) - 1)) (IntKind.i64.wrap ((a1_6334.length : Int) - 1))) (gt a1_6334 (IntKind.i64.wrap ((Int.tmod (IntKind.i64.wrap ((IntKind.i64.wrap ((Int.tmod a2_6335 (IntKind.i64.wrap ((a1_6334.length : Int) - 1))) + (a1_6334.length : Int))) - 1)) (IntKind.i64.wrap ((a1_6334.length : Int) - 1))) + 1)))) (IntKind.i64.wrap ((Int.tmod (IntKind.i64.wrap ((IntKind.i64.wrap ((Int.tmod a2_6335 (IntKind.i64.wrap ((a1_6334.length : Int) - 1))) + (a1_6334.length : Int))) - 1)) (IntKind.i64.wrap ((a1_6334.length : Int) - 1))) + 1)) (gt a1_6334 (Int.tmod (IntKind.i64.wrap ((IntKind.i64.wrap ((Int.tmod a2_6335 (IntKind.i64.wrap ((a1_6334.length : Int) - 1))) + (a1_6334.length : Int))) - 1)) (IntKind.i64.wrap ((a1_6334.length : Int) - 1))))) _ he6552) (.tupL (.cons (.plain rfl) (.cons (.plain rfl) .nil))) rfl) ?_
              refine SafeOps.quiet0 E_good rfl rfl rfl (v := V.tup [V.int .i64 x_6550, V.int .i64 x_6551]) (.fn rfl) ?_
              refine SafeOps.quiet0 E_good rfl rfl rfl (v := V.int .i64 x_6550) (.fn rfl) ?_
              refine SafeOps.quiet0 E_good rfl rfl rfl (v := V.int .i64 x_6551) (.fn rfl) ?_
              refine SafeOps.quiet0 E_good rfl rfl rfl (v := V.int .i64 x_6550) (.fn rfl) ?_
              refine SafeOps.quiet0 E_good rfl rfl rfl (v := V.int .i64 x_6551) (.fn rfl) ?_
              refine SafeOps.nil ?_
              repeat (first | refine Safe.seq ?_ | refine Safe.skip ?_ | with_reducible refine thenQ.n ?_ | with_reducible refine blockQ.n ?_)
              refine Safe.region ?_
              refine SafeOps.quiet0 E_good rfl rfl rfl (v := V.bool x_6464) (.fn rfl) ?_
              refine SafeOps.quiet0 E_good rfl rfl rfl (v := V.bool x_6464) (.fn rfl) ?_
              refine SafeOps.bjoin 3 132 (b := (x_6464 && (x_6551 == 0))) (b1 := (x_6551 == 0)) (b0 := false) (fun hc6553 K => ?_) (fun hc6553 K => ?_) bj_and ?_
              · skip
                refine SafeOps.quiet0 E_good (congrArg some hc6553) rfl rfl (v := V.int .i64 x_6551) (.fn rfl) ?_
                refine SafeOps.quiet0 E_good (congrArg some hc6553) rfl rfl (v := V.bool (x_6551 == 0)) (.fn rfl) ?_
                refine SafeOps.quiet0 E_good rfl rfl rfl (v := V.bool (x_6551 == 0)) (.pickK rfl hc6553 rfl) ?_
                exact SafeOps.drop' 3 rfl rfl rfl K
              · skip
                refine SafeOps.skip (congrArg some hc6553) rfl rfl ?_
                refine SafeOps.skip (congrArg some hc6553) rfl rfl ?_
                refine SafeOps.quiet0 E_good rfl rfl rfl (v := V.bool false) (.pickK rfl hc6553 rfl) ?_
                exact SafeOps.drop' 3 rfl rfl rfl K
              refine SafeOps.quiet0 E_good rfl rfl rfl (v := V.bool (x_6464 && (x_6551 == 0))) (.fn rfl) ?_
              refine SafeOps.bjoin 10 143 (b := ((x_6464 && (x_6551 == 0)) && ((x_6550 == (a1_6334.length : Int)) == (x_6470 == (a1_6334.length : Int))))) (b1 := ((x_6550 == (a1_6334.length : Int)) == (x_6470 == (a1_6334.length : Int)))) (b0 := false) (fun hc6554 K => ?_) (fun hc6554 K => ?_) bj_and ?_
              · skip
                refine SafeOps.quiet0 E_good (congrArg some hc6554) rfl rfl (v := V.int .i64 x_6550) (.fn rfl) ?_
                refine SafeOps.quiet0 E_good (congrArg some hc6554) rfl rfl (v := V.sl 3 (rws api_Event.cells a1_6334)) (.fn rfl) ?_
                refine SafeOps.quiet0 E_good (congrArg some hc6554) rfl rfl (v := V.int .i64 (a1_6334.length : Int)) (.fnE rfl lenE) ?_
                refine SafeOps.quiet0 E_good (congrArg some hc6554) rfl rfl (v := V.bool (x_6550 == (a1_6334.length : Int))) (.fn rfl) ?_
                refine SafeOps.quiet0 E_good (congrArg some hc6554) rfl rfl (v := V.int .i64 x_6470) (.fn rfl) ?_
                refine SafeOps.quiet0 E_good (congrArg some hc6554) rfl rfl (v := V.sl 3 (rws api_Event.cells a1_6334)) (.fn rfl) ?_
                refine SafeOps.quiet0 E_good (congrArg some hc6554) rfl rfl (v := V.int .i64 (a1_6334.length : Int)) (.fnE rfl lenE) ?_
                refine SafeOps.quiet0 E_good (congrArg some hc6554) rfl rfl (v := V.bool (x_6470 == (a1_6334.length : Int))) (.fn rfl) ?_
                refine SafeOps.quiet0 E_good (congrArg some hc6554) rfl rfl (v := V.bool ((x_6550 == (a1_6334.length : Int)) == (x_6470 == (a1_6334.length : Int)))) (.fn rfl) ?_
                refine SafeOps.quiet0 E_good rfl rfl rfl (v := V.bool ((x_6550 == (a1_6334.length : Int)) == (x_6470 == (a1_6334.length : Int)))) (.pickK rfl hc6554 rfl) ?_
                exact SafeOps.drop' 10 rfl rfl rfl K
              · skip
                refine SafeOps.skip (congrArg some hc6554) rfl rfl ?_
                refine SafeOps.skip (congrArg some hc6554) rfl rfl ?_
                refine SafeOps.skip (congrArg some hc6554) rfl rfl ?_
                refine SafeOps.skip (congrArg some hc6554) rfl rfl ?_
                refine SafeOps.skip (congrArg some hc6554) rfl rfl ?_
                refine SafeOps.skip (congrArg some hc6554) rfl rfl ?_
                refine SafeOps.skip (congrArg some hc6554) rfl rfl ?_
                refine SafeOps.skip (congrArg some hc6554) rfl rfl ?_
                refine SafeOps.skip (congrArg some hc6554) rfl rfl ?_
                refine SafeOps.quiet0 E_good rfl rfl rfl (v := V.bool false) (.pickK rfl hc6554 rfl) ?_
                exact SafeOps.drop' 10 rfl rfl rfl K
              refine SafeOps.quiet0 E_good rfl rfl rfl (v := V.bool ((x_6464 && (x_6551 == 0)) && ((x_6550 == (a1_6334.length : Int)) == (x_6470 == (a1_6334.length : Int))))) (.fn rfl) ?_
              refine SafeOps.nil ?_
              repeat (first | refine Safe.seq ?_ | refine Safe.skip ?_ | with_reducible refine thenQ.n ?_ | with_reducible refine blockQ.n ?_)
              refine Safe.ret ?_
              repeat (first | with_reducible refine thenQ.r ?_ | with_reducible refine blockQ.r ?_)
              obtain rfl := Option.some.inj h
              exact retQ.gen (vs := [V.bool ((x_6464 && (x_6551 == 0)) && ((x_6550 == (a1_6334.length : Int)) == (x_6470 == (a1_6334.length : Int))))]) rfl (.tmp (v := V.bool ((x_6464 && (x_6551 == 0)) && ((x_6550 == (a1_6334.length : Int)) == (x_6470 == (a1_6334.length : Int))))) rfl .nil) (.free rfl) (by simp) (.inr rfl)

def go_ravelref04_in (a0_6679 : Int) (a1_6680 : Int) (a2_6681 : Int) : Bool :=
  ((decide (a0_6679 ≥ a1_6680)) && (decide (a0_6679 ≤ a2_6681)))

def go_ravelref04_may (a0_6678 : api_Instr) : Bool :=
  if (a0_6678.Op == 1) = true then
    ((go_ravelref04_in a0_6678.A 1 100) && (a0_6678.B == 0))
  else
    if (a0_6678.Op == 2) = true then
      ((go_ravelref04_in a0_6678.A 0 15) && (go_ravelref04_in a0_6678.B 0 3))
    else
      if ((a0_6678.Op == 3) || (a0_6678.Op == 9)) = true then
        ((a0_6678.A == 0) && (a0_6678.B == 0))
      else
        if (a0_6678.Op == 4) = true then
          ((go_ravelref04_in a0_6678.A 1 1000) && (a0_6678.B == 0))
        else
          if (a0_6678.Op == 5) = true then
            ((go_ravelref04_in a0_6678.A 0 15) && (a0_6678.B == 0))
          else
            if (a0_6678.Op == 6) = true then
              ((go_ravelref04_in a0_6678.A 0 3) && (a0_6678.B == 0))
            else
              ((((a0_6678.Op == 7) || (a0_6678.Op == 8)) && (go_ravelref04_in a0_6678.A 0 7)) && (a0_6678.B == 0))

end Go.Proofs.YtpkegoikocfchaaDoor
