/- Helper lemmas for the claim's theorem: an abstract machine over the model, proved sound; no condition beyond each lemma's own. -/
import Derived.Test.YtpkegoikocfchaaDoorT1
set_option linter.unusedVariables false
set_option linter.unusedSimpArgs false
set_option linter.unnecessarySimpa false
set_option linter.unusedSectionVars false
namespace Go.Proofs.YtpkegoikocfchaaDoor
open Go Go.AM
set_option maxRecDepth 100000
set_option maxHeartbeats 1000000
set_option linter.unusedVariables false
set_option linter.unusedSimpArgs false
noncomputable def go_ravellaw18_live  : Option Bool :=
  (go_trace_Check [[(api_Instr.mk 1 1 0), (api_Instr.mk 9 0 0)]] [(api_Event.mk 1 7 0), (api_Event.mk 2 7 1), (api_Event.mk 2 7 9), (api_Event.mk 5 7 0)]).bind fun (x_6257, x_6258) =>
  some ((x_6258 == 0) && (x_6257 == 4))

theorem go_ravellaw18_live_sc  (r : Bool) (h : go_ravellaw18_live  = some r) : SC Tryd.prog gl 9 [] (V.bool r) := by
  rw [go_ravellaw18_live] at h
  refine SC.of E_good Tryd.func9 rfl (fun _ _ => Tryd.call9 _ _) rfl ?_
  repeat (first | refine Safe.seq ?_ | refine Safe.skip ?_ | with_reducible refine thenQ.n ?_ | with_reducible refine blockQ.n ?_)
  refine Safe.region ?_
  refine SafeOps.quiet0 E_good rfl rfl rfl (v := V.bool false) (.fn rfl) ?_
  refine SafeOps.nil ?_
  repeat (first | refine Safe.seq ?_ | refine Safe.skip ?_ | with_reducible refine thenQ.n ?_ | with_reducible refine blockQ.n ?_)
  refine Safe.region ?_
  refine SafeOps.quiet0 E_good rfl rfl rfl (v := V.agg [V.int .i64 1, V.int .i64 1, V.int .i64 0]) (.fn rfl) ?_
  refine SafeOps.quiet0 E_good rfl rfl rfl (v := V.agg [V.int .i64 9, V.int .i64 0, V.int .i64 0]) (.fn rfl) ?_
  refine SafeOps.quiet1 E_good rfl rfl rfl (.litM (f := api_Instr.cells) (xs := [(api_Instr.mk 1 1 0), (api_Instr.mk 9 0 0)]) rfl rfl (by decide) rfl rfl rfl rfl rfl) rfl ?_
  refine SafeOps.freeze [7] rfl ?_
  refine SafeOps.see 7 (u := V.sl 3 (rws api_Instr.cells [(api_Instr.mk 1 1 0), (api_Instr.mk 9 0 0)])) rfl (.full rfl rfl) ?_
  refine SafeOps.quiet1 E_good rfl rfl rfl (.litM (f := (fun l => [V.sl 3 (rws api_Instr.cells l)])) (xs := [[(api_Instr.mk 1 1 0), (api_Instr.mk 9 0 0)]]) rfl rfl (by decide) rfl rfl rfl rfl rfl) rfl ?_
  refine SafeOps.quiet0 E_good rfl rfl rfl (v := V.ref [8] 0 (rws (fun l => [V.sl 3 (rws api_Instr.cells l)]) [[(api_Instr.mk 1 1 0), (api_Instr.mk 9 0 0)]]).length) (.fn rfl) ?_
  refine SafeOps.nil ?_
  repeat (first | refine Safe.seq ?_ | refine Safe.skip ?_ | with_reducible refine thenQ.n ?_ | with_reducible refine blockQ.n ?_)
  refine Safe.region ?_
  refine SafeOps.quiet0 E_good rfl rfl rfl (v := V.agg [V.int .i64 1, V.int .i64 7, V.int .i64 0]) (.fn rfl) ?_
  refine SafeOps.quiet0 E_good rfl rfl rfl (v := V.agg [V.int .i64 2, V.int .i64 7, V.int .i64 1]) (.fn rfl) ?_
  refine SafeOps.quiet0 E_good rfl rfl rfl (v := V.agg [V.int .i64 2, V.int .i64 7, V.int .i64 9]) (.fn rfl) ?_
  refine SafeOps.quiet0 E_good rfl rfl rfl (v := V.agg [V.int .i64 5, V.int .i64 7, V.int .i64 0]) (.fn rfl) ?_
  refine SafeOps.quiet1 E_good rfl rfl rfl (.litM (f := api_Event.cells) (xs := [(api_Event.mk 1 7 0), (api_Event.mk 2 7 1), (api_Event.mk 2 7 9), (api_Event.mk 5 7 0)]) rfl rfl (by decide) rfl rfl rfl rfl rfl) rfl ?_
  refine SafeOps.quiet0 E_good rfl rfl rfl (v := V.ref [13] 0 (rws api_Event.cells [(api_Event.mk 1 7 0), (api_Event.mk 2 7 1), (api_Event.mk 2 7 9), (api_Event.mk 5 7 0)]).length) (.fn rfl) ?_
  refine SafeOps.nil ?_
  repeat (first | refine Safe.seq ?_ | refine Safe.skip ?_ | with_reducible refine thenQ.n ?_ | with_reducible refine blockQ.n ?_)
  refine Safe.region ?_
  refine SafeOps.quiet0 E_good rfl rfl rfl (v := V.ref [8] 0 (rws (fun l => [V.sl 3 (rws api_Instr.cells l)]) [[(api_Instr.mk 1 1 0), (api_Instr.mk 9 0 0)]]).length) (.fn rfl) ?_
  refine SafeOps.quiet0 E_good rfl rfl rfl (v := V.ref [13] 0 (rws api_Event.cells [(api_Event.mk 1 7 0), (api_Event.mk 2 7 1), (api_Event.mk 2 7 9), (api_Event.mk 5 7 0)]).length) (.fn rfl) ?_
  refine bindG h ?_
  rintro ⟨x_6257, x_6258⟩ he6259 h
  refine SafeOps.quiet0 E_good rfl rfl rfl (v := V.tup [V.int .i64 x_6257, V.int .i64 x_6258]) (.callS rfl (.cons (.full rfl rfl) (.cons (.full rfl rfl) .nil)) (go_trace_Check_sc [[(api_Instr.mk 1 1 0), (api_Instr.mk 9 0 0)]] [(api_Event.mk 1 7 0), (api_Event.mk 2 7 1), (api_Event.mk 2 7 9), (api_Event.mk 5 7 0)] _ he6259) (.tupL (.cons (.plain rfl) (.cons (.plain rfl) .nil))) rfl) ?_
  refine SafeOps.quiet0 E_good rfl rfl rfl (v := V.tup [V.int .i64 x_6257, V.int .i64 x_6258]) (.fn rfl) ?_
  refine SafeOps.quiet0 E_good rfl rfl rfl (v := V.int .i64 x_6257) (.fn rfl) ?_
  refine SafeOps.quiet0 E_good rfl rfl rfl (v := V.int .i64 x_6258) (.fn rfl) ?_
  refine SafeOps.quiet0 E_good rfl rfl rfl (v := V.int .i64 x_6257) (.fn rfl) ?_
  refine SafeOps.quiet0 E_good rfl rfl rfl (v := V.int .i64 x_6258) (.fn rfl) ?_
  refine SafeOps.nil ?_
  repeat (first | refine Safe.seq ?_ | refine Safe.skip ?_ | with_reducible refine thenQ.n ?_ | with_reducible refine blockQ.n ?_)
  refine Safe.region ?_
  refine SafeOps.quiet0 E_good rfl rfl rfl (v := V.int .i64 x_6258) (.fn rfl) ?_
  refine SafeOps.quiet0 E_good rfl rfl rfl (v := V.bool (x_6258 == 0)) (.fn rfl) ?_
  refine SafeOps.quiet0 E_good rfl rfl rfl (v := V.bool (x_6258 == 0)) (.fn rfl) ?_
  refine SafeOps.bjoin 3 25 (b := ((x_6258 == 0) && (x_6257 == 4))) (b1 := (x_6257 == 4)) (b0 := false) (fun hc6260 K => ?_) (fun hc6260 K => ?_) bj_and ?_
  · skip
    refine SafeOps.quiet0 E_good (congrArg some hc6260) rfl rfl (v := V.int .i64 x_6257) (.fn rfl) ?_
    refine SafeOps.quiet0 E_good (congrArg some hc6260) rfl rfl (v := V.bool (x_6257 == 4)) (.fn rfl) ?_
    refine SafeOps.quiet0 E_good rfl rfl rfl (v := V.bool (x_6257 == 4)) (.pickK rfl hc6260 rfl) ?_
    exact SafeOps.drop' 3 rfl rfl rfl K
  · skip
    refine SafeOps.skip (congrArg some hc6260) rfl rfl ?_
    refine SafeOps.skip (congrArg some hc6260) rfl rfl ?_
    refine SafeOps.quiet0 E_good rfl rfl rfl (v := V.bool false) (.pickK rfl hc6260 rfl) ?_
    exact SafeOps.drop' 3 rfl rfl rfl K
  refine SafeOps.quiet0 E_good rfl rfl rfl (v := V.bool ((x_6258 == 0) && (x_6257 == 4))) (.fn rfl) ?_
  refine SafeOps.nil ?_
  repeat (first | refine Safe.seq ?_ | refine Safe.skip ?_ | with_reducible refine thenQ.n ?_ | with_reducible refine blockQ.n ?_)
  refine Safe.ret ?_
  repeat (first | with_reducible refine thenQ.r ?_ | with_reducible refine blockQ.r ?_)
  obtain rfl := Option.some.inj h
  exact retQ.gen (vs := [V.bool ((x_6258 == 0) && (x_6257 == 4))]) rfl (.tmp (v := V.bool ((x_6258 == 0) && (x_6257 == 4))) rfl .nil) (.free rfl) (by simp) (.inr rfl)

noncomputable def go_ravelref04_Few_s1 (a0_6263 : List (List api_Instr)) : (Int) → Option ((Int) ⊕ (Bool))
  | v7_6284 =>
    if (decide (v7_6284 < (a0_6263.length : Int))) = true then
      if 0 ≤ v7_6284 ∧ v7_6284 < (a0_6263.length : Int) then
        if (decide (((gt a0_6263 v7_6284).length : Int) > 100)) = true then
          inrO (
            some false)
        else
          nextO (IntKind.i64.wrap (v7_6284 + 1))
      else none
    else
      inrO (
        some (decide ((a0_6263.length : Int) ≤ 100)))

noncomputable def go_ravelref04_Few (a0_6263 : List (List api_Instr)) : Option Bool :=
  whileO (go_ravelref04_Few_s1 a0_6263) 0

theorem go_ravelref04_Few_sc (a0_6263 : List (List api_Instr)) (r : Bool) (h : go_ravelref04_Few a0_6263 = some r) : SC Tryd.prog gl 10 [V.sl 1 (rws (fun l => [V.sl 3 (rws api_Instr.cells l)]) a0_6263)] (V.bool r) := by
  rw [go_ravelref04_Few] at h
  refine SC.of E_good Tryd.func10 rfl (fun _ _ => Tryd.call10 _ _) rfl ?_
  repeat (first | refine Safe.seq ?_ | refine Safe.skip ?_ | with_reducible refine thenQ.n ?_ | with_reducible refine blockQ.n ?_)
  refine Safe.region ?_
  refine SafeOps.quiet0 E_good rfl rfl rfl (v := V.bool false) (.fn rfl) ?_
  refine SafeOps.nil ?_
  repeat (first | refine Safe.seq ?_ | refine Safe.skip ?_ | with_reducible refine thenQ.n ?_ | with_reducible refine blockQ.n ?_)
  refine Safe.region ?_
  refine SafeOps.quiet0 E_good rfl rfl rfl (v := V.sl 1 (rws (fun l => [V.sl 3 (rws api_Instr.cells l)]) a0_6263)) (.fn rfl) ?_
  refine SafeOps.quiet0 E_good rfl rfl rfl (v := V.int .i64 (a0_6263.length : Int)) (.fnE rfl lenE) ?_
  refine SafeOps.quiet0 E_good rfl rfl rfl (v := V.int .i64 0) (.fn rfl) ?_
  refine SafeOps.nil ?_
  repeat (first | refine Safe.seq ?_ | refine Safe.skip ?_ | with_reducible refine thenQ.n ?_ | with_reducible refine blockQ.n ?_)
  refine Safe.block ?_
  repeat (first | refine Safe.seq ?_ | refine Safe.skip ?_ | with_reducible refine thenQ.n ?_ | with_reducible refine blockQ.n ?_)
  refine Safe.loopW (fun (v7_6284 : Int) => ⟨Tryd.f10.ntmps, [(0, V.sl 1 (rws (fun l => [V.sl 3 (rws api_Instr.cells l)]) a0_6263)), (5, V.sl 1 (rws (fun l => [V.sl 3 (rws api_Instr.cells l)]) a0_6263)), (6, V.int .i64 (a0_6263.length : Int)), (7, V.int .i64 v7_6284)], [], [], []⟩) h (.cov ⟨rfl, rfl, (upT_cons (.refl _) (upT_cons (.refl _) (upT_cons (.refl _) (upT_cons (.refl _) upT_nil)))), upOb_nil, upOut_nil, rfl⟩) ?_
  intro v7_6284 ohr6285 h hr6285
  replace h : go_ravelref04_Few_s1 a0_6263 v7_6284 = some ohr6285 := h
  rw [go_ravelref04_Few_s1] at h
  repeat (first | refine Safe.seq ?_ | refine Safe.skip ?_ | with_reducible refine thenQ.n ?_ | with_reducible refine blockQ.n ?_)
  refine Safe.region ?_
  refine SafeOps.quiet0 E_good rfl rfl rfl (v := V.bool (decide (v7_6284 < (a0_6263.length : Int)))) (.fn rfl) ?_
  refine SafeOps.nil ?_
  repeat (first | refine Safe.seq ?_ | refine Safe.skip ?_ | with_reducible refine thenQ.n ?_ | with_reducible refine blockQ.n ?_)
  refine ifG h (fun hc6286 h => ?_) (fun hc6286 h => ?_)
  · skip
    refine Safe.condK rfl hc6286 ?_
    repeat (first | refine Safe.seq ?_ | refine Safe.skip ?_ | with_reducible refine thenQ.n ?_ | with_reducible refine blockQ.n ?_)
    refine Safe.block ?_
    repeat (first | refine Safe.seq ?_ | refine Safe.skip ?_ | with_reducible refine thenQ.n ?_ | with_reducible refine blockQ.n ?_)
    refine Safe.region ?_
    refine okG h (fun hb6287 h => ?_)
    refine SafeOps.quiet0 E_good rfl rfl rfl (v := V.spt 1 (rws (fun l => [V.sl 3 (rws api_Instr.cells l)]) a0_6263) (Int.toNat v7_6284) 0) (.idxSlM (f := (fun l => [V.sl 3 (rws api_Instr.cells l)])) rfl rfl rfl rfl rfl hb6287) ?_
    refine SafeOps.quiet0 E_good rfl rfl rfl (v := V.sl 3 (rws api_Instr.cells (gt a0_6263 v7_6284))) (.load rfl rfl (.sptM (f := (fun l => [V.sl 3 (rws api_Instr.cells l)])) hb6287 rfl) rfl) ?_
    refine SafeOps.quiet0 E_good rfl rfl rfl (v := V.sl 3 (rws api_Instr.cells (gt a0_6263 v7_6284))) (.fn rfl) ?_
    refine SafeOps.nil ?_
    repeat (first | refine Safe.seq ?_ | refine Safe.skip ?_ | with_reducible refine thenQ.n ?_ | with_reducible refine blockQ.n ?_)
    refine Safe.region ?_
    refine SafeOps.quiet0 E_good rfl rfl rfl (v := V.sl 3 (rws api_Instr.cells (gt a0_6263 v7_6284))) (.fn rfl) ?_
    refine SafeOps.quiet0 E_good rfl rfl rfl (v := V.int .i64 ((gt a0_6263 v7_6284).length : Int)) (.fnE rfl lenE) ?_
    refine SafeOps.quiet0 E_good rfl rfl rfl (v := V.bool (decide (((gt a0_6263 v7_6284).length : Int) > 100))) (.fn rfl) ?_
    refine SafeOps.nil ?_
    repeat (first | refine Safe.seq ?_ | refine Safe.skip ?_ | with_reducible refine thenQ.n ?_ | with_reducible refine blockQ.n ?_)
    refine ifG h (fun hc6288 h => ?_) (fun hc6288 h => ?_)
    · skip
      refine Safe.condK rfl hc6288 ?_
      repeat (first | refine Safe.seq ?_ | refine Safe.skip ?_ | with_reducible refine thenQ.n ?_ | with_reducible refine blockQ.n ?_)
      refine Safe.region ?_
      refine SafeOps.quiet0 E_good rfl rfl rfl (v := V.bool false) (.fn rfl) ?_
      refine SafeOps.nil ?_
      repeat (first | refine Safe.seq ?_ | refine Safe.skip ?_ | with_reducible refine thenQ.n ?_ | with_reducible refine blockQ.n ?_)
      refine Safe.ret ?_
      repeat (first | with_reducible refine thenQ.r ?_ | with_reducible refine blockQ.r ?_)
      replace h := inr_out h hr6285
      obtain rfl := Option.some.inj h
      exact retQ.gen (vs := [V.bool false]) rfl (.tmp (v := V.bool false) rfl .nil) (.free rfl) (by simp) (.inr rfl)
    · skip
      refine Safe.condN rfl hc6288 ?_
      repeat (first | refine Safe.seq ?_ | refine Safe.skip ?_ | with_reducible refine thenQ.n ?_ | with_reducible refine blockQ.n ?_)
      refine Safe.region ?_
      refine SafeOps.quiet0 E_good rfl rfl rfl (v := V.int .i64 (IntKind.i64.wrap (v7_6284 + 1))) (.fn rfl) ?_
      refine SafeOps.quiet0 E_good rfl rfl rfl (v := V.int .i64 (IntKind.i64.wrap (v7_6284 + 1))) (.fn rfl) ?_
      refine SafeOps.nil ?_
      repeat (first | refine Safe.seq ?_ | refine Safe.skip ?_ | with_reducible refine thenQ.n ?_ | with_reducible refine blockQ.n ?_)
      exact ⟨_, next_out h, (.cov ⟨rfl, rfl, (upT_cons (.refl _) (upT_cons (.refl _) (upT_cons (.refl _) (upT_cons (.refl _) upT_nil)))), upOb_nil, upOut_nil, rfl⟩)⟩
  · skip
    refine Safe.condN rfl hc6286 ?_
    repeat (first | refine Safe.seq ?_ | refine Safe.skip ?_ | with_reducible refine thenQ.n ?_ | with_reducible refine blockQ.n ?_)
    refine Safe.exit ?_
    repeat (first | with_reducible refine thenQ.e ?_ | with_reducible refine blockQ.x rfl ?_ | with_reducible refine blockQ.y rfl ?_)
    replace h := inr_out h hr6285
    repeat (first | refine Safe.seq ?_ | refine Safe.skip ?_ | with_reducible refine thenQ.n ?_ | with_reducible refine blockQ.n ?_)
    refine Safe.region ?_
    refine SafeOps.quiet0 E_good rfl rfl rfl (v := V.sl 1 (rws (fun l => [V.sl 3 (rws api_Instr.cells l)]) a0_6263)) (.fn rfl) ?_
    refine SafeOps.quiet0 E_good rfl rfl rfl (v := V.int .i64 (a0_6263.length : Int)) (.fnE rfl lenE) ?_
    refine SafeOps.quiet0 E_good rfl rfl rfl (v := V.bool (decide ((a0_6263.length : Int) ≤ 100))) (.fn rfl) ?_
    refine SafeOps.quiet0 E_good rfl rfl rfl (v := V.bool (decide ((a0_6263.length : Int) ≤ 100))) (.fn rfl) ?_
    refine SafeOps.nil ?_
    repeat (first | refine Safe.seq ?_ | refine Safe.skip ?_ | with_reducible refine thenQ.n ?_ | with_reducible refine blockQ.n ?_)
    refine Safe.ret ?_
    repeat (first | with_reducible refine thenQ.r ?_ | with_reducible refine blockQ.r ?_)
    obtain rfl := Option.some.inj h
    exact retQ.gen (vs := [V.bool (decide ((a0_6263.length : Int) ≤ 100))]) rfl (.tmp (v := V.bool (decide ((a0_6263.length : Int) ≤ 100))) rfl .nil) (.free rfl) (by simp) (.inr rfl)

noncomputable def go_trace_Of_s1 (a0_6350 : List api_Event) (a1_6351 : Int) : ((List api_Event) × Int) → Option (((List api_Event) × Int) ⊕ (List api_Event))
  | (v4_6380, v9_6381) =>
    if (decide (v9_6381 < (a0_6350.length : Int))) = true then
      if 0 ≤ v9_6381 ∧ v9_6381 < (a0_6350.length : Int) then
        if (((gt a0_6350 v9_6381).Id) == a1_6351) = true then
          if few (v4_6380 ++ [(gt a0_6350 v9_6381)]).length then
            nextO (v4_6380 ++ [(gt a0_6350 v9_6381)], IntKind.i64.wrap (v9_6381 + 1))
          else none
        else
          nextO (v4_6380, IntKind.i64.wrap (v9_6381 + 1))
      else none
    else
      inrO (
        some v4_6380)

noncomputable def go_trace_Of (a0_6350 : List api_Event) (a1_6351 : Int) : Option (List api_Event) :=
  whileO (go_trace_Of_s1 a0_6350 a1_6351) ([], 0)

theorem go_trace_Of_sc (a0_6350 : List api_Event) (a1_6351 : Int) (r : List api_Event) (h : go_trace_Of a0_6350 a1_6351 = some r) : SC Tryd.prog gl 13 [V.sl 3 (rws api_Event.cells a0_6350), V.int .i64 a1_6351] (V.own 3 (rws api_Event.cells r)) := by
  rw [go_trace_Of] at h
  refine SC.of E_good Tryd.func13 rfl (fun _ _ => Tryd.call13 _ _) rfl ?_
  repeat (first | refine Safe.seq ?_ | refine Safe.skip ?_ | with_reducible refine thenQ.n ?_ | with_reducible refine blockQ.n ?_)
  refine Safe.region ?_
  refine SafeOps.quiet0 E_good rfl rfl rfl (v := V.nils) (.fn rfl) ?_
  refine SafeOps.nil ?_
  repeat (first | refine Safe.seq ?_ | refine Safe.skip ?_ | with_reducible refine thenQ.n ?_ | with_reducible refine blockQ.n ?_)
  refine Safe.region ?_
  refine SafeOps.quiet0 E_good rfl rfl rfl (v := V.sl 3 (rws api_Event.cells a0_6350)) (.fn rfl) ?_
  refine SafeOps.quiet0 E_good rfl rfl rfl (v := V.int .i64 (a0_6350.length : Int)) (.fnE rfl lenE) ?_
  refine SafeOps.quiet0 E_good rfl rfl rfl (v := V.int .i64 0) (.fn rfl) ?_
  refine SafeOps.nil ?_
  repeat (first | refine Safe.seq ?_ | refine Safe.skip ?_ | with_reducible refine thenQ.n ?_ | with_reducible refine blockQ.n ?_)
  refine Safe.block ?_
  repeat (first | refine Safe.seq ?_ | refine Safe.skip ?_ | with_reducible refine thenQ.n ?_ | with_reducible refine blockQ.n ?_)
  refine Safe.loopW (fun ((v4_6380, v9_6381) : (List api_Event) × Int) => ⟨Tryd.f13.ntmps, [(1, V.int .i64 a1_6351), (4, V.ref [7000, 118, 4] 0 (rws api_Event.cells v4_6380).length), (7, V.sl 3 (rws api_Event.cells a0_6350)), (8, V.int .i64 (a0_6350.length : Int)), (9, V.int .i64 v9_6381)], [([7000, 118, 4], Obj.rows 3 (rws api_Event.cells v4_6380) false)], [], []⟩) h (.empty [7000, 118, 4] 3 rfl (.cov ⟨rfl, rfl, (upT_cons (.refl _) (upT_cons (.nilref _) (upT_cons (.refl _) (upT_cons (.refl _) (upT_cons (.refl _) upT_nil))))), (upOb_cons rfl (.refl _) upOb_nil), upOut_nil, rfl⟩)) ?_
  rintro ⟨v4_6380, v9_6381⟩ ohr6382 h hr6382
  replace h : go_trace_Of_s1 a0_6350 a1_6351 (v4_6380, v9_6381) = some ohr6382 := h
  rw [go_trace_Of_s1] at h
  repeat (first | refine Safe.seq ?_ | refine Safe.skip ?_ | with_reducible refine thenQ.n ?_ | with_reducible refine blockQ.n ?_)
  refine Safe.region ?_
  refine SafeOps.quiet0 E_good rfl rfl rfl (v := V.bool (decide (v9_6381 < (a0_6350.length : Int)))) (.fn rfl) ?_
  refine SafeOps.nil ?_
  repeat (first | refine Safe.seq ?_ | refine Safe.skip ?_ | with_reducible refine thenQ.n ?_ | with_reducible refine blockQ.n ?_)
  refine ifG h (fun hc6383 h => ?_) (fun hc6383 h => ?_)
  · skip
    refine Safe.condK rfl hc6383 ?_
    repeat (first | refine Safe.seq ?_ | refine Safe.skip ?_ | with_reducible refine thenQ.n ?_ | with_reducible refine blockQ.n ?_)
    refine Safe.block ?_
    repeat (first | refine Safe.seq ?_ | refine Safe.skip ?_ | with_reducible refine thenQ.n ?_ | with_reducible refine blockQ.n ?_)
    refine Safe.region ?_
    refine okG h (fun hb6384 h => ?_)
    refine SafeOps.quiet0 E_good rfl rfl rfl (v := V.spt 3 (rws api_Event.cells a0_6350) (Int.toNat v9_6381) 0) (.idxSlM (f := api_Event.cells) rfl rfl rfl rfl rfl hb6384) ?_
    refine SafeOps.quiet0 E_good rfl rfl rfl (v := V.agg [V.int .i64 ((gt a0_6350 v9_6381).Kind), V.int .i64 ((gt a0_6350 v9_6381).Id), V.int .i64 ((gt a0_6350 v9_6381).A)]) (.load rfl rfl (.sptM (f := api_Event.cells) hb6384 rfl) rfl) ?_
    refine SafeOps.quiet1 E_good rfl rfl rfl (.alloc rfl rfl) rfl ?_
    refine SafeOps.store (z := Obj.box [V.int .i64 ((gt a0_6350 v9_6381).Kind), V.int .i64 ((gt a0_6350 v9_6381).Id), V.int .i64 ((gt a0_6350 v9_6381).A)]) E_good rfl rfl rfl rfl rfl rfl rfl (.boxM (c := 3) rfl rfl (Nat.le_of_ble_eq_true rfl) rfl) ?_
    refine SafeOps.nil ?_
    repeat (first | refine Safe.seq ?_ | refine Safe.skip ?_ | with_reducible refine thenQ.n ?_ | with_reducible refine blockQ.n ?_)
    refine Safe.region ?_
    refine SafeOps.quiet0 E_good rfl rfl rfl (v := V.ptr [6] 0 1) (.fn rfl) ?_
    refine SafeOps.quiet0 E_good rfl rfl rfl (v := V.int .i64 ((gt a0_6350 v9_6381).Id)) (.load rfl rfl (.box rfl rfl) rfl) ?_
    refine SafeOps.quiet0 E_good rfl rfl rfl (v := V.int .i64 a1_6351) (.fn rfl) ?_
    refine SafeOps.quiet0 E_good rfl rfl rfl (v := V.bool (((gt a0_6350 v9_6381).Id) == a1_6351)) (.fn rfl) ?_
    refine SafeOps.nil ?_
    repeat (first | refine Safe.seq ?_ | refine Safe.skip ?_ | with_reducible refine thenQ.n ?_ | with_reducible refine blockQ.n ?_)
    refine ifG h (fun hc6385 h => ?_) (fun hc6385 h => ?_)
    · skip
      refine Safe.condK rfl hc6385 ?_
      repeat (first | refine Safe.seq ?_ | refine Safe.skip ?_ | with_reducible refine thenQ.n ?_ | with_reducible refine blockQ.n ?_)
      refine Safe.region ?_
      refine SafeOps.quiet0 E_good rfl rfl rfl (v := V.ref [7000, 118, 4] 0 (rws api_Event.cells v4_6380).length) (.fn rfl) ?_
      refine SafeOps.quiet0 E_good rfl rfl rfl (v := V.agg [V.int .i64 ((gt a0_6350 v9_6381).Kind), V.int .i64 ((gt a0_6350 v9_6381).Id), V.int .i64 ((gt a0_6350 v9_6381).A)]) (.load rfl rfl (.box rfl rfl) rfl) ?_
      refine SafeOps.quiet1 E_good rfl rfl rfl (.litM (f := api_Event.cells) (xs := [(gt a0_6350 v9_6381)]) rfl rfl (by decide) rfl rfl rfl rfl rfl) rfl ?_
      refine okG h (fun hb6386 h => ?_)
      refine SafeOps.appendM api_Event.cells (xs := v4_6380) (ys := [(gt a0_6350 v9_6381)]) E_good rfl rfl rfl rfl rfl rfl rfl rfl rfl (.own rfl) (.own rfl) (fun _ => rfl) hb6386 ?_
      refine SafeOps.quiet0 E_good rfl rfl rfl (v := V.ref [20] 0 (rws api_Event.cells (v4_6380 ++ [(gt a0_6350 v9_6381)])).length) (.fn rfl) ?_
      refine SafeOps.nil ?_
      repeat (first | refine Safe.seq ?_ | refine Safe.skip ?_ | with_reducible refine thenQ.n ?_ | with_reducible refine blockQ.n ?_)
      refine Safe.region ?_
      refine SafeOps.quiet0 E_good rfl rfl rfl (v := V.int .i64 (IntKind.i64.wrap (v9_6381 + 1))) (.fn rfl) ?_
      refine SafeOps.quiet0 E_good rfl rfl rfl (v := V.int .i64 (IntKind.i64.wrap (v9_6381 + 1))) (.fn rfl) ?_
      refine SafeOps.nil ?_
      repeat (first | refine Safe.seq ?_ | refine Safe.skip ?_ | with_reducible refine thenQ.n ?_ | with_reducible refine blockQ.n ?_)
      exact ⟨_, next_out h, (.ren [20] [7000, 118, 4] (.cov ⟨rfl, rfl, (upT_cons (.refl _) (upT_cons (.refl _) (upT_cons (.refl _) (upT_cons (.refl _) (upT_cons (.refl _) upT_nil))))), (upOb_cons rfl (.refl _) upOb_nil), upOut_nil, rfl⟩))⟩
    · skip
      refine Safe.condN rfl hc6385 ?_
      repeat (first | refine Safe.seq ?_ | refine Safe.skip ?_ | with_reducible refine thenQ.n ?_ | with_reducible refine blockQ.n ?_)
      refine Safe.region ?_
      refine SafeOps.quiet0 E_good rfl rfl rfl (v := V.int .i64 (IntKind.i64.wrap (v9_6381 + 1))) (.fn rfl) ?_
      refine SafeOps.quiet0 E_good rfl rfl rfl (v := V.int .i64 (IntKind.i64.wrap (v9_6381 + 1))) (.fn rfl) ?_
      refine SafeOps.nil ?_
      repeat (first | refine Safe.seq ?_ | refine Safe.skip ?_ | with_reducible refine thenQ.n ?_ | with_reducible refine blockQ.n ?_)
      exact ⟨_, next_out h, (.cov ⟨rfl, rfl, (upT_cons (.refl _) (upT_cons (.refl _) (upT_cons (.refl _) (upT_cons (.refl _) (upT_cons (.refl _) upT_nil))))), (upOb_cons rfl (.refl _) upOb_nil), upOut_nil, rfl⟩)⟩
  · skip
    refine Safe.condN rfl hc6383 ?_
    repeat (first | refine Safe.seq ?_ | refine Safe.skip ?_ | with_reducible refine thenQ.n ?_ | with_reducible refine blockQ.n ?_)
    refine Safe.exit ?_
    repeat (first | with_reducible refine thenQ.e ?_ | with_reducible refine blockQ.x rfl ?_ | with_reducible refine blockQ.y rfl ?_)
    replace h := inr_out h hr6382
    repeat (first | refine Safe.seq ?_ | refine Safe.skip ?_ | with_reducible refine thenQ.n ?_ | with_reducible refine blockQ.n ?_)
    refine Safe.region ?_
    refine SafeOps.quiet0 E_good rfl rfl rfl (v := V.ref [7000, 118, 4] 0 (rws api_Event.cells v4_6380).length) (.fn rfl) ?_
    refine SafeOps.quiet0 E_good rfl rfl rfl (v := V.ref [7000, 118, 4] 0 (rws api_Event.cells v4_6380).length) (.fn rfl) ?_
    refine SafeOps.nil ?_
    repeat (first | refine Safe.seq ?_ | refine Safe.skip ?_ | with_reducible refine thenQ.n ?_ | with_reducible refine blockQ.n ?_)
    refine Safe.ret ?_
    repeat (first | with_reducible refine thenQ.r ?_ | with_reducible refine blockQ.r ?_)
    obtain rfl := Option.some.inj h
    exact retQ.gen (vs := [V.ref [7000, 118, 4] 0 (rws api_Event.cells v4_6380).length]) rfl (.tmp (v := V.ref [7000, 118, 4] 0 (rws api_Event.cells v4_6380).length) rfl .nil) (by exact (.own rfl rfl)) (by simp) (.inr rfl)

noncomputable def go_ravellaw18_TraceMore (a0_6555 : List (List api_Instr)) (a1_6556 : List api_Event) (a2_6557 : api_Event) : Option Bool :=
  (go_ravellaw18_live).bind fun x_6601 =>
  (go_ravelref04_Few a0_6555).bind fun x_6603 =>
  if ((!x_6603) || (decide ((a1_6556.length : Int) > 100))) = true then
    some x_6601
  else
    (go_trace_Check a0_6555 a1_6556).bind fun (x_6607, x_6608) =>
    if ((x_6608 != 0) || (x_6607 != (a1_6556.length : Int))) = true then
      some x_6601
    else
      if few ([] ++ a1_6556).length then
        if few (([] ++ a1_6556) ++ [a2_6557]).length then
          (go_trace_Check a0_6555 (([] ++ a1_6556) ++ [a2_6557])).bind fun (x_6614, x_6615) =>
          (go_trace_Of a1_6556 a2_6557.Id).bind fun x_6617 =>
          if (((x_6615 != 0) || (decide (x_6614 < x_6607))) || (decide (x_6614 > (IntKind.i64.wrap (x_6607 + 1))))) = true then
            some false
          else
            if ((x_6617.length : Int) == 0) = true then
              some (x_6601 && ((x_6614 == (IntKind.i64.wrap (x_6607 + 1))) == ((((a2_6557.Kind == 1) && (decide (a2_6557.Id ≥ 0))) && (decide (a2_6557.A ≥ 0))) && (decide (a2_6557.A < (a0_6555.length : Int))))))
            else
              if (a2_6557.Kind == 1) = true then
                some (x_6601 && (x_6614 == x_6607))
              else
                if 0 ≤ (IntKind.i64.wrap ((x_6617.length : Int) - 1)) ∧ (IntKind.i64.wrap ((x_6617.length : Int) - 1)) < (x_6617.length : Int) then
                  some (x_6601 && ((x_6614 == x_6607) || ((((gt x_6617 (IntKind.i64.wrap ((x_6617.length : Int) - 1))).Kind) != 5) && (((gt x_6617 (IntKind.i64.wrap ((x_6617.length : Int) - 1))).Kind) != 6))))
                else none
        else none
      else none

theorem go_ravellaw18_TraceMore_sc (a0_6555 : List (List api_Instr)) (a1_6556 : List api_Event) (a2_6557 : api_Event) (r : Bool) (h : go_ravellaw18_TraceMore a0_6555 a1_6556 a2_6557 = some r) : SC Tryd.prog gl 5 [V.sl 1 (rws (fun l => [V.sl 3 (rws api_Instr.cells l)]) a0_6555), V.sl 3 (rws api_Event.cells a1_6556), V.agg [V.int .i64 a2_6557.Kind, V.int .i64 a2_6557.Id, V.int .i64 a2_6557.A]] (V.bool r) := by
  rw [go_ravellaw18_TraceMore] at h
  refine SC.of E_good Tryd.func5 rfl (fun _ _ => Tryd.call5 _ _) rfl ?_
  repeat (first | refine Safe.seq ?_ | refine Safe.skip ?_ | with_reducible refine thenQ.n ?_ | with_reducible refine blockQ.n ?_)
  refine Safe.region ?_
  refine SafeOps.quiet1 E_good rfl rfl rfl (.box rfl rfl) rfl ?_
  refine SafeOps.quiet0 E_good rfl rfl rfl (v := V.bool false) (.fn rfl) ?_
  refine SafeOps.nil ?_
  repeat (first | refine Safe.seq ?_ | refine Safe.skip ?_ | with_reducible refine thenQ.n ?_ | with_reducible refine blockQ.n ?_)
  refine Safe.region ?_
  refine bindG h ?_
  intro x_6601 he6602 h
  refine SafeOps.quiet0 E_good rfl rfl rfl (v := V.bool x_6601) (.callP rfl rfl (go_ravellaw18_live_sc  _ he6602) rfl) ?_
  refine SafeOps.quiet0 E_good rfl rfl rfl (v := V.bool x_6601) (.fn rfl) ?_
  refine SafeOps.nil ?_
  repeat (first | refine Safe.seq ?_ | refine Safe.skip ?_ | with_reducible refine thenQ.n ?_ | with_reducible refine blockQ.n ?_)
  refine Safe.region ?_
  refine SafeOps.quiet0 E_good rfl rfl rfl (v := V.sl 1 (rws (fun l => [V.sl 3 (rws api_Instr.cells l)]) a0_6555)) (.fn rfl) ?_
  refine bindG h ?_
  intro x_6603 he6604 h
  refine SafeOps.quiet0 E_good rfl rfl rfl (v := V.bool x_6603) (.callP rfl rfl (go_ravelref04_Few_sc a0_6555 _ he6604) rfl) ?_
  refine SafeOps.quiet0 E_good rfl rfl rfl (v := V.bool (!x_6603)) (.fn rfl) ?_
  refine SafeOps.quiet0 E_good rfl rfl rfl (v := V.bool (!x_6603)) (.fn rfl) ?_
  refine SafeOps.bjoin 4 22 (b := ((!x_6603) || (decide ((a1_6556.length : Int) > 100)))) (b1 := true) (b0 := decide ((a1_6556.length : Int) > 100)) (fun hc6605 K => ?_) (fun hc6605 K => ?_) bj_or ?_
  · skip
    refine SafeOps.skip (congrArg (fun b => some (!b)) hc6605) rfl rfl ?_
    refine SafeOps.skip (congrArg (fun b => some (!b)) hc6605) rfl rfl ?_
    refine SafeOps.skip (congrArg (fun b => some (!b)) hc6605) rfl rfl ?_
    refine SafeOps.quiet0 E_good rfl rfl rfl (v := V.bool true) (.pickK rfl hc6605 rfl) ?_
    exact SafeOps.drop' 4 rfl rfl rfl K
  · skip
    refine SafeOps.quiet0 E_good (congrArg (fun b => some (!b)) hc6605) rfl rfl (v := V.sl 3 (rws api_Event.cells a1_6556)) (.fn rfl) ?_
    refine SafeOps.quiet0 E_good (congrArg (fun b => some (!b)) hc6605) rfl rfl (v := V.int .i64 (a1_6556.length : Int)) (.fnE rfl lenE) ?_
    refine SafeOps.quiet0 E_good (congrArg (fun b => some (!b)) hc6605) rfl rfl (v := V.bool (decide ((a1_6556.length : Int) > 100))) (.fn rfl) ?_
    refine SafeOps.quiet0 E_good rfl rfl rfl (v := V.bool (decide ((a1_6556.length : Int) > 100))) (.pickK rfl hc6605 rfl) ?_
    exact SafeOps.drop' 4 rfl rfl rfl K
  refine SafeOps.nil ?_
  repeat (first | refine Safe.seq ?_ | refine Safe.skip ?_ | with_reducible refine thenQ.n ?_ | with_reducible refine blockQ.n ?_)
  refine ifG h (fun hc6606 h => ?_) (fun hc6606 h => ?_)
  · skip
    refine Safe.condK rfl hc6606 ?_
    repeat (first | refine Safe.seq ?_ | refine Safe.skip ?_ | with_reducible refine thenQ.n ?_ | with_reducible refine blockQ.n ?_)
    refine Safe.region ?_
    refine SafeOps.quiet0 E_good rfl rfl rfl (v := V.bool x_6601) (.fn rfl) ?_
    refine SafeOps.quiet0 E_good rfl rfl rfl (v := V.bool x_6601) (.fn rfl) ?_
    refine SafeOps.nil ?_
    repeat (first | refine Safe.seq ?_ | refine Safe.skip ?_ | with_reducible refine thenQ.n ?_ | with_reducible refine blockQ.n ?_)
    refine Safe.ret ?_
    repeat (first | with_reducible refine thenQ.r ?_ | with_reducible refine blockQ.r ?_)
    obtain rfl := Option.some.inj h
    exact retQ.gen (vs := [V.bool x_6601]) rfl (.tmp (v := V.bool x_6601) rfl .nil) (.free rfl) (by simp) (.inr rfl)
  · skip
    refine Safe.condN rfl hc6606 ?_
    repeat (first | refine Safe.seq ?_ | refine Safe.skip ?_ | with_reducible refine thenQ.n ?_ | with_reducible refine blockQ.n ?_)
    refine Safe.region ?_
    refine SafeOps.quiet0 E_good rfl rfl rfl (v := V.sl 1 (rws (fun l => [V.sl 3 (rws api_Instr.cells l)]) a0_6555)) (.fn rfl) ?_
    refine SafeOps.quiet0 E_good rfl rfl rfl (v := V.sl 3 (rws api_Event.cells a1_6556)) (.fn rfl) ?_
    refine bindG h ?_
    rintro ⟨x_6607, x_6608⟩ he6609 h
    refine SafeOps.quiet0 E_good rfl rfl rfl (v := V.tup [V.int .i64 x_6607, V.int .i64 x_6608]) (.callP rfl rfl (go_trace_Check_sc a0_6555 a1_6556 _ he6609) rfl) ?_
    refine SafeOps.quiet0 E_good rfl rfl rfl (v := V.tup [V.int .i64 x_6607, V.int .i64 x_6608]) (.fn rfl) ?_
    refine SafeOps.quiet0 E_good rfl rfl rfl (v := V.int .i64 x_6607) (.fn rfl) ?_
    refine SafeOps.quiet0 E_good rfl rfl rfl (v := V.int .i64 x_6608) (.fn rfl) ?_
    refine SafeOps.quiet0 E_good rfl rfl rfl (v := V.int .i64 x_6607) (.fn rfl) ?_
    refine SafeOps.quiet0 E_good rfl rfl rfl (v := V.int .i64 x_6608) (.fn rfl) ?_
    refine SafeOps.nil ?_
    repeat (first | refine Safe.seq ?_ | refine Safe.skip ?_ | with_reducible refine thenQ.n ?_ | with_reducible refine blockQ.n ?_)
    refine Safe.region ?_
    refine SafeOps.quiet0 E_good rfl rfl rfl (v := V.int .i64 x_6608) (.fn rfl) ?_
    refine SafeOps.quiet0 E_good rfl rfl rfl (v := V.bool (x_6608 != 0)) (.fn rfl) ?_
    refine SafeOps.quiet0 E_good rfl rfl rfl (v := V.bool (x_6608 != 0)) (.fn rfl) ?_
    refine SafeOps.bjoin 5 37 (b := ((x_6608 != 0) || (x_6607 != (a1_6556.length : Int)))) (b1 := true) (b0 := (x_6607 != (a1_6556.length : Int))) (fun hc6610 K => ?_) (fun hc6610 K => ?_) bj_or ?_
    · skip
      refine SafeOps.skip (congrArg (fun b => some (!b)) hc6610) rfl rfl ?_
      refine SafeOps.skip (congrArg (fun b => some (!b)) hc6610) rfl rfl ?_
      refine SafeOps.skip (congrArg (fun b => some (!b)) hc6610) rfl rfl ?_
      refine SafeOps.skip (congrArg (fun b => some (!b)) hc6610) rfl rfl ?_
      refine SafeOps.quiet0 E_good rfl rfl rfl (v := V.bool true) (.pickK rfl hc6610 rfl) ?_
      exact SafeOps.drop' 5 rfl rfl rfl K
    · skip
      refine SafeOps.quiet0 E_good (congrArg (fun b => some (!b)) hc6610) rfl rfl (v := V.int .i64 x_6607) (.fn rfl) ?_
      refine SafeOps.quiet0 E_good (congrArg (fun b => some (!b)) hc6610) rfl rfl (v := V.sl 3 (rws api_Event.cells a1_6556)) (.fn rfl) ?_
      refine SafeOps.quiet0 E_good (congrArg (fun b => some (!b)) hc6610) rfl rfl (v := V.int .i64 (a1_6556.length : Int)) (.fnE rfl lenE) ?_
      refine SafeOps.quiet0 E_good (congrArg (fun b => some (!b)) hc6610) rfl rfl (v := V.bool (x_6607 != (a1_6556.length : Int))) (.fn rfl) ?_
      refine SafeOps.quiet0 E_good rfl rfl rfl (v := V.bool (x_6607 != (a1_6556.length : Int))) (.pickK rfl hc6610 rfl) ?_
      exact SafeOps.drop' 5 rfl rfl rfl K
    refine SafeOps.nil ?_
    repeat (first | refine Safe.seq ?_ | refine Safe.skip ?_ | with_reducible refine thenQ.n ?_ | with_reducible refine blockQ.n ?_)
    refine ifG h (fun hc6611 h => ?_) (fun hc6611 h => ?_)
    · skip
      refine Safe.condK rfl hc6611 ?_
      repeat (first | refine Safe.seq ?_ | refine Safe.skip ?_ | with_reducible refine thenQ.n ?_ | with_reducible refine blockQ.n ?_)
      refine Safe.region ?_
      refine SafeOps.quiet0 E_good rfl rfl rfl (v := V.bool x_6601) (.fn rfl) ?_
      refine SafeOps.quiet0 E_good rfl rfl rfl (v := V.bool x_6601) (.fn rfl) ?_
      refine SafeOps.nil ?_
      repeat (first | refine Safe.seq ?_ | refine Safe.skip ?_ | with_reducible refine thenQ.n ?_ | with_reducible refine blockQ.n ?_)
      refine Safe.ret ?_
      repeat (first | with_reducible refine thenQ.r ?_ | with_reducible refine blockQ.r ?_)
      obtain rfl := Option.some.inj h
      exact retQ.gen (vs := [V.bool x_6601]) rfl (.tmp (v := V.bool x_6601) rfl .nil) (.free rfl) (by simp) (.inr rfl)
    · skip
      refine Safe.condN rfl hc6611 ?_
      repeat (first | refine Safe.seq ?_ | refine Safe.skip ?_ | with_reducible refine thenQ.n ?_ | with_reducible refine blockQ.n ?_)
      refine Safe.regionD (n := 12) [(5, [42])] [] E_good mixed rfl ?_
      refine DAny.take (i := 0) rfl (by kernel_rfl) [[42]] (by kernel_rfl) (by kernel_rfl) (by kernel_rfl) rfl rfl rfl (v := V.sl 1 (rws (fun l => [V.sl 3 (rws api_Instr.cells l)]) a0_6555)) (fun _ hz => (.fn rfl)) ?_
      refine DAny.take (i := 1) rfl (by kernel_rfl) [[42]] (by kernel_rfl) (by kernel_rfl) (by kernel_rfl) rfl rfl rfl (v := V.sl 3 (rws api_Event.cells a1_6556)) (fun _ hz => (.fn rfl)) ?_
      refine DAny.take (i := 3) rfl (by kernel_rfl) [[42]] (by kernel_rfl) (by kernel_rfl) (by kernel_rfl) rfl rfl rfl (v := V.agg [V.int .i64 a2_6557.Kind, V.int .i64 a2_6557.Id, V.int .i64 a2_6557.A]) (fun _ hz => (.load rfl rfl (.box (hz _ _ rfl rfl) rfl) rfl)) ?_
      refine DAny.fork (i := 2) (j := 4) rfl rfl (by kernel_rfl) ?_ ?_
      · skip
        refine okG h (fun hb6612 h => ?_)
        refine .appendM api_Event.cells (xs := []) (ys := a1_6556) rfl rfl rfl rfl rfl rfl rfl rfl rfl .nils (.sl _) (fun _ => rfl) hb6612 rfl ?_
        refine DAny.only (i := 4) rfl (by kernel_rfl) (.quiet rfl rfl rfl (.litM (f := api_Event.cells) (xs := [a2_6557]) rfl rfl (by decide) rfl rfl rfl rfl rfl) rfl ?_)
        refine okG h (fun hb6613 h => ?_)
        refine DAny.only (i := 5) rfl (by kernel_rfl) (.appendM api_Event.cells (xs := [] ++ a1_6556) (ys := [a2_6557]) rfl rfl rfl rfl rfl rfl rfl rfl rfl (.own rfl) (.own rfl) (fun _ => rfl) hb6613 rfl ?_)
        refine bindG h ?_
        rintro ⟨x_6614, x_6615⟩ he6616 h
        refine DAny.take (i := 6) rfl (by kernel_rfl) [[42]] (by kernel_rfl) (by kernel_rfl) (by kernel_rfl) rfl rfl rfl (v := V.tup [V.int .i64 x_6614, V.int .i64 x_6615]) (fun _ hz => (.callS rfl (.cons (.free rfl) (.cons (.full (hz _ _ rfl rfl) rfl) .nil)) (go_trace_Check_sc a0_6555 (([] ++ a1_6556) ++ [a2_6557]) _ he6616) (.tupL (.cons (.plain rfl) (.cons (.plain rfl) .nil))) rfl)) ?_
        refine DAny.take (i := 7) rfl (by kernel_rfl) [[42]] (by kernel_rfl) (by kernel_rfl) (by kernel_rfl) rfl rfl rfl (v := V.tup [V.int .i64 x_6614, V.int .i64 x_6615]) (fun _ hz => (.fn rfl)) ?_
        refine DAny.take (i := 8) rfl (by kernel_rfl) [[42]] (by kernel_rfl) (by kernel_rfl) (by kernel_rfl) rfl rfl rfl (v := V.int .i64 x_6614) (fun _ hz => (.fn rfl)) ?_
        refine DAny.take (i := 9) rfl (by kernel_rfl) [[42]] (by kernel_rfl) (by kernel_rfl) (by kernel_rfl) rfl rfl rfl (v := V.int .i64 x_6615) (fun _ hz => (.fn rfl)) ?_
        refine DAny.take (i := 10) rfl (by kernel_rfl) [[42]] (by kernel_rfl) (by kernel_rfl) (by kernel_rfl) rfl rfl rfl (v := V.int .i64 x_6614) (fun _ hz => (.fn rfl)) ?_
        refine DAny.take (i := 11) rfl (by kernel_rfl) [[42]] (by kernel_rfl) (by kernel_rfl) (by kernel_rfl) rfl rfl rfl (v := V.int .i64 x_6615) (fun _ hz => (.fn rfl)) ?_
        refine DAny.nil (by kernel_rfl) ?_
        repeat (first | refine Safe.seq ?_ | refine Safe.skip ?_ | with_reducible refine thenQ.n ?_ | with_reducible refine blockQ.n ?_)
        refine Safe.region ?_
        refine SafeOps.quiet0 E_good rfl rfl rfl (v := V.sl 3 (rws api_Event.cells a1_6556)) (.fn rfl) ?_
        refine SafeOps.quiet0 E_good rfl rfl rfl (v := V.ptr [5] 0 1) (.fn rfl) ?_
        refine SafeOps.quiet0 E_good rfl rfl rfl (v := V.int .i64 a2_6557.Id) (.load rfl rfl (.box rfl rfl) rfl) ?_
        refine bindG h ?_
        intro x_6617 he6618 h
        refine SafeOps.quiet E_good rfl rfl rfl (v := V.ref [52, 0] 0 (rws api_Event.cells x_6617).length) (.callP rfl rfl (go_trace_Of_sc a1_6556 a2_6557.Id _ he6618) rfl) rfl ?_
        refine SafeOps.quiet0 E_good rfl rfl rfl (v := V.ref [52, 0] 0 (rws api_Event.cells x_6617).length) (.fn rfl) ?_
        refine SafeOps.nil ?_
        repeat (first | refine Safe.seq ?_ | refine Safe.skip ?_ | with_reducible refine thenQ.n ?_ | with_reducible refine blockQ.n ?_)
        refine Safe.block ?_
        repeat (first | refine Safe.seq ?_ | refine Safe.skip ?_ | with_reducible refine thenQ.n ?_ | with_reducible refine blockQ.n ?_)
        refine Safe.region ?_
        refine SafeOps.quiet0 E_good rfl rfl rfl (v := V.int .i64 x_6615) (.fn rfl) ?_
        refine SafeOps.quiet0 E_good rfl rfl rfl (v := V.bool (x_6615 != 0)) (.fn rfl) ?_
        refine SafeOps.quiet0 E_good rfl rfl rfl (v := V.bool (x_6615 != 0)) (.fn rfl) ?_
        refine SafeOps.bjoin 4 60 (b := ((x_6615 != 0) || (decide (x_6614 < x_6607)))) (b1 := true) (b0 := decide (x_6614 < x_6607)) (fun hc6629 K => ?_) (fun hc6629 K => ?_) bj_or ?_
        · skip
          refine SafeOps.skip (congrArg (fun b => some (!b)) hc6629) rfl rfl ?_
          refine SafeOps.skip (congrArg (fun b => some (!b)) hc6629) rfl rfl ?_
          refine SafeOps.skip (congrArg (fun b => some (!b)) hc6629) rfl rfl ?_
          refine SafeOps.quiet0 E_good rfl rfl rfl (v := V.bool true) (.pickK rfl hc6629 rfl) ?_
          exact SafeOps.drop' 4 rfl rfl rfl K
        · skip
          refine SafeOps.quiet0 E_good (congrArg (fun b => some (!b)) hc6629) rfl rfl (v := V.int .i64 x_6614) (.fn rfl) ?_
          refine SafeOps.quiet0 E_good (congrArg (fun b => some (!b)) hc6629) rfl rfl (v := V.int .i64 x_6607) (.fn rfl) ?_
          refine SafeOps.quiet0 E_good (congrArg (fun b => some (!b)) hc6629) rfl rfl (v := V.bool (decide (x_6614 < x_6607))) (.fn rfl) ?_
          refine SafeOps.quiet0 E_good rfl rfl rfl (v := V.bool (decide (x_6614 < x_6607))) (.pickK rfl hc6629 rfl) ?_
          exact SafeOps.drop' 4 rfl rfl rfl K
        refine SafeOps.quiet0 E_good rfl rfl rfl (v := V.bool ((x_6615 != 0) || (decide (x_6614 < x_6607)))) (.fn rfl) ?_
        refine SafeOps.bjoin 5 66 (b := (((x_6615 != 0) || (decide (x_6614 < x_6607))) || (decide (x_6614 > (IntKind.i64.wrap (x_6607 + 1)))))) (b1 := true) (b0 := decide (x_6614 > (IntKind.i64.wrap (x_6607 + 1)))) (fun hc6630 K => ?_) (fun hc6630 K => ?_) bj_or ?_
        · skip
          refine SafeOps.skip (congrArg (fun b => some (!b)) hc6630) rfl rfl ?_
          refine SafeOps.skip (congrArg (fun b => some (!b)) hc6630) rfl rfl ?_
          refine SafeOps.skip (congrArg (fun b => some (!b)) hc6630) rfl rfl ?_
          refine SafeOps.skip (congrArg (fun b => some (!b)) hc6630) rfl rfl ?_
          refine SafeOps.quiet0 E_good rfl rfl rfl (v := V.bool true) (.pickK rfl hc6630 rfl) ?_
          exact SafeOps.drop' 5 rfl rfl rfl K
        · skip
          refine SafeOps.quiet0 E_good (congrArg (fun b => some (!b)) hc6630) rfl rfl (v := V.int .i64 x_6614) (.fn rfl) ?_
          refine SafeOps.quiet0 E_good (congrArg (fun b => some (!b)) hc6630) rfl rfl (v := V.int .i64 x_6607) (.fn rfl) ?_
          refine SafeOps.quiet0 E_good (congrArg (fun b => some (!b)) hc6630) rfl rfl (v := V.int .i64 (IntKind.i64.wrap (x_6607 + 1))) (.fn rfl) ?_
          refine SafeOps.quiet0 E_good (congrArg (fun b => some (!b)) hc6630) rfl rfl (v := V.bool (decide (x_6614 > (IntKind.i64.wrap (x_6607 + 1))))) (.fn rfl) ?_
          refine SafeOps.quiet0 E_good rfl rfl rfl (v := V.bool (decide (x_6614 > (IntKind.i64.wrap (x_6607 + 1))))) (.pickK rfl hc6630 rfl) ?_
          exact SafeOps.drop' 5 rfl rfl rfl K
        refine SafeOps.quiet0 E_good rfl rfl rfl (v := V.bool (((x_6615 != 0) || (decide (x_6614 < x_6607))) || (decide (x_6614 > (IntKind.i64.wrap (x_6607 + 1)))))) (.fn rfl) ?_
        refine SafeOps.nil ?_
        repeat (first | refine Safe.seq ?_ | refine Safe.skip ?_ | with_reducible refine thenQ.n ?_ | with_reducible refine blockQ.n ?_)
        refine ifG h (fun hc6631 h => ?_) (fun hc6631 h => ?_)
        · skip
          refine Safe.condK rfl hc6631 ?_
          repeat (first | refine Safe.seq ?_ | refine Safe.skip ?_ | with_reducible refine thenQ.n ?_ | with_reducible refine blockQ.n ?_)
          refine Safe.region ?_
          refine SafeOps.quiet0 E_good rfl rfl rfl (v := V.bool false) (.fn rfl) ?_
          refine SafeOps.nil ?_
          repeat (first | refine Safe.seq ?_ | refine Safe.skip ?_ | with_reducible refine thenQ.n ?_ | with_reducible refine blockQ.n ?_)
          refine Safe.ret ?_
          repeat (first | with_reducible refine thenQ.r ?_ | with_reducible refine blockQ.r ?_)
          obtain rfl := Option.some.inj h
          exact retQ.gen (vs := [V.bool false]) rfl (.tmp (v := V.bool false) rfl .nil) (.free rfl) (by simp) (.inr rfl)
        · skip
          refine Safe.condN rfl hc6631 ?_
          repeat (first | refine Safe.seq ?_ | refine Safe.skip ?_ | with_reducible refine thenQ.n ?_ | with_reducible refine blockQ.n ?_)
          refine Safe.region ?_
          refine SafeOps.quiet0 E_good rfl rfl rfl (v := V.ref [52, 0] 0 (rws api_Event.cells x_6617).length) (.fn rfl) ?_
          refine SafeOps.quiet0 E_good rfl rfl rfl (v := V.int .i64 (x_6617.length : Int)) (.fnE rfl lenE) ?_
          refine SafeOps.quiet0 E_good rfl rfl rfl (v := V.bool ((x_6617.length : Int) == 0)) (.fn rfl) ?_
          refine SafeOps.quiet0 E_good rfl rfl rfl (v := V.bool ((x_6617.length : Int) == 0)) (.fn rfl) ?_
          refine SafeOps.nil ?_
          repeat (first | refine Safe.seq ?_ | refine Safe.skip ?_ | with_reducible refine thenQ.n ?_ | with_reducible refine blockQ.n ?_)
          refine ifG h (fun hc6632 h => ?_) (fun hc6632 h => ?_)
          · skip
            refine Safe.condK rfl hc6632 ?_
            repeat (first | refine Safe.seq ?_ | refine Safe.skip ?_ | with_reducible refine thenQ.n ?_ | with_reducible refine blockQ.n ?_)
            refine Safe.region ?_
            refine SafeOps.quiet0 E_good rfl rfl rfl (v := V.bool x_6601) (.fn rfl) ?_
            refine SafeOps.quiet0 E_good rfl rfl rfl (v := V.bool x_6601) (.fn rfl) ?_
            refine SafeOps.bjoin 26 98 (b := (x_6601 && ((x_6614 == (IntKind.i64.wrap (x_6607 + 1))) == ((((a2_6557.Kind == 1) && (decide (a2_6557.Id ≥ 0))) && (decide (a2_6557.A ≥ 0))) && (decide (a2_6557.A < (a0_6555.length : Int))))))) (b1 := ((x_6614 == (IntKind.i64.wrap (x_6607 + 1))) == ((((a2_6557.Kind == 1) && (decide (a2_6557.Id ≥ 0))) && (decide (a2_6557.A ≥ 0))) && (decide (a2_6557.A < (a0_6555.length : Int)))))) (b0 := false) (fun hc6633 K => ?_) (fun hc6633 K => ?_) bj_and ?_
            · skip
              refine SafeOps.quiet0 E_good (congrArg some hc6633) rfl rfl (v := V.int .i64 x_6614) (.fn rfl) ?_
              refine SafeOps.quiet0 E_good (congrArg some hc6633) rfl rfl (v := V.int .i64 x_6607) (.fn rfl) ?_
              refine SafeOps.quiet0 E_good (congrArg some hc6633) rfl rfl (v := V.int .i64 (IntKind.i64.wrap (x_6607 + 1))) (.fn rfl) ?_
              refine SafeOps.quiet0 E_good (congrArg some hc6633) rfl rfl (v := V.bool (x_6614 == (IntKind.i64.wrap (x_6607 + 1)))) (.fn rfl) ?_
              refine SafeOps.quiet0 E_good (congrArg some hc6633) rfl rfl (v := V.ptr [5] 0 0) (.fn rfl) ?_
              refine SafeOps.quiet0 E_good (congrArg some hc6633) rfl rfl (v := V.int .i64 a2_6557.Kind) (.load rfl rfl (.box rfl rfl) rfl) ?_
              refine SafeOps.quiet0 E_good (congrArg some hc6633) rfl rfl (v := V.bool (a2_6557.Kind == 1)) (.fn rfl) ?_
              refine SafeOps.quiet0 E_good (congrArg some hc6633) rfl rfl (v := V.bool (a2_6557.Kind == 1)) (.fn rfl) ?_
              refine SafeOps.bjoin 4 84 (b := ((a2_6557.Kind == 1) && (decide (a2_6557.Id ≥ 0)))) (b1 := decide (a2_6557.Id ≥ 0)) (b0 := false) (fun hc6634 K => ?_) (fun hc6634 K => ?_) bj_and ?_
              · skip
                refine SafeOps.quiet0 E_good (congrArg some hc6634) rfl rfl (v := V.ptr [5] 0 1) (.fn rfl) ?_
                refine SafeOps.quiet0 E_good (congrArg some hc6634) rfl rfl (v := V.int .i64 a2_6557.Id) (.load rfl rfl (.box rfl rfl) rfl) ?_
                refine SafeOps.quiet0 E_good (congrArg some hc6634) rfl rfl (v := V.bool (decide (a2_6557.Id ≥ 0))) (.fn rfl) ?_
                refine SafeOps.quiet0 E_good (congrArg some hc6633) rfl rfl (v := V.bool (decide (a2_6557.Id ≥ 0))) (.pickK rfl hc6634 rfl) ?_
                exact SafeOps.drop' 4 rfl rfl rfl K
              · skip
                refine SafeOps.skip (congrArg some hc6634) rfl rfl ?_
                refine SafeOps.skip (congrArg some hc6634) rfl rfl ?_
                refine SafeOps.skip (congrArg some hc6634) rfl rfl ?_
                refine SafeOps.quiet0 E_good (congrArg some hc6633) rfl rfl (v := V.bool false) (.pickK rfl hc6634 rfl) ?_
                exact SafeOps.drop' 4 rfl rfl rfl K
              refine SafeOps.quiet0 E_good (congrArg some hc6633) rfl rfl (v := V.bool ((a2_6557.Kind == 1) && (decide (a2_6557.Id ≥ 0)))) (.fn rfl) ?_
              refine SafeOps.bjoin 4 89 (b := (((a2_6557.Kind == 1) && (decide (a2_6557.Id ≥ 0))) && (decide (a2_6557.A ≥ 0)))) (b1 := decide (a2_6557.A ≥ 0)) (b0 := false) (fun hc6635 K => ?_) (fun hc6635 K => ?_) bj_and ?_
              · skip
                refine SafeOps.quiet0 E_good (congrArg some hc6635) rfl rfl (v := V.ptr [5] 0 2) (.fn rfl) ?_
                refine SafeOps.quiet0 E_good (congrArg some hc6635) rfl rfl (v := V.int .i64 a2_6557.A) (.load rfl rfl (.box rfl rfl) rfl) ?_
                refine SafeOps.quiet0 E_good (congrArg some hc6635) rfl rfl (v := V.bool (decide (a2_6557.A ≥ 0))) (.fn rfl) ?_
                refine SafeOps.quiet0 E_good (congrArg some hc6633) rfl rfl (v := V.bool (decide (a2_6557.A ≥ 0))) (.pickK rfl hc6635 rfl) ?_
                exact SafeOps.drop' 4 rfl rfl rfl K
              · skip
                refine SafeOps.skip (congrArg some hc6635) rfl rfl ?_
                refine SafeOps.skip (congrArg some hc6635) rfl rfl ?_
                refine SafeOps.skip (congrArg some hc6635) rfl rfl ?_
                refine SafeOps.quiet0 E_good (congrArg some hc6633) rfl rfl (v := V.bool false) (.pickK rfl hc6635 rfl) ?_
                exact SafeOps.drop' 4 rfl rfl rfl K
              refine SafeOps.quiet0 E_good (congrArg some hc6633) rfl rfl (v := V.bool (((a2_6557.Kind == 1) && (decide (a2_6557.Id ≥ 0))) && (decide (a2_6557.A ≥ 0)))) (.fn rfl) ?_
              refine SafeOps.bjoin 6 96 (b := ((((a2_6557.Kind == 1) && (decide (a2_6557.Id ≥ 0))) && (decide (a2_6557.A ≥ 0))) && (decide (a2_6557.A < (a0_6555.length : Int))))) (b1 := decide (a2_6557.A < (a0_6555.length : Int))) (b0 := false) (fun hc6636 K => ?_) (fun hc6636 K => ?_) bj_and ?_
              · skip
                refine SafeOps.quiet0 E_good (congrArg some hc6636) rfl rfl (v := V.ptr [5] 0 2) (.fn rfl) ?_
                refine SafeOps.quiet0 E_good (congrArg some hc6636) rfl rfl (v := V.int .i64 a2_6557.A) (.load rfl rfl (.box rfl rfl) rfl) ?_
                refine SafeOps.quiet0 E_good (congrArg some hc6636) rfl rfl (v := V.sl 1 (rws (fun l => [V.sl 3 (rws api_Instr.cells l)]) a0_6555)) (.fn rfl) ?_
                refine SafeOps.quiet0 E_good (congrArg some hc6636) rfl rfl (v := V.int .i64 (a0_6555.length : Int)) (.fnE rfl lenE) ?_
                refine SafeOps.quiet0 E_good (congrArg some hc6636) rfl rfl (v := V.bool (decide (a2_6557.A < (a0_6555.length : Int)))) (.fn rfl) ?_
                refine SafeOps.quiet0 E_good (congrArg some hc6633) rfl rfl (v := V.bool (decide (a2_6557.A < (a0_6555.length : Int)))) (.pickK rfl hc6636 rfl) ?_
                exact SafeOps.drop' 6 rfl rfl rfl K
              · skip
                refine SafeOps.skip (congrArg some hc6636) rfl rfl ?_
                refine SafeOps.skip (congrArg some hc6636) rfl rfl ?_
                refine SafeOps.skip (congrArg some hc6636) rfl rfl ?_
                refine SafeOps.skip (congrArg some hc6636) rfl rfl ?_
                refine SafeOps.skip (congrArg some hc6636) rfl rfl ?_
                refine SafeOps.quiet0 E_good (congrArg some hc6633) rfl rfl (v := V.bool false) (.pickK rfl hc6636 rfl) ?_
                exact SafeOps.drop' 6 rfl rfl rfl K
              refine SafeOps.quiet0 E_good (congrArg some hc6633) rfl rfl (v := V.bool ((x_6614 == (IntKind.i64.wrap (x_6607 + 1))) == ((((a2_6557.Kind == 1) && (decide (a2_6557.Id ≥ 0))) && (decide (a2_6557.A ≥ 0))) && (decide (a2_6557.A < (a0_6555.length : Int)))))) (.fn rfl) ?_
              refine SafeOps.quiet0 E_good rfl rfl rfl (v := V.bool ((x_6614 == (IntKind.i64.wrap (x_6607 + 1))) == ((((a2_6557.Kind == 1) && (decide (a2_6557.Id ≥ 0))) && (decide (a2_6557.A ≥ 0))) && (decide (a2_6557.A < (a0_6555.length : Int)))))) (.pickK rfl hc6633 rfl) ?_
              exact SafeOps.drop' 15 rfl rfl rfl K
            · skip
              refine SafeOps.skip (congrArg some hc6633) rfl rfl ?_
              refine SafeOps.skip (congrArg some hc6633) rfl rfl ?_
              refine SafeOps.skip (congrArg some hc6633) rfl rfl ?_
              refine SafeOps.skip (congrArg some hc6633) rfl rfl ?_
              refine SafeOps.skip (congrArg some hc6633) rfl rfl ?_
              refine SafeOps.skip (congrArg some hc6633) rfl rfl ?_
              refine SafeOps.skip (congrArg some hc6633) rfl rfl ?_
              refine SafeOps.skip (congrArg some hc6633) rfl rfl ?_
              refine SafeOps.skip rfl rfl rfl ?_
              refine SafeOps.skip rfl rfl rfl ?_
              refine SafeOps.skip rfl rfl rfl ?_
              refine SafeOps.skip (congrArg some hc6633) rfl rfl ?_
              refine SafeOps.skip (congrArg some hc6633) rfl rfl ?_
              refine SafeOps.skip rfl rfl rfl ?_
              refine SafeOps.skip rfl rfl rfl ?_
              refine SafeOps.skip rfl rfl rfl ?_
              refine SafeOps.skip (congrArg some hc6633) rfl rfl ?_
              refine SafeOps.skip (congrArg some hc6633) rfl rfl ?_
              refine SafeOps.skip rfl rfl rfl ?_
              refine SafeOps.skip rfl rfl rfl ?_
              refine SafeOps.skip rfl rfl rfl ?_
              refine SafeOps.skip rfl rfl rfl ?_
              refine SafeOps.skip rfl rfl rfl ?_
              refine SafeOps.skip (congrArg some hc6633) rfl rfl ?_
              refine SafeOps.skip (congrArg some hc6633) rfl rfl ?_
              refine SafeOps.quiet0 E_good rfl rfl rfl (v := V.bool false) (.pickK rfl hc6633 rfl) ?_
              exact SafeOps.drop' 26 rfl rfl rfl K
            refine SafeOps.quiet0 E_good rfl rfl rfl (v := V.bool (x_6601 && ((x_6614 == (IntKind.i64.wrap (x_6607 + 1))) == ((((a2_6557.Kind == 1) && (decide (a2_6557.Id ≥ 0))) && (decide (a2_6557.A ≥ 0))) && (decide (a2_6557.A < (a0_6555.length : Int))))))) (.fn rfl) ?_
            refine SafeOps.nil ?_
            repeat (first | refine Safe.seq ?_ | refine Safe.skip ?_ | with_reducible refine thenQ.n ?_ | with_reducible refine blockQ.n ?_)
            refine Safe.ret ?_
            repeat (first | with_reducible refine thenQ.r ?_ | with_reducible refine blockQ.r ?_)
            obtain rfl := Option.some.inj h
            exact retQ.gen (vs := [V.bool (x_6601 && ((x_6614 == (IntKind.i64.wrap (x_6607 + 1))) == ((((a2_6557.Kind == 1) && (decide (a2_6557.Id ≥ 0))) && (decide (a2_6557.A ≥ 0))) && (decide (a2_6557.A < (a0_6555.length : Int))))))]) rfl (.tmp (v := V.bool (x_6601 && ((x_6614 == (IntKind.i64.wrap (x_6607 + 1))) == ((((a2_6557.Kind == 1) && (decide (a2_6557.Id ≥ 0))) && (decide (a2_6557.A ≥ 0))) && (decide (a2_6557.A < (a0_6555.length : Int))))))) rfl .nil) (.free rfl) (by simp) (.inr rfl)
          · skip
            refine Safe.condN rfl hc6632 ?_
            repeat (first | refine Safe.seq ?_ | refine Safe.skip ?_ | with_reducible refine thenQ.n ?_ | with_reducible refine blockQ.n ?_)
            refine Safe.region ?_
            refine SafeOps.quiet0 E_good rfl rfl rfl (v := V.ptr [5] 0 0) (.fn rfl) ?_
            refine SafeOps.quiet0 E_good rfl rfl rfl (v := V.int .i64 a2_6557.Kind) (.load rfl rfl (.box rfl rfl) rfl) ?_
            refine SafeOps.quiet0 E_good rfl rfl rfl (v := V.bool (a2_6557.Kind == 1)) (.fn rfl) ?_
            refine SafeOps.quiet0 E_good rfl rfl rfl (v := V.bool (a2_6557.Kind == 1)) (.fn rfl) ?_
            refine SafeOps.nil ?_
            repeat (first | refine Safe.seq ?_ | refine Safe.skip ?_ | with_reducible refine thenQ.n ?_ | with_reducible refine blockQ.n ?_)
            refine ifG h (fun hc6637 h => ?_) (fun hc6637 h => ?_)
            · skip
              refine Safe.condK rfl hc6637 ?_
              repeat (first | refine Safe.seq ?_ | refine Safe.skip ?_ | with_reducible refine thenQ.n ?_ | with_reducible refine blockQ.n ?_)
              refine Safe.region ?_
              refine SafeOps.quiet0 E_good rfl rfl rfl (v := V.bool x_6601) (.fn rfl) ?_
              refine SafeOps.quiet0 E_good rfl rfl rfl (v := V.bool x_6601) (.fn rfl) ?_
              refine SafeOps.bjoin 4 108 (b := (x_6601 && (x_6614 == x_6607))) (b1 := (x_6614 == x_6607)) (b0 := false) (fun hc6638 K => ?_) (fun hc6638 K => ?_) bj_and ?_
              · skip
                refine SafeOps.quiet0 E_good (congrArg some hc6638) rfl rfl (v := V.int .i64 x_6614) (.fn rfl) ?_
                refine SafeOps.quiet0 E_good (congrArg some hc6638) rfl rfl (v := V.int .i64 x_6607) (.fn rfl) ?_
                refine SafeOps.quiet0 E_good (congrArg some hc6638) rfl rfl (v := V.bool (x_6614 == x_6607)) (.fn rfl) ?_
                refine SafeOps.quiet0 E_good rfl rfl rfl (v := V.bool (x_6614 == x_6607)) (.pickK rfl hc6638 rfl) ?_
                exact SafeOps.drop' 4 rfl rfl rfl K
              · skip
                refine SafeOps.skip (congrArg some hc6638) rfl rfl ?_
                refine SafeOps.skip (congrArg some hc6638) rfl rfl ?_
                refine SafeOps.skip (congrArg some hc6638) rfl rfl ?_
                refine SafeOps.quiet0 E_good rfl rfl rfl (v := V.bool false) (.pickK rfl hc6638 rfl) ?_
                exact SafeOps.drop' 4 rfl rfl rfl K
              refine SafeOps.quiet0 E_good rfl rfl rfl (v := V.bool (x_6601 && (x_6614 == x_6607))) (.fn rfl) ?_
              refine SafeOps.nil ?_
              repeat (first | refine Safe.seq ?_ | refine Safe.skip ?_ | with_reducible refine thenQ.n ?_ | with_reducible refine blockQ.n ?_)
              refine Safe.ret ?_
              repeat (first | with_reducible refine thenQ.r ?_ | with_reducible refine blockQ.r ?_)
              obtain rfl := Option.some.inj h
              exact retQ.gen (vs := [V.bool (x_6601 && (x_6614 == x_6607))]) rfl (.tmp (v := V.bool (x_6601 && (x_6614 == x_6607))) rfl .nil) (.free rfl) (by simp) (.inr rfl)
            · skip
              refine Safe.condN rfl hc6637 ?_
              repeat (first | refine Safe.seq ?_ | refine Safe.skip ?_ | with_reducible refine thenQ.n ?_ | with_reducible refine blockQ.n ?_)
              refine Safe.region ?_
              refine SafeOps.quiet0 E_good rfl rfl rfl (v := V.ref [52, 0] 0 (rws api_Event.cells x_6617).length) (.fn rfl) ?_
              refine SafeOps.quiet0 E_good rfl rfl rfl (v := V.ref [52, 0] 0 (rws api_Event.cells x_6617).length) (.fn rfl) ?_
              refine SafeOps.quiet0 E_good rfl rfl rfl (v := V.int .i64 (x_6617.length : Int)) (.fnE rfl lenE) ?_
              refine SafeOps.quiet0 E_good rfl rfl rfl (v := V.int .i64 (IntKind.i64.wrap ((x_6617.length : Int) - 1))) (.fn rfl) ?_
              refine okG h (fun hb6639 h => ?_)
              refine SafeOps.quiet0 E_good rfl rfl rfl (v := V.ptr [52, 0] (0 + Int.toNat (IntKind.i64.wrap ((x_6617.length : Int) - 1))) 0) (.idxRefM (f := api_Event.cells) (xs := x_6617) rfl rfl rfl rfl rfl rfl hb6639) ?_
              refine SafeOps.quiet0 E_good rfl rfl rfl (v := V.ptr [52, 0] (0 + Int.toNat (IntKind.i64.wrap ((x_6617.length : Int) - 1))) 0) (.fn rfl) ?_
              refine SafeOps.quiet0 E_good rfl rfl rfl (v := V.int .i64 ((gt x_6617 (IntKind.i64.wrap ((x_6617.length : Int) - 1))).Kind)) (.load rfl rfl (.rowsM (f := api_Event.cells) (xs := x_6617) hb6639 rfl rfl) rfl) ?_
              refine SafeOps.quiet0 E_good rfl rfl rfl (v := V.int .i64 ((gt x_6617 (IntKind.i64.wrap ((x_6617.length : Int) - 1))).Kind)) (.fn rfl) ?_
              refine SafeOps.nil ?_
              repeat (first | refine Safe.seq ?_ | refine Safe.skip ?_ | with_reducible refine thenQ.n ?_ | with_reducible refine blockQ.n ?_)
              refine Safe.region ?_
              refine SafeOps.quiet0 E_good rfl rfl rfl (v := V.bool x_6601) (.fn rfl) ?_
              refine SafeOps.quiet0 E_good rfl rfl rfl (v := V.bool x_6601) (.fn rfl) ?_
              refine SafeOps.bjoin 12 129 (b := (x_6601 && ((x_6614 == x_6607) || ((((gt x_6617 (IntKind.i64.wrap ((x_6617.length : Int) - 1))).Kind) != 5) && (((gt x_6617 (IntKind.i64.wrap ((x_6617.length : Int) - 1))).Kind) != 6))))) (b1 := ((x_6614 == x_6607) || ((((gt x_6617 (IntKind.i64.wrap ((x_6617.length : Int) - 1))).Kind) != 5) && (((gt x_6617 (IntKind.i64.wrap ((x_6617.length : Int) - 1))).Kind) != 6)))) (b0 := false) (fun hc6640 K => ?_) (fun hc6640 K => ?_) bj_and ?_
              · skip
                refine SafeOps.quiet0 E_good (congrArg some hc6640) rfl rfl (v := V.int .i64 x_6614) (.fn rfl) ?_
                refine SafeOps.quiet0 E_good (congrArg some hc6640) rfl rfl (v := V.int .i64 x_6607) (.fn rfl) ?_
                refine SafeOps.quiet0 E_good (congrArg some hc6640) rfl rfl (v := V.bool (x_6614 == x_6607)) (.fn rfl) ?_
                refine SafeOps.quiet0 E_good (congrArg some hc6640) rfl rfl (v := V.bool (x_6614 == x_6607)) (.fn rfl) ?_
                refine SafeOps.bjoin 7 128 (b := ((x_6614 == x_6607) || ((((gt x_6617 (IntKind.i64.wrap ((x_6617.length : Int) - 1))).Kind) != 5) && (((gt x_6617 (IntKind.i64.wrap ((x_6617.length : Int) - 1))).Kind) != 6)))) (b1 := true) (b0 := ((((gt x_6617 (IntKind.i64.wrap ((x_6617.length : Int) - 1))).Kind) != 5) && (((gt x_6617 (IntKind.i64.wrap ((x_6617.length : Int) - 1))).Kind) != 6))) (fun hc6641 K => ?_) (fun hc6641 K => ?_) bj_or ?_
                · skip
                  refine SafeOps.skip (congrArg (fun b => some (!b)) hc6641) rfl rfl ?_
                  refine SafeOps.skip (congrArg (fun b => some (!b)) hc6641) rfl rfl ?_
                  refine SafeOps.skip (congrArg (fun b => some (!b)) hc6641) rfl rfl ?_
                  refine SafeOps.skip rfl rfl rfl ?_
                  refine SafeOps.skip rfl rfl rfl ?_
                  refine SafeOps.skip (congrArg (fun b => some (!b)) hc6641) rfl rfl ?_
                  refine SafeOps.quiet0 E_good (congrArg some hc6640) rfl rfl (v := V.bool true) (.pickK rfl hc6641 rfl) ?_
                  exact SafeOps.drop' 7 rfl rfl rfl K
                · skip
                  refine SafeOps.quiet0 E_good (congrArg (fun b => some (!b)) hc6641) rfl rfl (v := V.int .i64 ((gt x_6617 (IntKind.i64.wrap ((x_6617.length : Int) - 1))).Kind)) (.fn rfl) ?_
                  refine SafeOps.quiet0 E_good (congrArg (fun b => some (!b)) hc6641) rfl rfl (v := V.bool (((gt x_6617 (IntKind.i64.wrap ((x_6617.length : Int) - 1))).Kind) != 5)) (.fn rfl) ?_
                  refine SafeOps.quiet0 E_good (congrArg (fun b => some (!b)) hc6641) rfl rfl (v := V.bool (((gt x_6617 (IntKind.i64.wrap ((x_6617.length : Int) - 1))).Kind) != 5)) (.fn rfl) ?_
                  refine SafeOps.bjoin 3 127 (b := ((((gt x_6617 (IntKind.i64.wrap ((x_6617.length : Int) - 1))).Kind) != 5) && (((gt x_6617 (IntKind.i64.wrap ((x_6617.length : Int) - 1))).Kind) != 6))) (b1 := (((gt x_6617 (IntKind.i64.wrap ((x_6617.length : Int) - 1))).Kind) != 6)) (b0 := false) (fun hc6642 K => ?_) (fun hc6642 K => ?_) bj_and ?_
                  · skip
                    refine SafeOps.quiet0 E_good (congrArg some hc6642) rfl rfl (v := V.int .i64 ((gt x_6617 (IntKind.i64.wrap ((x_6617.length : Int) - 1))).Kind)) (.fn rfl) ?_
                    refine SafeOps.quiet0 E_good (congrArg some hc6642) rfl rfl (v := V.bool (((gt x_6617 (IntKind.i64.wrap ((x_6617.length : Int) - 1))).Kind) != 6)) (.fn rfl) ?_
                    refine SafeOps.quiet0 E_good (congrArg (fun b => some (!b)) hc6641) rfl rfl (v := V.bool (((gt x_6617 (IntKind.i64.wrap ((x_6617.length : Int) - 1))).Kind) != 6)) (.pickK rfl hc6642 rfl) ?_
                    exact SafeOps.drop' 3 rfl rfl rfl K
                  · skip
                    refine SafeOps.skip (congrArg some hc6642) rfl rfl ?_
                    refine SafeOps.skip (congrArg some hc6642) rfl rfl ?_
                    refine SafeOps.quiet0 E_good (congrArg (fun b => some (!b)) hc6641) rfl rfl (v := V.bool false) (.pickK rfl hc6642 rfl) ?_
                    exact SafeOps.drop' 3 rfl rfl rfl K
                  refine SafeOps.quiet0 E_good (congrArg some hc6640) rfl rfl (v := V.bool ((((gt x_6617 (IntKind.i64.wrap ((x_6617.length : Int) - 1))).Kind) != 5) && (((gt x_6617 (IntKind.i64.wrap ((x_6617.length : Int) - 1))).Kind) != 6))) (.pickK rfl hc6641 rfl) ?_
                  exact SafeOps.drop' 5 rfl rfl rfl K
                refine SafeOps.quiet0 E_good rfl rfl rfl (v := V.bool ((x_6614 == x_6607) || ((((gt x_6617 (IntKind.i64.wrap ((x_6617.length : Int) - 1))).Kind) != 5) && (((gt x_6617 (IntKind.i64.wrap ((x_6617.length : Int) - 1))).Kind) != 6)))) (.pickK rfl hc6640 rfl) ?_
                exact SafeOps.drop' 6 rfl rfl rfl K
              · skip
                refine SafeOps.skip (congrArg some hc6640) rfl rfl ?_
                refine SafeOps.skip (congrArg some hc6640) rfl rfl ?_
                refine SafeOps.skip (congrArg some hc6640) rfl rfl ?_
                refine SafeOps.skip (congrArg some hc6640) rfl rfl ?_
                refine SafeOps.skip rfl rfl rfl ?_
                refine SafeOps.skip rfl rfl rfl ?_
                refine SafeOps.skip rfl rfl rfl ?_
                refine SafeOps.skip rfl rfl rfl ?_
                refine SafeOps.skip rfl rfl rfl ?_
                refine SafeOps.skip rfl rfl rfl ?_
                refine SafeOps.skip (congrArg some hc6640) rfl rfl ?_
                refine SafeOps.quiet0 E_good rfl rfl rfl (v := V.bool false) (.pickK rfl hc6640 rfl) ?_
                exact SafeOps.drop' 12 rfl rfl rfl K
              refine SafeOps.quiet0 E_good rfl rfl rfl (v := V.bool (x_6601 && ((x_6614 == x_6607) || ((((gt x_6617 (IntKind.i64.wrap ((x_6617.length : Int) - 1))).Kind) != 5) && (((gt x_6617 (IntKind.i64.wrap ((x_6617.length : Int) - 1))).Kind) != 6))))) (.fn rfl) ?_
              refine SafeOps.nil ?_
              repeat (first | refine Safe.seq ?_ | refine Safe.skip ?_ | with_reducible refine thenQ.n ?_ | with_reducible refine blockQ.n ?_)
              refine Safe.ret ?_
              repeat (first | with_reducible refine thenQ.r ?_ | with_reducible refine blockQ.r ?_)
              obtain rfl := Option.some.inj h
              exact retQ.gen (vs := [V.bool (x_6601 && ((x_6614 == x_6607) || ((((gt x_6617 (IntKind.i64.wrap ((x_6617.length : Int) - 1))).Kind) != 5) && (((gt x_6617 (IntKind.i64.wrap ((x_6617.length : Int) - 1))).Kind) != 6))))]) rfl (.tmp (v := V.bool (x_6601 && ((x_6614 == x_6607) || ((((gt x_6617 (IntKind.i64.wrap ((x_6617.length : Int) - 1))).Kind) != 5) && (((gt x_6617 (IntKind.i64.wrap ((x_6617.length : Int) - 1))).Kind) != 6))))) rfl .nil) (.free rfl) (by simp) (.inr rfl)
      · skip
        refine .quiet rfl rfl rfl (.litM (f := api_Event.cells) (xs := [a2_6557]) rfl rfl (by decide) rfl rfl rfl rfl rfl) rfl ?_
        refine okG h (fun hb6612 h => ?_)
        refine DAny.only (i := 2) rfl (by kernel_rfl) (.appendM api_Event.cells (xs := []) (ys := a1_6556) rfl rfl rfl rfl rfl rfl rfl rfl rfl .nils (.sl _) (fun _ => rfl) hb6612 rfl ?_)
        refine okG h (fun hb6613 h => ?_)
        refine DAny.only (i := 5) rfl (by kernel_rfl) (.appendM api_Event.cells (xs := [] ++ a1_6556) (ys := [a2_6557]) rfl rfl rfl rfl rfl rfl rfl rfl rfl (.own rfl) (.own rfl) (fun _ => rfl) hb6613 rfl ?_)
        refine bindG h ?_
        rintro ⟨x_6614, x_6615⟩ he6616 h
        refine DAny.take (i := 6) rfl (by kernel_rfl) [[42]] (by kernel_rfl) (by kernel_rfl) (by kernel_rfl) rfl rfl rfl (v := V.tup [V.int .i64 x_6614, V.int .i64 x_6615]) (fun _ hz => (.callS rfl (.cons (.free rfl) (.cons (.full (hz _ _ rfl rfl) rfl) .nil)) (go_trace_Check_sc a0_6555 (([] ++ a1_6556) ++ [a2_6557]) _ he6616) (.tupL (.cons (.plain rfl) (.cons (.plain rfl) .nil))) rfl)) ?_
        refine DAny.take (i := 7) rfl (by kernel_rfl) [[42]] (by kernel_rfl) (by kernel_rfl) (by kernel_rfl) rfl rfl rfl (v := V.tup [V.int .i64 x_6614, V.int .i64 x_6615]) (fun _ hz => (.fn rfl)) ?_
        refine DAny.take (i := 8) rfl (by kernel_rfl) [[42]] (by kernel_rfl) (by kernel_rfl) (by kernel_rfl) rfl rfl rfl (v := V.int .i64 x_6614) (fun _ hz => (.fn rfl)) ?_
        refine DAny.take (i := 9) rfl (by kernel_rfl) [[42]] (by kernel_rfl) (by kernel_rfl) (by kernel_rfl) rfl rfl rfl (v := V.int .i64 x_6615) (fun _ hz => (.fn rfl)) ?_
        refine DAny.take (i := 10) rfl (by kernel_rfl) [[42]] (by kernel_rfl) (by kernel_rfl) (by kernel_rfl) rfl rfl rfl (v := V.int .i64 x_6614) (fun _ hz => (.fn rfl)) ?_
        refine DAny.take (i := 11) rfl (by kernel_rfl) [[42]] (by kernel_rfl) (by kernel_rfl) (by kernel_rfl) rfl rfl rfl (v := V.int .i64 x_6615) (fun _ hz => (.fn rfl)) ?_
        refine DAny.nil (by kernel_rfl) ?_
        repeat (first | refine Safe.seq ?_ | refine Safe.skip ?_ | with_reducible refine thenQ.n ?_ | with_reducible refine blockQ.n ?_)
        refine Safe.region ?_
        refine SafeOps.quiet0 E_good rfl rfl rfl (v := V.sl 3 (rws api_Event.cells a1_6556)) (.fn rfl) ?_
        refine SafeOps.quiet0 E_good rfl rfl rfl (v := V.ptr [5] 0 1) (.fn rfl) ?_
        refine SafeOps.quiet0 E_good rfl rfl rfl (v := V.int .i64 a2_6557.Id) (.load rfl rfl (.box rfl rfl) rfl) ?_
        refine bindG h ?_
        intro x_6617 he6618 h
        refine SafeOps.quiet E_good rfl rfl rfl (v := V.ref [52, 0] 0 (rws api_Event.cells x_6617).length) (.callP rfl rfl (go_trace_Of_sc a1_6556 a2_6557.Id _ he6618) rfl) rfl ?_
        refine SafeOps.quiet0 E_good rfl rfl rfl (v := V.ref [52, 0] 0 (rws api_Event.cells x_6617).length) (.fn rfl) ?_
        refine SafeOps.nil ?_
        repeat (first | refine Safe.seq ?_ | refine Safe.skip ?_ | with_reducible refine thenQ.n ?_ | with_reducible refine blockQ.n ?_)
        refine Safe.block ?_
        repeat (first | refine Safe.seq ?_ | refine Safe.skip ?_ | with_reducible refine thenQ.n ?_ | with_reducible refine blockQ.n ?_)
        refine Safe.region ?_
        refine SafeOps.quiet0 E_good rfl rfl rfl (v := V.int .i64 x_6615) (.fn rfl) ?_
        refine SafeOps.quiet0 E_good rfl rfl rfl (v := V.bool (x_6615 != 0)) (.fn rfl) ?_
        refine SafeOps.quiet0 E_good rfl rfl rfl (v := V.bool (x_6615 != 0)) (.fn rfl) ?_
        refine SafeOps.bjoin 4 60 (b := ((x_6615 != 0) || (decide (x_6614 < x_6607)))) (b1 := true) (b0 := decide (x_6614 < x_6607)) (fun hc6629 K => ?_) (fun hc6629 K => ?_) bj_or ?_
        · skip
          refine SafeOps.skip (congrArg (fun b => some (!b)) hc6629) rfl rfl ?_
          refine SafeOps.skip (congrArg (fun b => some (!b)) hc6629) rfl rfl ?_
          refine SafeOps.skip (congrArg (fun b => some (!b)) hc6629) rfl rfl ?_
          refine SafeOps.quiet0 E_good rfl rfl rfl (v := V.bool true) (.pickK rfl hc6629 rfl) ?_
          exact SafeOps.drop' 4 rfl rfl rfl K
        · skip
          refine SafeOps.quiet0 E_good (congrArg (fun b => some (!b)) hc6629) rfl rfl (v := V.int .i64 x_6614) (.fn rfl) ?_
          refine SafeOps.quiet0 E_good (congrArg (fun b => some (!b)) hc6629) rfl rfl (v := V.int .i64 x_6607) (.fn rfl) ?_
          refine SafeOps.quiet0 E_good (congrArg (fun b => some (!b)) hc6629) rfl rfl (v := V.bool (decide (x_6614 < x_6607))) (.fn rfl) ?_
          refine SafeOps.quiet0 E_good rfl rfl rfl (v := V.bool (decide (x_6614 < x_6607))) (.pickK rfl hc6629 rfl) ?_
          exact SafeOps.drop' 4 rfl rfl rfl K
        refine SafeOps.quiet0 E_good rfl rfl rfl (v := V.bool ((x_6615 != 0) || (decide (x_6614 < x_6607)))) (.fn rfl) ?_
        refine SafeOps.bjoin 5 66 (b := (((x_6615 != 0) || (decide (x_6614 < x_6607))) || (decide (x_6614 > (IntKind.i64.wrap (x_6607 + 1)))))) (b1 := true) (b0 := decide (x_6614 > (IntKind.i64.wrap (x_6607 + 1)))) (fun hc6630 K => ?_) (fun hc6630 K => ?_) bj_or ?_
        · skip
          refine SafeOps.skip (congrArg (fun b => some (!b)) hc6630) rfl rfl ?_
          refine SafeOps.skip (congrArg (fun b => some (!b)) hc6630) rfl rfl ?_
          refine SafeOps.skip (congrArg (fun b => some (!b)) hc6630) rfl rfl ?_
          refine SafeOps.skip (congrArg (fun b => some (!b)) hc6630) rfl rfl ?_
          refine SafeOps.quiet0 E_good rfl rfl rfl (v := V.bool true) (.pickK rfl hc6630 rfl) ?_
          exact SafeOps.drop' 5 rfl rfl rfl K
        · skip
          refine SafeOps.quiet0 E_good (congrArg (fun b => some (!b)) hc6630) rfl rfl (v := V.int .i64 x_6614) (.fn rfl) ?_
          refine SafeOps.quiet0 E_good (congrArg (fun b => some (!b)) hc6630) rfl rfl (v := V.int .i64 x_6607) (.fn rfl) ?_
          refine SafeOps.quiet0 E_good (congrArg (fun b => some (!b)) hc6630) rfl rfl (v := V.int .i64 (IntKind.i64.wrap (x_6607 + 1))) (.fn rfl) ?_
          refine SafeOps.quiet0 E_good (congrArg (fun b => some (!b)) hc6630) rfl rfl (v := V.bool (decide (x_6614 > (IntKind.i64.wrap (x_6607 + 1))))) (.fn rfl) ?_
          refine SafeOps.quiet0 E_good rfl rfl rfl (v := V.bool (decide (x_6614 > (IntKind.i64.wrap (x_6607 + 1))))) (.pickK rfl hc6630 rfl) ?_
          exact SafeOps.drop' 5 rfl rfl rfl K
        refine SafeOps.quiet0 E_good rfl rfl rfl (v := V.bool (((x_6615 != 0) || (decide (x_6614 < x_6607))) || (decide (x_6614 > (IntKind.i64.wrap (x_6607 + 1)))))) (.fn rfl) ?_
        refine SafeOps.nil ?_
        repeat (first | refine Safe.seq ?_ | refine Safe.skip ?_ | with_reducible refine thenQ.n ?_ | with_reducible refine blockQ.n ?_)
        refine ifG h (fun hc6631 h => ?_) (fun hc6631 h => ?_)
        · skip
          refine Safe.condK rfl hc6631 ?_
          repeat (first | refine Safe.seq ?_ | refine Safe.skip ?_ | with_reducible refine thenQ.n ?_ | with_reducible refine blockQ.n ?_)
          refine Safe.region ?_
          refine SafeOps.quiet0 E_good rfl rfl rfl (v := V.bool false) (.fn rfl) ?_
          refine SafeOps.nil ?_
          repeat (first | refine Safe.seq ?_ | refine Safe.skip ?_ | with_reducible refine thenQ.n ?_ | with_reducible refine blockQ.n ?_)
          refine Safe.ret ?_
          repeat (first | with_reducible refine thenQ.r ?_ | with_reducible refine blockQ.r ?_)
          obtain rfl := Option.some.inj h
          exact retQ.gen (vs := [V.bool false]) rfl (.tmp (v := V.bool false) rfl .nil) (.free rfl) (by simp) (.inr rfl)
        · skip
          refine Safe.condN rfl hc6631 ?_
          repeat (first | refine Safe.seq ?_ | refine Safe.skip ?_ | with_reducible refine thenQ.n ?_ | with_reducible refine blockQ.n ?_)
          refine Safe.region ?_
          refine SafeOps.quiet0 E_good rfl rfl rfl (v := V.ref [52, 0] 0 (rws api_Event.cells x_6617).length) (.fn rfl) ?_
          refine SafeOps.quiet0 E_good rfl rfl rfl (v := V.int .i64 (x_6617.length : Int)) (.fnE rfl lenE) ?_
          refine SafeOps.quiet0 E_good rfl rfl rfl (v := V.bool ((x_6617.length : Int) == 0)) (.fn rfl) ?_
          refine SafeOps.quiet0 E_good rfl rfl rfl (v := V.bool ((x_6617.length : Int) == 0)) (.fn rfl) ?_
          refine SafeOps.nil ?_
          repeat (first | refine Safe.seq ?_ | refine Safe.skip ?_ | with_reducible refine thenQ.n ?_ | with_reducible refine blockQ.n ?_)
          refine ifG h (fun hc6632 h => ?_) (fun hc6632 h => ?_)
          · skip
            refine Safe.condK rfl hc6632 ?_
            repeat (first | refine Safe.seq ?_ | refine Safe.skip ?_ | with_reducible refine thenQ.n ?_ | with_reducible refine blockQ.n ?_)
            refine Safe.region ?_
            refine SafeOps.quiet0 E_good rfl rfl rfl (v := V.bool x_6601) (.fn rfl) ?_
            refine SafeOps.quiet0 E_good rfl rfl rfl (v := V.bool x_6601) (.fn rfl) ?_
            refine SafeOps.bjoin 26 98 (b := (x_6601 && ((x_6614 == (IntKind.i64.wrap (x_6607 + 1))) == ((((a2_6557.Kind == 1) && (decide (a2_6557.Id ≥ 0))) && (decide (a2_6557.A ≥ 0))) && (decide (a2_6557.A < (a0_6555.length : Int))))))) (b1 := ((x_6614 == (IntKind.i64.wrap (x_6607 + 1))) == ((((a2_6557.Kind == 1) && (decide (a2_6557.Id ≥ 0))) && (decide (a2_6557.A ≥ 0))) && (decide (a2_6557.A < (a0_6555.length : Int)))))) (b0 := false) (fun hc6633 K => ?_) (fun hc6633 K => ?_) bj_and ?_
            · skip
              refine SafeOps.quiet0 E_good (congrArg some hc6633) rfl rfl (v := V.int .i64 x_6614) (.fn rfl) ?_
              refine SafeOps.quiet0 E_good (congrArg some hc6633) rfl rfl (v := V.int .i64 x_6607) (.fn rfl) ?_
              refine SafeOps.quiet0 E_good (congrArg some hc6633) rfl rfl (v := V.int .i64 (IntKind.i64.wrap (x_6607 + 1))) (.fn rfl) ?_
              refine SafeOps.quiet0 E_good (congrArg some hc6633) rfl rfl (v := V.bool (x_6614 == (IntKind.i64.wrap (x_6607 + 1)))) (.fn rfl) ?_
              refine SafeOps.quiet0 E_good (congrArg some hc6633) rfl rfl (v := V.ptr [5] 0 0) (.fn rfl) ?_
              refine SafeOps.quiet0 E_good (congrArg some hc6633) rfl rfl (v := V.int .i64 a2_6557.Kind) (.load rfl rfl (.box rfl rfl) rfl) ?_
              refine SafeOps.quiet0 E_good (congrArg some hc6633) rfl rfl (v := V.bool (a2_6557.Kind == 1)) (.fn rfl) ?_
              refine SafeOps.quiet0 E_good (congrArg some hc6633) rfl rfl (v := V.bool (a2_6557.Kind == 1)) (.fn rfl) ?_
              refine SafeOps.bjoin 4 84 (b := ((a2_6557.Kind == 1) && (decide (a2_6557.Id ≥ 0)))) (b1 := decide (a2_6557.Id ≥ 0)) (b0 := false) (fun hc6634 K => ?_) (fun hc6634 K => ?_) bj_and ?_
              · skip
                refine SafeOps.quiet0 E_good (congrArg some hc6634) rfl rfl (v := V.ptr [5] 0 1) (.fn rfl) ?_
                refine SafeOps.quiet0 E_good (congrArg some hc6634) rfl rfl (v := V.int .i64 a2_6557.Id) (.load rfl rfl (.box rfl rfl) rfl) ?_
                refine SafeOps.quiet0 E_good (congrArg some hc6634) rfl rfl (v := V.bool (decide (a2_6557.Id ≥ 0))) (.fn rfl) ?_
                refine SafeOps.quiet0 E_good (congrArg some hc6633) rfl rfl (v := V.bool (decide (a2_6557.Id ≥ 0))) (.pickK rfl hc6634 rfl) ?_
                exact SafeOps.drop' 4 rfl rfl rfl K
              · skip
                refine SafeOps.skip (congrArg some hc6634) rfl rfl ?_
                refine SafeOps.skip (congrArg some hc6634) rfl rfl ?_
                refine SafeOps.skip (congrArg some hc6634) rfl rfl ?_
                refine SafeOps.quiet0 E_good (congrArg some hc6633) rfl rfl (v := V.bool false) (.pickK rfl hc6634 rfl) ?_
                exact SafeOps.drop' 4 rfl rfl rfl K
              refine SafeOps.quiet0 E_good (congrArg some hc6633) rfl rfl (v := V.bool ((a2_6557.Kind == 1) && (decide (a2_6557.Id ≥ 0)))) (.fn rfl) ?_
              refine SafeOps.bjoin 4 89 (b := (((a2_6557.Kind == 1) && (decide (a2_6557.Id ≥ 0))) && (decide (a2_6557.A ≥ 0)))) (b1 := decide (a2_6557.A ≥ 0)) (b0 := false) (fun hc6635 K => ?_) (fun hc6635 K => ?_) bj_and ?_
              · skip
                refine SafeOps.quiet0 E_good (congrArg some hc6635) rfl rfl (v := V.ptr [5] 0 2) (.fn rfl) ?_
                refine SafeOps.quiet0 E_good (congrArg some hc6635) rfl rfl (v := V.int .i64 a2_6557.A) (.load rfl rfl (.box rfl rfl) rfl) ?_
                refine SafeOps.quiet0 E_good (congrArg some hc6635) rfl rfl (v := V.bool (decide (a2_6557.A ≥ 0))) (.fn rfl) ?_
                refine SafeOps.quiet0 E_good (congrArg some hc6633) rfl rfl (v := V.bool (decide (a2_6557.A ≥ 0))) (.pickK rfl hc6635 rfl) ?_
                exact SafeOps.drop' 4 rfl rfl rfl K
              · skip
                refine SafeOps.skip (congrArg some hc6635) rfl rfl ?_
                refine SafeOps.skip (congrArg some hc6635) rfl rfl ?_
                refine SafeOps.skip (congrArg some hc6635) rfl rfl ?_
                refine SafeOps.quiet0 E_good (congrArg some hc6633) rfl rfl (v := V.bool false) (.pickK rfl hc6635 rfl) ?_
                exact SafeOps.drop' 4 rfl rfl rfl K
              refine SafeOps.quiet0 E_good (congrArg some hc6633) rfl rfl (v := V.bool (((a2_6557.Kind == 1) && (decide (a2_6557.Id ≥ 0))) && (decide (a2_6557.A ≥ 0)))) (.fn rfl) ?_
              refine SafeOps.bjoin 6 96 (b := ((((a2_6557.Kind == 1) && (decide (a2_6557.Id ≥ 0))) && (decide (a2_6557.A ≥ 0))) && (decide (a2_6557.A < (a0_6555.length : Int))))) (b1 := decide (a2_6557.A < (a0_6555.length : Int))) (b0 := false) (fun hc6636 K => ?_) (fun hc6636 K => ?_) bj_and ?_
              · skip
                refine SafeOps.quiet0 E_good (congrArg some hc6636) rfl rfl (v := V.ptr [5] 0 2) (.fn rfl) ?_
                refine SafeOps.quiet0 E_good (congrArg some hc6636) rfl rfl (v := V.int .i64 a2_6557.A) (.load rfl rfl (.box rfl rfl) rfl) ?_
                refine SafeOps.quiet0 E_good (congrArg some hc6636) rfl rfl (v := V.sl 1 (rws (fun l => [V.sl 3 (rws api_Instr.cells l)]) a0_6555)) (.fn rfl) ?_
                refine SafeOps.quiet0 E_good (congrArg some hc6636) rfl rfl (v := V.int .i64 (a0_6555.length : Int)) (.fnE rfl lenE) ?_
                refine SafeOps.quiet0 E_good (congrArg some hc6636) rfl rfl (v := V.bool (decide (a2_6557.A < (a0_6555.length : Int)))) (.fn rfl) ?_
                refine SafeOps.quiet0 E_good (congrArg some hc6633) rfl rfl (v := V.bool (decide (a2_6557.A < (a0_6555.length : Int)))) (.pickK rfl hc6636 rfl) ?_
                exact SafeOps.drop' 6 rfl rfl rfl K
              · skip
                refine SafeOps.skip (congrArg some hc6636) rfl rfl ?_
                refine SafeOps.skip (congrArg some hc6636) rfl rfl ?_
                refine SafeOps.skip (congrArg some hc6636) rfl rfl ?_
                refine SafeOps.skip (congrArg some hc6636) rfl rfl ?_
                refine SafeOps.skip (congrArg some hc6636) rfl rfl ?_
                refine SafeOps.quiet0 E_good (congrArg some hc6633) rfl rfl (v := V.bool false) (.pickK rfl hc6636 rfl) ?_
                exact SafeOps.drop' 6 rfl rfl rfl K
              refine SafeOps.quiet0 E_good (congrArg some hc6633) rfl rfl (v := V.bool ((x_6614 == (IntKind.i64.wrap (x_6607 + 1))) == ((((a2_6557.Kind == 1) && (decide (a2_6557.Id ≥ 0))) && (decide (a2_6557.A ≥ 0))) && (decide (a2_6557.A < (a0_6555.length : Int)))))) (.fn rfl) ?_
              refine SafeOps.quiet0 E_good rfl rfl rfl (v := V.bool ((x_6614 == (IntKind.i64.wrap (x_6607 + 1))) == ((((a2_6557.Kind == 1) && (decide (a2_6557.Id ≥ 0))) && (decide (a2_6557.A ≥ 0))) && (decide (a2_6557.A < (a0_6555.length : Int)))))) (.pickK rfl hc6633 rfl) ?_
              exact SafeOps.drop' 15 rfl rfl rfl K
            · skip
              refine SafeOps.skip (congrArg some hc6633) rfl rfl ?_
              refine SafeOps.skip (congrArg some hc6633) rfl rfl ?_
              refine SafeOps.skip (congrArg some hc6633) rfl rfl ?_
              refine SafeOps.skip (congrArg some hc6633) rfl rfl ?_
              refine SafeOps.skip (congrArg some hc6633) rfl rfl ?_
              refine SafeOps.skip (congrArg some hc6633) rfl rfl ?_
              refine SafeOps.skip (congrArg some hc6633) rfl rfl ?_
              refine SafeOps.skip (congrArg some hc6633) rfl rfl ?_
              refine SafeOps.skip rfl rfl rfl ?_
              refine SafeOps.skip rfl rfl rfl ?_
              refine SafeOps.skip rfl rfl rfl ?_
              refine SafeOps.skip (congrArg some hc6633) rfl rfl ?_
              refine SafeOps.skip (congrArg some hc6633) rfl rfl ?_
              refine SafeOps.skip rfl rfl rfl ?_
              refine SafeOps.skip rfl rfl rfl ?_
              refine SafeOps.skip rfl rfl rfl ?_
              refine SafeOps.skip (congrArg some hc6633) rfl rfl ?_
              refine SafeOps.skip (congrArg some hc6633) rfl rfl ?_
              refine SafeOps.skip rfl rfl rfl ?_
              refine SafeOps.skip rfl rfl rfl ?_
              refine SafeOps.skip rfl rfl rfl ?_
              refine SafeOps.skip rfl rfl rfl ?_
              refine SafeOps.skip rfl rfl rfl ?_
              refine SafeOps.skip (congrArg some hc6633) rfl rfl ?_
              refine SafeOps.skip (congrArg some hc6633) rfl rfl ?_
              refine SafeOps.quiet0 E_good rfl rfl rfl (v := V.bool false) (.pickK rfl hc6633 rfl) ?_
              exact SafeOps.drop' 26 rfl rfl rfl K
            refine SafeOps.quiet0 E_good rfl rfl rfl (v := V.bool (x_6601 && ((x_6614 == (IntKind.i64.wrap (x_6607 + 1))) == ((((a2_6557.Kind == 1) && (decide (a2_6557.Id ≥ 0))) && (decide (a2_6557.A ≥ 0))) && (decide (a2_6557.A < (a0_6555.length : Int))))))) (.fn rfl) ?_
            refine SafeOps.nil ?_
            repeat (first | refine Safe.seq ?_ | refine Safe.skip ?_ | with_reducible refine thenQ.n ?_ | with_reducible refine blockQ.n ?_)
            refine Safe.ret ?_
            repeat (first | with_reducible refine thenQ.r ?_ | with_reducible refine blockQ.r ?_)
            obtain rfl := Option.some.inj h
            exact retQ.gen (vs := [V.bool (x_6601 && ((x_6614 == (IntKind.i64.wrap (x_6607 + 1))) == ((((a2_6557.Kind == 1) && (decide (a2_6557.Id ≥ 0))) && (decide (a2_6557.A ≥ 0))) && (decide (a2_6557.A < (a0_6555.length : Int))))))]) rfl (.tmp (v := V.bool (x_6601 && ((x_6614 == (IntKind.i64.wrap (x_6607 + 1))) == ((((a2_6557.Kind == 1) && (decide (a2_6557.Id ≥ 0))) && (decide (a2_6557.A ≥ 0))) && (decide (a2_6557.A < (a0_6555.length : Int))))))) rfl .nil) (.free rfl) (by simp) (.inr rfl)
          · skip
            refine Safe.condN rfl hc6632 ?_
            repeat (first | refine Safe.seq ?_ | refine Safe.skip ?_ | with_reducible refine thenQ.n ?_ | with_reducible refine blockQ.n ?_)
            refine Safe.region ?_
            refine SafeOps.quiet0 E_good rfl rfl rfl (v := V.ptr [5] 0 0) (.fn rfl) ?_
            refine SafeOps.quiet0 E_good rfl rfl rfl (v := V.int .i64 a2_6557.Kind) (.load rfl rfl (.box rfl rfl) rfl) ?_
            refine SafeOps.quiet0 E_good rfl rfl rfl (v := V.bool (a2_6557.Kind == 1)) (.fn rfl) ?_
            refine SafeOps.quiet0 E_good rfl rfl rfl (v := V.bool (a2_6557.Kind == 1)) (.fn rfl) ?_
            refine SafeOps.nil ?_
            repeat (first | refine Safe.seq ?_ | refine Safe.skip ?_ | with_reducible refine thenQ.n ?_ | with_reducible refine blockQ.n ?_)
            refine ifG h (fun hc6637 h => ?_) (fun hc6637 h => ?_)
            · skip
              refine Safe.condK rfl hc6637 ?_
              repeat (first | refine Safe.seq ?_ | refine Safe.skip ?_ | with_reducible refine thenQ.n ?_ | with_reducible refine blockQ.n ?_)
              refine Safe.region ?_
              refine SafeOps.quiet0 E_good rfl rfl rfl (v := V.bool x_6601) (.fn rfl) ?_
              refine SafeOps.quiet0 E_good rfl rfl rfl (v := V.bool x_6601) (.fn rfl) ?_
              refine SafeOps.bjoin 4 108 (b := (x_6601 && (x_6614 == x_6607))) (b1 := (x_6614 == x_6607)) (b0 := false) (fun hc6638 K => ?_) (fun hc6638 K => ?_) bj_and ?_
              · skip
                refine SafeOps.quiet0 E_good (congrArg some hc6638) rfl rfl (v := V.int .i64 x_6614) (.fn rfl) ?_
                refine SafeOps.quiet0 E_good (congrArg some hc6638) rfl rfl (v := V.int .i64 x_6607) (.fn rfl) ?_
                refine SafeOps.quiet0 E_good (congrArg some hc6638) rfl rfl (v := V.bool (x_6614 == x_6607)) (.fn rfl) ?_
                refine SafeOps.quiet0 E_good rfl rfl rfl (v := V.bool (x_6614 == x_6607)) (.pickK rfl hc6638 rfl) ?_
                exact SafeOps.drop' 4 rfl rfl rfl K
              · skip
                refine SafeOps.skip (congrArg some hc6638) rfl rfl ?_
                refine SafeOps.skip (congrArg some hc6638) rfl rfl ?_
                refine SafeOps.skip (congrArg some hc6638) rfl rfl ?_
                refine SafeOps.quiet0 E_good rfl rfl rfl (v := V.bool false) (.pickK rfl hc6638 rfl) ?_
                exact SafeOps.drop' 4 rfl rfl rfl K
              refine SafeOps.quiet0 E_good rfl rfl rfl (v := V.bool (x_6601 && (x_6614 == x_6607))) (.fn rfl) ?_
              refine SafeOps.nil ?_
              repeat (first | refine Safe.seq ?_ | refine Safe.skip ?_ | with_reducible refine thenQ.n ?_ | with_reducible refine blockQ.n ?_)
              refine Safe.ret ?_
              repeat (first | with_reducible refine thenQ.r ?_ | with_reducible refine blockQ.r ?_)
              obtain rfl := Option.some.inj h
              exact retQ.gen (vs := [V.bool (x_6601 && (x_6614 == x_6607))]) rfl (.tmp (v := V.bool (x_6601 && (x_6614 == x_6607))) rfl .nil) (.free rfl) (by simp) (.inr rfl)
            · skip
              refine Safe.condN rfl hc6637 ?_
              repeat (first | refine Safe.seq ?_ | refine Safe.skip ?_ | with_reducible refine thenQ.n ?_ | with_reducible refine blockQ.n ?_)
              refine Safe.region ?_
              refine SafeOps.quiet0 E_good rfl rfl rfl (v := V.ref [52, 0] 0 (rws api_Event.cells x_6617).length) (.fn rfl) ?_
              refine SafeOps.quiet0 E_good rfl rfl rfl (v := V.ref [52, 0] 0 (rws api_Event.cells x_6617).length) (.fn rfl) ?_
              refine SafeOps.quiet0 E_good rfl rfl rfl (v := V.int .i64 (x_6617.length : Int)) (.fnE rfl lenE) ?_
              refine SafeOps.quiet0 E_good rfl rfl rfl (v := V.int .i64 (IntKind.i64.wrap ((x_6617.length : Int) - 1))) (.fn rfl) ?_
              refine okG h (fun hb6639 h => ?_)
              refine SafeOps.quiet0 E_good rfl rfl rfl (v := V.ptr [52, 0] (0 + Int.toNat (IntKind.i64.wrap ((x_6617.length : Int) - 1))) 0) (.idxRefM (f := api_Event.cells) (xs := x_6617) rfl rfl rfl rfl rfl rfl hb6639) ?_
              refine SafeOps.quiet0 E_good rfl rfl rfl (v := V.ptr [52, 0] (0 + Int.toNat (IntKind.i64.wrap ((x_6617.length : Int) - 1))) 0) (.fn rfl) ?_
              refine SafeOps.quiet0 E_good rfl rfl rfl (v := V.int .i64 ((gt x_6617 (IntKind.i64.wrap ((x_6617.length : Int) - 1))).Kind)) (.load rfl rfl (.rowsM (f := api_Event.cells) (xs := x_6617) hb6639 rfl rfl) rfl) ?_
              refine SafeOps.quiet0 E_good rfl rfl rfl (v := V.int .i64 ((gt x_6617 (IntKind.i64.wrap ((x_6617.length : Int) - 1))).Kind)) (.fn rfl) ?_
              refine SafeOps.nil ?_
              repeat (first | refine Safe.seq ?_ | refine Safe.skip ?_ | with_reducible refine thenQ.n ?_ | with_reducible refine blockQ.n ?_)
              refine Safe.region ?_
              refine SafeOps.quiet0 E_good rfl rfl rfl (v := V.bool x_6601) (.fn rfl) ?_
              refine SafeOps.quiet0 E_good rfl rfl rfl (v := V.bool x_6601) (.fn rfl) ?_
              refine SafeOps.bjoin 12 129 (b := (x_6601 && ((x_6614 == x_6607) || ((((gt x_6617 (IntKind.i64.wrap ((x_6617.length : Int) - 1))).Kind) != 5) && (((gt x_6617 (IntKind.i64.wrap ((x_6617.length : Int) - 1))).Kind) != 6))))) (b1 := ((x_6614 == x_6607) || ((((gt x_6617 (IntKind.i64.wrap ((x_6617.length : Int) - 1))).Kind) != 5) && (((gt x_6617 (IntKind.i64.wrap ((x_6617.length : Int) - 1))).Kind) != 6)))) (b0 := false) (fun hc6640 K => ?_) (fun hc6640 K => ?_) bj_and ?_
              · skip
                refine SafeOps.quiet0 E_good (congrArg some hc6640) rfl rfl (v := V.int .i64 x_6614) (.fn rfl) ?_
                refine SafeOps.quiet0 E_good (congrArg some hc6640) rfl rfl (v := V.int .i64 x_6607) (.fn rfl) ?_
                refine SafeOps.quiet0 E_good (congrArg some hc6640) rfl rfl (v := V.bool (x_6614 == x_6607)) (.fn rfl) ?_
                refine SafeOps.quiet0 E_good (congrArg some hc6640) rfl rfl (v := V.bool (x_6614 == x_6607)) (.fn rfl) ?_
                refine SafeOps.bjoin 7 128 (b := ((x_6614 == x_6607) || ((((gt x_6617 (IntKind.i64.wrap ((x_6617.length : Int) - 1))).Kind) != 5) && (((gt x_6617 (IntKind.i64.wrap ((x_6617.length : Int) - 1))).Kind) != 6)))) (b1 := true) (b0 := ((((gt x_6617 (IntKind.i64.wrap ((x_6617.length : Int) - 1))).Kind) != 5) && (((gt x_6617 (IntKind.i64.wrap ((x_6617.length : Int) - 1))).Kind) != 6))) (fun hc6641 K => ?_) (fun hc6641 K => ?_) bj_or ?_
                · skip
                  refine SafeOps.skip (congrArg (fun b => some (!b)) hc6641) rfl rfl ?_
                  refine SafeOps.skip (congrArg (fun b => some (!b)) hc6641) rfl rfl ?_
                  refine SafeOps.skip (congrArg (fun b => some (!b)) hc6641) rfl rfl ?_
                  refine SafeOps.skip rfl rfl rfl ?_
                  refine SafeOps.skip rfl rfl rfl ?_
                  refine SafeOps.skip (congrArg (fun b => some (!b)) hc6641) rfl rfl ?_
                  refine SafeOps.quiet0 E_good (congrArg some hc6640) rfl rfl (v := V.bool true) (.pickK rfl hc6641 rfl) ?_
                  exact SafeOps.drop' 7 rfl rfl rfl K
                · skip
                  refine SafeOps.quiet0 E_good (congrArg (fun b => some (!b)) hc6641) rfl rfl (v := V.int .i64 ((gt x_6617 (IntKind.i64.wrap ((x_6617.length : Int) - 1))).Kind)) (.fn rfl) ?_
                  refine SafeOps.quiet0 E_good (congrArg (fun b => some (!b)) hc6641) rfl rfl (v := V.bool (((gt x_6617 (IntKind.i64.wrap ((x_6617.length : Int) - 1))).Kind) != 5)) (.fn rfl) ?_
                  refine SafeOps.quiet0 E_good (congrArg (fun b => some (!b)) hc6641) rfl rfl (v := V.bool (((gt x_6617 (IntKind.i64.wrap ((x_6617.length : Int) - 1))).Kind) != 5)) (.fn rfl) ?_
                  refine SafeOps.bjoin 3 127 (b := ((((gt x_6617 (IntKind.i64.wrap ((x_6617.length : Int) - 1))).Kind) != 5) && (((gt x_6617 (IntKind.i64.wrap ((x_6617.length : Int) - 1))).Kind) != 6))) (b1 := (((gt x_6617 (IntKind.i64.wrap ((x_6617.length : Int) - 1))).Kind) != 6)) (b0 := false) (fun hc6642 K => ?_) (fun hc6642 K => ?_) bj_and ?_
                  · skip
                    refine SafeOps.quiet0 E_good (congrArg some hc6642) rfl rfl (v := V.int .i64 ((gt x_6617 (IntKind.i64.wrap ((x_6617.length : Int) - 1))).Kind)) (.fn rfl) ?_
                    refine SafeOps.quiet0 E_good (congrArg some hc6642) rfl rfl (v := V.bool (((gt x_6617 (IntKind.i64.wrap ((x_6617.length : Int) - 1))).Kind) != 6)) (.fn rfl) ?_
                    refine SafeOps.quiet0 E_good (congrArg (fun b => some (!b)) hc6641) rfl rfl (v := V.bool (((gt x_6617 (IntKind.i64.wrap ((x_6617.length : Int) - 1))).Kind) != 6)) (.pickK rfl hc6642 rfl) ?_
                    exact SafeOps.drop' 3 rfl rfl rfl K
                  · skip
                    refine SafeOps.skip (congrArg some hc6642) rfl rfl ?_
                    refine SafeOps.skip (congrArg some hc6642) rfl rfl ?_
                    refine SafeOps.quiet0 E_good (congrArg (fun b => some (!b)) hc6641) rfl rfl (v := V.bool false) (.pickK rfl hc6642 rfl) ?_
                    exact SafeOps.drop' 3 rfl rfl rfl K
                  refine SafeOps.quiet0 E_good (congrArg some hc6640) rfl rfl (v := V.bool ((((gt x_6617 (IntKind.i64.wrap ((x_6617.length : Int) - 1))).Kind) != 5) && (((gt x_6617 (IntKind.i64.wrap ((x_6617.length : Int) - 1))).Kind) != 6))) (.pickK rfl hc6641 rfl) ?_
                  exact SafeOps.drop' 5 rfl rfl rfl K
                refine SafeOps.quiet0 E_good rfl rfl rfl (v := V.bool ((x_6614 == x_6607) || ((((gt x_6617 (IntKind.i64.wrap ((x_6617.length : Int) - 1))).Kind) != 5) && (((gt x_6617 (IntKind.i64.wrap ((x_6617.length : Int) - 1))).Kind) != 6)))) (.pickK rfl hc6640 rfl) ?_
                exact SafeOps.drop' 6 rfl rfl rfl K
              · skip
                refine SafeOps.skip (congrArg some hc6640) rfl rfl ?_
                refine SafeOps.skip (congrArg some hc6640) rfl rfl ?_
                refine SafeOps.skip (congrArg some hc6640) rfl rfl ?_
                refine SafeOps.skip (congrArg some hc6640) rfl rfl ?_
                refine SafeOps.skip rfl rfl rfl ?_
                refine SafeOps.skip rfl rfl rfl ?_
                refine SafeOps.skip rfl rfl rfl ?_
                refine SafeOps.skip rfl rfl rfl ?_
                refine SafeOps.skip rfl rfl rfl ?_
                refine SafeOps.skip rfl rfl rfl ?_
                refine SafeOps.skip (congrArg some hc6640) rfl rfl ?_
                refine SafeOps.quiet0 E_good rfl rfl rfl (v := V.bool false) (.pickK rfl hc6640 rfl) ?_
                exact SafeOps.drop' 12 rfl rfl rfl K
              refine SafeOps.quiet0 E_good rfl rfl rfl (v := V.bool (x_6601 && ((x_6614 == x_6607) || ((((gt x_6617 (IntKind.i64.wrap ((x_6617.length : Int) - 1))).Kind) != 5) && (((gt x_6617 (IntKind.i64.wrap ((x_6617.length : Int) - 1))).Kind) != 6))))) (.fn rfl) ?_
              refine SafeOps.nil ?_
              repeat (first | refine Safe.seq ?_ | refine Safe.skip ?_ | with_reducible refine thenQ.n ?_ | with_reducible refine blockQ.n ?_)
              refine Safe.ret ?_
              repeat (first | with_reducible refine thenQ.r ?_ | with_reducible refine blockQ.r ?_)
              obtain rfl := Option.some.inj h
              exact retQ.gen (vs := [V.bool (x_6601 && ((x_6614 == x_6607) || ((((gt x_6617 (IntKind.i64.wrap ((x_6617.length : Int) - 1))).Kind) != 5) && (((gt x_6617 (IntKind.i64.wrap ((x_6617.length : Int) - 1))).Kind) != 6))))]) rfl (.tmp (v := V.bool (x_6601 && ((x_6614 == x_6607) || ((((gt x_6617 (IntKind.i64.wrap ((x_6617.length : Int) - 1))).Kind) != 5) && (((gt x_6617 (IntKind.i64.wrap ((x_6617.length : Int) - 1))).Kind) != 6))))) rfl .nil) (.free rfl) (by simp) (.inr rfl)

def go_ravelref04_in (a0_6679 : Int) (a1_6680 : Int) (a2_6681 : Int) : Bool :=
  ((decide (a0_6679 ≥ a1_6680)) && (decide (a0_6679 ≤ a2_6681)))

def go_ravelref04_may (a0_6678 : api_Instr) : Bool :=
  if (a0_6678.Op == 1) = true then
    ((go_ravelref04_in a0_6678.A 1 100) && (a0_6678.B == 0))
  else
    if (a0_6678.Op == 2) = true then
      ((go_ravelref04_in a0_6678.A 0 15) && (go_ravelref04_in a0_6678.B 0 3))
    else
      if ((a0_6678.Op == 3) || (a0_6678.Op == 9)) = true then
        ((a0_6678.A == 0) && (a0_6678.B == 0))
      else
        if (a0_6678.Op == 4) = true then
          ((go_ravelref04_in a0_6678.A 1 1000) && (a0_6678.B == 0))
        else
          if (a0_6678.Op == 5) = true then
            ((go_ravelref04_in a0_6678.A 0 15) && (a0_6678.B == 0))
          else
            if (a0_6678.Op == 6) = true then
              ((go_ravelref04_in a0_6678.A 0 3) && (a0_6678.B == 0))
            else
              ((((a0_6678.Op == 7) || (a0_6678.Op == 8)) && (go_ravelref04_in a0_6678.A 0 7)) && (a0_6678.B == 0))

end Go.Proofs.YtpkegoikocfchaaDoor
