/- Helper lemmas for the claim's theorem: an abstract machine over the model, proved sound; no condition beyond each lemma's own. -/
import Derived.Test.YthhpnmfcmgdghaaT2
set_option linter.unusedVariables false
set_option linter.unusedSimpArgs false
set_option linter.unnecessarySimpa false
set_option linter.unusedSectionVars false
namespace Go.Proofs.Ythhpnmfcmgdghaa
open Go Go.AM
set_option maxRecDepth 100000
set_option maxHeartbeats 1000000
set_option linter.unusedVariables false
set_option linter.unusedSimpArgs false
variable {gl : List (Nat × List V)}
noncomputable def go_ravelref04_SameOne_s1 (a0_3505 : List api_Instr) (a1_3506 : List api_Instr) : (Int) → Option ((Int) ⊕ (Bool))
  | v13_3535 =>
    if (decide (v13_3535 < (a0_3505.length : Int))) = true then
      if 0 ≤ v13_3535 ∧ v13_3535 < (a0_3505.length : Int) then
        if 0 ≤ v13_3535 ∧ v13_3535 < (a1_3506.length : Int) then
          if (!(api_Instr.beq (gt a0_3505 v13_3535) (gt a1_3506 v13_3535))) = true then
            inrO (
              some false)
          else
            nextO (IntKind.i64.wrap (v13_3535 + 1))
        else none
      else none
    else
      inrO (
        some true)

noncomputable def go_ravelref04_SameOne (a0_3505 : List api_Instr) (a1_3506 : List api_Instr) : Option Bool :=
  if ((a0_3505.length : Int) != (a1_3506.length : Int)) = true then
    some false
  else
    whileO (go_ravelref04_SameOne_s1 a0_3505 a1_3506) 0

theorem go_ravelref04_SameOne_sc (a0_3505 : List api_Instr) (a1_3506 : List api_Instr) (r : Bool) (h : go_ravelref04_SameOne a0_3505 a1_3506 = some r) : SC Try.prog gl 61 [V.sl 3 (rws api_Instr.cells a0_3505), V.sl 3 (rws api_Instr.cells a1_3506)] (V.bool r) := by
  rw [go_ravelref04_SameOne] at h
  refine SC.of E_good Try.func61 rfl (fun _ _ => Try.call61 _ _) rfl ?_
  repeat (first | refine Safe.seq ?_ | refine Safe.skip ?_ | with_reducible refine thenQ.n ?_ | with_reducible refine blockQ.n ?_)
  refine Safe.region ?_
  refine SafeOps.quiet0 E_good rfl rfl rfl (v := V.bool false) (.fn rfl) ?_
  refine SafeOps.nil ?_
  repeat (first | refine Safe.seq ?_ | refine Safe.skip ?_ | with_reducible refine thenQ.n ?_ | with_reducible refine blockQ.n ?_)
  refine Safe.region ?_
  refine SafeOps.quiet0 E_good rfl rfl rfl (v := V.sl 3 (rws api_Instr.cells a0_3505)) (.fn rfl) ?_
  refine SafeOps.quiet0 E_good rfl rfl rfl (v := V.int .i64 (a0_3505.length : Int)) (.fnE rfl lenE) ?_
  refine SafeOps.quiet0 E_good rfl rfl rfl (v := V.sl 3 (rws api_Instr.cells a1_3506)) (.fn rfl) ?_
  refine SafeOps.quiet0 E_good rfl rfl rfl (v := V.int .i64 (a1_3506.length : Int)) (.fnE rfl lenE) ?_
  refine SafeOps.quiet0 E_good rfl rfl rfl (v := V.bool ((a0_3505.length : Int) != (a1_3506.length : Int))) (.fn rfl) ?_
  refine SafeOps.nil ?_
  repeat (first | refine Safe.seq ?_ | refine Safe.skip ?_ | with_reducible refine thenQ.n ?_ | with_reducible refine blockQ.n ?_)
  refine ifG h (fun hc3525 h => ?_) (fun hc3525 h => ?_)
  · skip
    refine Safe.condK rfl hc3525 ?_
    repeat (first | refine Safe.seq ?_ | refine Safe.skip ?_ | with_reducible refine thenQ.n ?_ | with_reducible refine blockQ.n ?_)
    refine Safe.region ?_
    refine SafeOps.quiet0 E_good rfl rfl rfl (v := V.bool false) (.fn rfl) ?_
    refine SafeOps.nil ?_
    repeat (first | refine Safe.seq ?_ | refine Safe.skip ?_ | with_reducible refine thenQ.n ?_ | with_reducible refine blockQ.n ?_)
    refine Safe.ret ?_
    repeat (first | with_reducible refine thenQ.r ?_ | with_reducible refine blockQ.r ?_)
    obtain rfl := Option.some.inj h
    exact retQ.gen (vs := [V.bool false]) rfl (.tmp (v := V.bool false) rfl .nil) (.free rfl) (by simp) (.inr rfl)
  · skip
    refine Safe.condN rfl hc3525 ?_
    repeat (first | refine Safe.seq ?_ | refine Safe.skip ?_ | with_reducible refine thenQ.n ?_ | with_reducible refine blockQ.n ?_)
    refine Safe.region ?_
    refine SafeOps.quiet0 E_good rfl rfl rfl (v := V.sl 3 (rws api_Instr.cells a0_3505)) (.fn rfl) ?_
    refine SafeOps.quiet0 E_good rfl rfl rfl (v := V.int .i64 (a0_3505.length : Int)) (.fnE rfl lenE) ?_
    refine SafeOps.quiet0 E_good rfl rfl rfl (v := V.int .i64 0) (.fn rfl) ?_
    refine SafeOps.nil ?_
    repeat (first | refine Safe.seq ?_ | refine Safe.skip ?_ | with_reducible refine thenQ.n ?_ | with_reducible refine blockQ.n ?_)
    refine Safe.block ?_
    repeat (first | refine Safe.seq ?_ | refine Safe.skip ?_ | with_reducible refine thenQ.n ?_ | with_reducible refine blockQ.n ?_)
    refine Safe.loopW (fun (v13_3535 : Int) => ⟨Try.f61.ntmps, [(0, V.sl 3 (rws api_Instr.cells a0_3505)), (1, V.sl 3 (rws api_Instr.cells a1_3506)), (12, V.int .i64 (a0_3505.length : Int)), (13, V.int .i64 v13_3535)], [], [], []⟩) h (.cov ⟨rfl, rfl, (upT_cons (.refl _) (upT_cons (.refl _) (upT_cons (.refl _) (upT_cons (.refl _) upT_nil)))), upOb_nil, upOut_nil, rfl⟩) ?_
    intro v13_3535 ohr3536 h hr3536
    replace h : go_ravelref04_SameOne_s1 a0_3505 a1_3506 v13_3535 = some ohr3536 := h
    rw [go_ravelref04_SameOne_s1] at h
    repeat (first | refine Safe.seq ?_ | refine Safe.skip ?_ | with_reducible refine thenQ.n ?_ | with_reducible refine blockQ.n ?_)
    refine Safe.region ?_
    refine SafeOps.quiet0 E_good rfl rfl rfl (v := V.bool (decide (v13_3535 < (a0_3505.length : Int)))) (.fn rfl) ?_
    refine SafeOps.nil ?_
    repeat (first | refine Safe.seq ?_ | refine Safe.skip ?_ | with_reducible refine thenQ.n ?_ | with_reducible refine blockQ.n ?_)
    refine ifG h (fun hc3537 h => ?_) (fun hc3537 h => ?_)
    · skip
      refine Safe.condK rfl hc3537 ?_
      repeat (first | refine Safe.seq ?_ | refine Safe.skip ?_ | with_reducible refine thenQ.n ?_ | with_reducible refine blockQ.n ?_)
      refine Safe.block ?_
      repeat (first | refine Safe.seq ?_ | refine Safe.skip ?_ | with_reducible refine thenQ.n ?_ | with_reducible refine blockQ.n ?_)
      refine Safe.region ?_
      refine SafeOps.quiet0 E_good rfl rfl rfl (v := V.int .i64 v13_3535) (.fn rfl) ?_
      refine SafeOps.quiet0 E_good rfl rfl rfl (v := V.int .i64 v13_3535) (.fn rfl) ?_
      refine SafeOps.nil ?_
      repeat (first | refine Safe.seq ?_ | refine Safe.skip ?_ | with_reducible refine thenQ.n ?_ | with_reducible refine blockQ.n ?_)
      refine Safe.regionD (n := 9) [] [] E_good mixed rfl ?_
      refine DAny.take (i := 0) rfl (by kernel_rfl) [] (by kernel_rfl) (by kernel_rfl) (by kernel_rfl) rfl rfl rfl (v := V.sl 3 (rws api_Instr.cells a0_3505)) (fun _ hz => (.fn rfl)) ?_
      refine DAny.take (i := 1) rfl (by kernel_rfl) [] (by kernel_rfl) (by kernel_rfl) (by kernel_rfl) rfl rfl rfl (v := V.int .i64 v13_3535) (fun _ hz => (.fn rfl)) ?_
      refine okG h (fun hb3538 h => ?_)
      refine DAny.take (i := 2) rfl (by kernel_rfl) [] (by kernel_rfl) (by kernel_rfl) (by kernel_rfl) rfl rfl rfl (v := V.spt 3 (rws api_Instr.cells a0_3505) (Int.toNat v13_3535) 0) (fun _ hz => (.idxSlM (f := api_Instr.cells) rfl rfl rfl rfl rfl hb3538)) ?_
      refine DAny.take (i := 3) rfl (by kernel_rfl) [] (by kernel_rfl) (by kernel_rfl) (by kernel_rfl) rfl rfl rfl (v := V.agg [V.int .i64 ((gt a0_3505 v13_3535).Op), V.int .i64 ((gt a0_3505 v13_3535).A), V.int .i64 ((gt a0_3505 v13_3535).B)]) (fun _ hz => (.load rfl rfl (.sptM (f := api_Instr.cells) hb3538 rfl) rfl)) ?_
      refine DAny.take (i := 4) rfl (by kernel_rfl) [] (by kernel_rfl) (by kernel_rfl) (by kernel_rfl) rfl rfl rfl (v := V.sl 3 (rws api_Instr.cells a1_3506)) (fun _ hz => (.fn rfl)) ?_
      refine DAny.take (i := 5) rfl (by kernel_rfl) [] (by kernel_rfl) (by kernel_rfl) (by kernel_rfl) rfl rfl rfl (v := V.int .i64 v13_3535) (fun _ hz => (.fn rfl)) ?_
      refine okG h (fun hb3539 h => ?_)
      refine DAny.take (i := 6) rfl (by kernel_rfl) [] (by kernel_rfl) (by kernel_rfl) (by kernel_rfl) rfl rfl rfl (v := V.spt 3 (rws api_Instr.cells a1_3506) (Int.toNat v13_3535) 0) (fun _ hz => (.idxSlM (f := api_Instr.cells) rfl rfl rfl rfl rfl hb3539)) ?_
      refine DAny.take (i := 7) rfl (by kernel_rfl) [] (by kernel_rfl) (by kernel_rfl) (by kernel_rfl) rfl rfl rfl (v := V.agg [V.int .i64 ((gt a1_3506 v13_3535).Op), V.int .i64 ((gt a1_3506 v13_3535).A), V.int .i64 ((gt a1_3506 v13_3535).B)]) (fun _ hz => (.load rfl rfl (.sptM (f := api_Instr.cells) hb3539 rfl) rfl)) ?_
      refine DAny.take (i := 8) rfl (by kernel_rfl) [] (by kernel_rfl) (by kernel_rfl) (by kernel_rfl) rfl rfl rfl (v := V.bool (!(api_Instr.beq (gt a0_3505 v13_3535) (gt a1_3506 v13_3535)))) (fun _ hz => (.neA rfl rfl rfl rfl okT67 rfl)) ?_
      refine DAny.nil (by kernel_rfl) ?_
      repeat (first | refine Safe.seq ?_ | refine Safe.skip ?_ | with_reducible refine thenQ.n ?_ | with_reducible refine blockQ.n ?_)
      refine ifG h (fun hc3540 h => ?_) (fun hc3540 h => ?_)
      · skip
        refine Safe.condK rfl hc3540 ?_
        repeat (first | refine Safe.seq ?_ | refine Safe.skip ?_ | with_reducible refine thenQ.n ?_ | with_reducible refine blockQ.n ?_)
        refine Safe.region ?_
        refine SafeOps.quiet0 E_good rfl rfl rfl (v := V.bool false) (.fn rfl) ?_
        refine SafeOps.nil ?_
        repeat (first | refine Safe.seq ?_ | refine Safe.skip ?_ | with_reducible refine thenQ.n ?_ | with_reducible refine blockQ.n ?_)
        refine Safe.ret ?_
        repeat (first | with_reducible refine thenQ.r ?_ | with_reducible refine blockQ.r ?_)
        replace h := inr_out h hr3536
        obtain rfl := Option.some.inj h
        exact retQ.gen (vs := [V.bool false]) rfl (.tmp (v := V.bool false) rfl .nil) (.free rfl) (by simp) (.inr rfl)
      · skip
        refine Safe.condN rfl hc3540 ?_
        repeat (first | refine Safe.seq ?_ | refine Safe.skip ?_ | with_reducible refine thenQ.n ?_ | with_reducible refine blockQ.n ?_)
        refine Safe.region ?_
        refine SafeOps.quiet0 E_good rfl rfl rfl (v := V.int .i64 (IntKind.i64.wrap (v13_3535 + 1))) (.fn rfl) ?_
        refine SafeOps.quiet0 E_good rfl rfl rfl (v := V.int .i64 (IntKind.i64.wrap (v13_3535 + 1))) (.fn rfl) ?_
        refine SafeOps.nil ?_
        repeat (first | refine Safe.seq ?_ | refine Safe.skip ?_ | with_reducible refine thenQ.n ?_ | with_reducible refine blockQ.n ?_)
        exact ⟨_, next_out h, (.cov ⟨rfl, rfl, (upT_cons (.refl _) (upT_cons (.refl _) (upT_cons (.refl _) (upT_cons (.refl _) upT_nil)))), upOb_nil, upOut_nil, rfl⟩)⟩
    · skip
      refine Safe.condN rfl hc3537 ?_
      repeat (first | refine Safe.seq ?_ | refine Safe.skip ?_ | with_reducible refine thenQ.n ?_ | with_reducible refine blockQ.n ?_)
      refine Safe.exit ?_
      repeat (first | with_reducible refine thenQ.e ?_ | with_reducible refine blockQ.x rfl ?_ | with_reducible refine blockQ.y rfl ?_)
      replace h := inr_out h hr3536
      repeat (first | refine Safe.seq ?_ | refine Safe.skip ?_ | with_reducible refine thenQ.n ?_ | with_reducible refine blockQ.n ?_)
      refine Safe.region ?_
      refine SafeOps.quiet0 E_good rfl rfl rfl (v := V.bool true) (.fn rfl) ?_
      refine SafeOps.nil ?_
      repeat (first | refine Safe.seq ?_ | refine Safe.skip ?_ | with_reducible refine thenQ.n ?_ | with_reducible refine blockQ.n ?_)
      refine Safe.ret ?_
      repeat (first | with_reducible refine thenQ.r ?_ | with_reducible refine blockQ.r ?_)
      obtain rfl := Option.some.inj h
      exact retQ.gen (vs := [V.bool true]) rfl (.tmp (v := V.bool true) rfl .nil) (.free rfl) (by simp) (.inr rfl)

noncomputable def go_ravelref04_Same_s1 (a0_3497 : List (List api_Instr)) (a1_3498 : List (List api_Instr)) : (Int) → Option ((Int) ⊕ (Bool))
  | v13_3573 =>
    if (decide (v13_3573 < (a0_3497.length : Int))) = true then
      if 0 ≤ v13_3573 ∧ v13_3573 < (a0_3497.length : Int) then
        if 0 ≤ v13_3573 ∧ v13_3573 < (a1_3498.length : Int) then
          (go_ravelref04_SameOne (gt a0_3497 v13_3573) (gt a1_3498 v13_3573)).bind fun x_3578 =>
          if (!x_3578) = true then
            inrO (
              some false)
          else
            nextO (IntKind.i64.wrap (v13_3573 + 1))
        else none
      else none
    else
      inrO (
        some true)

noncomputable def go_ravelref04_Same (a0_3497 : List (List api_Instr)) (a1_3498 : List (List api_Instr)) : Option Bool :=
  if ((a0_3497.length : Int) != (a1_3498.length : Int)) = true then
    some false
  else
    whileO (go_ravelref04_Same_s1 a0_3497 a1_3498) 0

theorem go_ravelref04_Same_sc (a0_3497 : List (List api_Instr)) (a1_3498 : List (List api_Instr)) (r : Bool) (h : go_ravelref04_Same a0_3497 a1_3498 = some r) : SC Try.prog gl 48 [V.sl 1 (rws (fun l => [V.sl 3 (rws api_Instr.cells l)]) a0_3497), V.sl 1 (rws (fun l => [V.sl 3 (rws api_Instr.cells l)]) a1_3498)] (V.bool r) := by
  rw [go_ravelref04_Same] at h
  refine SC.of E_good Try.func48 rfl (fun _ _ => Try.call48 _ _) rfl ?_
  repeat (first | refine Safe.seq ?_ | refine Safe.skip ?_ | with_reducible refine thenQ.n ?_ | with_reducible refine blockQ.n ?_)
  refine Safe.region ?_
  refine SafeOps.quiet0 E_good rfl rfl rfl (v := V.bool false) (.fn rfl) ?_
  refine SafeOps.nil ?_
  repeat (first | refine Safe.seq ?_ | refine Safe.skip ?_ | with_reducible refine thenQ.n ?_ | with_reducible refine blockQ.n ?_)
  refine Safe.region ?_
  refine SafeOps.quiet0 E_good rfl rfl rfl (v := V.sl 1 (rws (fun l => [V.sl 3 (rws api_Instr.cells l)]) a0_3497)) (.fn rfl) ?_
  refine SafeOps.quiet0 E_good rfl rfl rfl (v := V.int .i64 (a0_3497.length : Int)) (.fnE rfl lenE) ?_
  refine SafeOps.quiet0 E_good rfl rfl rfl (v := V.sl 1 (rws (fun l => [V.sl 3 (rws api_Instr.cells l)]) a1_3498)) (.fn rfl) ?_
  refine SafeOps.quiet0 E_good rfl rfl rfl (v := V.int .i64 (a1_3498.length : Int)) (.fnE rfl lenE) ?_
  refine SafeOps.quiet0 E_good rfl rfl rfl (v := V.bool ((a0_3497.length : Int) != (a1_3498.length : Int))) (.fn rfl) ?_
  refine SafeOps.nil ?_
  repeat (first | refine Safe.seq ?_ | refine Safe.skip ?_ | with_reducible refine thenQ.n ?_ | with_reducible refine blockQ.n ?_)
  refine ifG h (fun hc3559 h => ?_) (fun hc3559 h => ?_)
  · skip
    refine Safe.condK rfl hc3559 ?_
    repeat (first | refine Safe.seq ?_ | refine Safe.skip ?_ | with_reducible refine thenQ.n ?_ | with_reducible refine blockQ.n ?_)
    refine Safe.region ?_
    refine SafeOps.quiet0 E_good rfl rfl rfl (v := V.bool false) (.fn rfl) ?_
    refine SafeOps.nil ?_
    repeat (first | refine Safe.seq ?_ | refine Safe.skip ?_ | with_reducible refine thenQ.n ?_ | with_reducible refine blockQ.n ?_)
    refine Safe.ret ?_
    repeat (first | with_reducible refine thenQ.r ?_ | with_reducible refine blockQ.r ?_)
    obtain rfl := Option.some.inj h
    exact retQ.gen (vs := [V.bool false]) rfl (.tmp (v := V.bool false) rfl .nil) (.free rfl) (by simp) (.inr rfl)
  · skip
    refine Safe.condN rfl hc3559 ?_
    repeat (first | refine Safe.seq ?_ | refine Safe.skip ?_ | with_reducible refine thenQ.n ?_ | with_reducible refine blockQ.n ?_)
    refine Safe.region ?_
    refine SafeOps.quiet0 E_good rfl rfl rfl (v := V.sl 1 (rws (fun l => [V.sl 3 (rws api_Instr.cells l)]) a0_3497)) (.fn rfl) ?_
    refine SafeOps.quiet0 E_good rfl rfl rfl (v := V.int .i64 (a0_3497.length : Int)) (.fnE rfl lenE) ?_
    refine SafeOps.quiet0 E_good rfl rfl rfl (v := V.int .i64 0) (.fn rfl) ?_
    refine SafeOps.nil ?_
    repeat (first | refine Safe.seq ?_ | refine Safe.skip ?_ | with_reducible refine thenQ.n ?_ | with_reducible refine blockQ.n ?_)
    refine Safe.block ?_
    repeat (first | refine Safe.seq ?_ | refine Safe.skip ?_ | with_reducible refine thenQ.n ?_ | with_reducible refine blockQ.n ?_)
    refine Safe.loopW (fun (v13_3573 : Int) => ⟨Try.f48.ntmps, [(0, V.sl 1 (rws (fun l => [V.sl 3 (rws api_Instr.cells l)]) a0_3497)), (1, V.sl 1 (rws (fun l => [V.sl 3 (rws api_Instr.cells l)]) a1_3498)), (12, V.int .i64 (a0_3497.length : Int)), (13, V.int .i64 v13_3573)], [], [], []⟩) h (.cov ⟨rfl, rfl, (upT_cons (.refl _) (upT_cons (.refl _) (upT_cons (.refl _) (upT_cons (.refl _) upT_nil)))), upOb_nil, upOut_nil, rfl⟩) ?_
    intro v13_3573 ohr3574 h hr3574
    replace h : go_ravelref04_Same_s1 a0_3497 a1_3498 v13_3573 = some ohr3574 := h
    rw [go_ravelref04_Same_s1] at h
    repeat (first | refine Safe.seq ?_ | refine Safe.skip ?_ | with_reducible refine thenQ.n ?_ | with_reducible refine blockQ.n ?_)
    refine Safe.region ?_
    refine SafeOps.quiet0 E_good rfl rfl rfl (v := V.bool (decide (v13_3573 < (a0_3497.length : Int)))) (.fn rfl) ?_
    refine SafeOps.nil ?_
    repeat (first | refine Safe.seq ?_ | refine Safe.skip ?_ | with_reducible refine thenQ.n ?_ | with_reducible refine blockQ.n ?_)
    refine ifG h (fun hc3575 h => ?_) (fun hc3575 h => ?_)
    · skip
      refine Safe.condK rfl hc3575 ?_
      repeat (first | refine Safe.seq ?_ | refine Safe.skip ?_ | with_reducible refine thenQ.n ?_ | with_reducible refine blockQ.n ?_)
      refine Safe.block ?_
      repeat (first | refine Safe.seq ?_ | refine Safe.skip ?_ | with_reducible refine thenQ.n ?_ | with_reducible refine blockQ.n ?_)
      refine Safe.region ?_
      refine SafeOps.quiet0 E_good rfl rfl rfl (v := V.int .i64 v13_3573) (.fn rfl) ?_
      refine SafeOps.quiet0 E_good rfl rfl rfl (v := V.int .i64 v13_3573) (.fn rfl) ?_
      refine SafeOps.nil ?_
      repeat (first | refine Safe.seq ?_ | refine Safe.skip ?_ | with_reducible refine thenQ.n ?_ | with_reducible refine blockQ.n ?_)
      refine Safe.regionD (n := 10) [] [] E_good mixed rfl ?_
      refine DAny.take (i := 0) rfl (by kernel_rfl) [] (by kernel_rfl) (by kernel_rfl) (by kernel_rfl) rfl rfl rfl (v := V.sl 1 (rws (fun l => [V.sl 3 (rws api_Instr.cells l)]) a0_3497)) (fun _ hz => (.fn rfl)) ?_
      refine DAny.take (i := 1) rfl (by kernel_rfl) [] (by kernel_rfl) (by kernel_rfl) (by kernel_rfl) rfl rfl rfl (v := V.int .i64 v13_3573) (fun _ hz => (.fn rfl)) ?_
      refine okG h (fun hb3576 h => ?_)
      refine DAny.take (i := 2) rfl (by kernel_rfl) [] (by kernel_rfl) (by kernel_rfl) (by kernel_rfl) rfl rfl rfl (v := V.spt 1 (rws (fun l => [V.sl 3 (rws api_Instr.cells l)]) a0_3497) (Int.toNat v13_3573) 0) (fun _ hz => (.idxSlM (f := (fun l => [V.sl 3 (rws api_Instr.cells l)])) rfl rfl rfl rfl rfl hb3576)) ?_
      refine DAny.take (i := 3) rfl (by kernel_rfl) [] (by kernel_rfl) (by kernel_rfl) (by kernel_rfl) rfl rfl rfl (v := V.sl 3 (rws api_Instr.cells (gt a0_3497 v13_3573))) (fun _ hz => (.load rfl rfl (.sptM (f := (fun l => [V.sl 3 (rws api_Instr.cells l)])) hb3576 rfl) rfl)) ?_
      refine DAny.take (i := 4) rfl (by kernel_rfl) [] (by kernel_rfl) (by kernel_rfl) (by kernel_rfl) rfl rfl rfl (v := V.sl 1 (rws (fun l => [V.sl 3 (rws api_Instr.cells l)]) a1_3498)) (fun _ hz => (.fn rfl)) ?_
      refine DAny.take (i := 5) rfl (by kernel_rfl) [] (by kernel_rfl) (by kernel_rfl) (by kernel_rfl) rfl rfl rfl (v := V.int .i64 v13_3573) (fun _ hz => (.fn rfl)) ?_
      refine okG h (fun hb3577 h => ?_)
      refine DAny.take (i := 6) rfl (by kernel_rfl) [] (by kernel_rfl) (by kernel_rfl) (by kernel_rfl) rfl rfl rfl (v := V.spt 1 (rws (fun l => [V.sl 3 (rws api_Instr.cells l)]) a1_3498) (Int.toNat v13_3573) 0) (fun _ hz => (.idxSlM (f := (fun l => [V.sl 3 (rws api_Instr.cells l)])) rfl rfl rfl rfl rfl hb3577)) ?_
      refine DAny.take (i := 7) rfl (by kernel_rfl) [] (by kernel_rfl) (by kernel_rfl) (by kernel_rfl) rfl rfl rfl (v := V.sl 3 (rws api_Instr.cells (gt a1_3498 v13_3573))) (fun _ hz => (.load rfl rfl (.sptM (f := (fun l => [V.sl 3 (rws api_Instr.cells l)])) hb3577 rfl) rfl)) ?_
      refine bindG h ?_
      intro x_3578 he3579 h
      refine DAny.take (i := 8) rfl (by kernel_rfl) [] (by kernel_rfl) (by kernel_rfl) (by kernel_rfl) rfl rfl rfl (v := V.bool x_3578) (fun _ hz => (.callP rfl rfl (go_ravelref04_SameOne_sc (gt a0_3497 v13_3573) (gt a1_3498 v13_3573) _ he3579) rfl)) ?_
      refine DAny.take (i := 9) rfl (by kernel_rfl) [] (by kernel_rfl) (by kernel_rfl) (by kernel_rfl) rfl rfl rfl (v := V.bool (!x_3578)) (fun _ hz => (.fn rfl)) ?_
      refine DAny.nil (by kernel_rfl) ?_
      repeat (first | refine Safe.seq ?_ | refine Safe.skip ?_ | with_reducible refine thenQ.n ?_ | with_reducible refine blockQ.n ?_)
      refine ifG h (fun hc3580 h => ?_) (fun hc3580 h => ?_)
      · skip
        refine Safe.condK rfl hc3580 ?_
        repeat (first | refine Safe.seq ?_ | refine Safe.skip ?_ | with_reducible refine thenQ.n ?_ | with_reducible refine blockQ.n ?_)
        refine Safe.region ?_
        refine SafeOps.quiet0 E_good rfl rfl rfl (v := V.bool false) (.fn rfl) ?_
        refine SafeOps.nil ?_
        repeat (first | refine Safe.seq ?_ | refine Safe.skip ?_ | with_reducible refine thenQ.n ?_ | with_reducible refine blockQ.n ?_)
        refine Safe.ret ?_
        repeat (first | with_reducible refine thenQ.r ?_ | with_reducible refine blockQ.r ?_)
        replace h := inr_out h hr3574
        obtain rfl := Option.some.inj h
        exact retQ.gen (vs := [V.bool false]) rfl (.tmp (v := V.bool false) rfl .nil) (.free rfl) (by simp) (.inr rfl)
      · skip
        refine Safe.condN rfl hc3580 ?_
        repeat (first | refine Safe.seq ?_ | refine Safe.skip ?_ | with_reducible refine thenQ.n ?_ | with_reducible refine blockQ.n ?_)
        refine Safe.region ?_
        refine SafeOps.quiet0 E_good rfl rfl rfl (v := V.int .i64 (IntKind.i64.wrap (v13_3573 + 1))) (.fn rfl) ?_
        refine SafeOps.quiet0 E_good rfl rfl rfl (v := V.int .i64 (IntKind.i64.wrap (v13_3573 + 1))) (.fn rfl) ?_
        refine SafeOps.nil ?_
        repeat (first | refine Safe.seq ?_ | refine Safe.skip ?_ | with_reducible refine thenQ.n ?_ | with_reducible refine blockQ.n ?_)
        exact ⟨_, next_out h, (.cov ⟨rfl, rfl, (upT_cons (.refl _) (upT_cons (.refl _) (upT_cons (.refl _) (upT_cons (.refl _) upT_nil)))), upOb_nil, upOut_nil, rfl⟩)⟩
    · skip
      refine Safe.condN rfl hc3575 ?_
      repeat (first | refine Safe.seq ?_ | refine Safe.skip ?_ | with_reducible refine thenQ.n ?_ | with_reducible refine blockQ.n ?_)
      refine Safe.exit ?_
      repeat (first | with_reducible refine thenQ.e ?_ | with_reducible refine blockQ.x rfl ?_ | with_reducible refine blockQ.y rfl ?_)
      replace h := inr_out h hr3574
      repeat (first | refine Safe.seq ?_ | refine Safe.skip ?_ | with_reducible refine thenQ.n ?_ | with_reducible refine blockQ.n ?_)
      refine Safe.region ?_
      refine SafeOps.quiet0 E_good rfl rfl rfl (v := V.bool true) (.fn rfl) ?_
      refine SafeOps.nil ?_
      repeat (first | refine Safe.seq ?_ | refine Safe.skip ?_ | with_reducible refine thenQ.n ?_ | with_reducible refine blockQ.n ?_)
      refine Safe.ret ?_
      repeat (first | with_reducible refine thenQ.r ?_ | with_reducible refine blockQ.r ?_)
      obtain rfl := Option.some.inj h
      exact retQ.gen (vs := [V.bool true]) rfl (.tmp (v := V.bool true) rfl .nil) (.free rfl) (by simp) (.inr rfl)

noncomputable def go_ravelref19_Same_j3 (a0_3450 : api_Config) (a1_3451 : api_Config) (b_3714 : Bool) : Option Bool :=
  if ((b_3714 && (a0_3450.Tasks == a1_3451.Tasks)) && (a0_3450.Fds == a1_3451.Fds)) = true then
    (go_ravelref06_SameInts a0_3450.Sems a1_3451.Sems).bind fun x_3721 =>
    some x_3721
  else
    some false

noncomputable def go_ravelref19_Same_j2 (a0_3450 : api_Config) (a1_3451 : api_Config) (b_3709 : Bool) : Option Bool :=
  if b_3709 = true then
    (go_ravelref04_Same a0_3450.Progs a1_3451.Progs).bind fun x_3723 =>
    go_ravelref19_Same_j3 a0_3450 a1_3451 x_3723
  else
    go_ravelref19_Same_j3 a0_3450 a1_3451 false

noncomputable def go_ravelref19_Same_j1 (a0_3450 : api_Config) (a1_3451 : api_Config) (b_3704 : Bool) : Option Bool :=
  if b_3704 = true then
    (go_ravelref06_SameInts a0_3450.Quotas a1_3451.Quotas).bind fun x_3725 =>
    go_ravelref19_Same_j2 a0_3450 a1_3451 x_3725
  else
    go_ravelref19_Same_j2 a0_3450 a1_3451 false

noncomputable def go_ravelref19_Same (a0_3450 : api_Config) (a1_3451 : api_Config) : Option Bool :=
  if (((a0_3450.Workers == a1_3451.Workers) && (a0_3450.Cap == a1_3451.Cap)) && (a0_3450.Budget == a1_3451.Budget)) = true then
    (go_ravelref06_SameInts a0_3450.Weights a1_3451.Weights).bind fun x_3727 =>
    go_ravelref19_Same_j1 a0_3450 a1_3451 x_3727
  else
    go_ravelref19_Same_j1 a0_3450 a1_3451 false

theorem go_ravelref19_Same_sc (a0_3450 : api_Config) (a1_3451 : api_Config) (r : Bool) (h : go_ravelref19_Same a0_3450 a1_3451 = some r) : SC Try.prog gl 24 [V.agg [V.int .i64 a0_3450.Workers, V.int .i64 a0_3450.Cap, V.int .i64 a0_3450.Budget, V.sl 1 (rws (fun n => [V.int .i64 n]) a0_3450.Weights), V.sl 1 (rws (fun n => [V.int .i64 n]) a0_3450.Quotas), V.sl 1 (rws (fun l => [V.sl 3 (rws api_Instr.cells l)]) a0_3450.Progs), V.int .i64 a0_3450.Tasks, V.int .i64 a0_3450.Fds, V.sl 1 (rws (fun n => [V.int .i64 n]) a0_3450.Sems)], V.agg [V.int .i64 a1_3451.Workers, V.int .i64 a1_3451.Cap, V.int .i64 a1_3451.Budget, V.sl 1 (rws (fun n => [V.int .i64 n]) a1_3451.Weights), V.sl 1 (rws (fun n => [V.int .i64 n]) a1_3451.Quotas), V.sl 1 (rws (fun l => [V.sl 3 (rws api_Instr.cells l)]) a1_3451.Progs), V.int .i64 a1_3451.Tasks, V.int .i64 a1_3451.Fds, V.sl 1 (rws (fun n => [V.int .i64 n]) a1_3451.Sems)]] (V.bool r) := by
  rw [go_ravelref19_Same] at h
  refine SC.of E_good Try.func24 rfl (fun _ _ => Try.call24 _ _) rfl ?_
  repeat (first | refine Safe.seq ?_ | refine Safe.skip ?_ | with_reducible refine thenQ.n ?_ | with_reducible refine blockQ.n ?_)
  refine Safe.region ?_
  refine SafeOps.quiet1 E_good rfl rfl rfl (.box rfl rfl) rfl ?_
  refine SafeOps.quiet1 E_good rfl rfl rfl (.box rfl rfl) rfl ?_
  refine SafeOps.quiet0 E_good rfl rfl rfl (v := V.bool false) (.fn rfl) ?_
  refine SafeOps.nil ?_
  repeat (first | refine Safe.seq ?_ | refine Safe.skip ?_ | with_reducible refine thenQ.n ?_ | with_reducible refine blockQ.n ?_)
  refine Safe.region ?_
  refine SafeOps.quiet0 E_good rfl rfl rfl (v := V.ptr [2] 0 0) (.fn rfl) ?_
  refine SafeOps.quiet0 E_good rfl rfl rfl (v := V.int .i64 a0_3450.Workers) (.load rfl rfl (.box rfl rfl) rfl) ?_
  refine SafeOps.quiet0 E_good rfl rfl rfl (v := V.ptr [3] 0 0) (.fn rfl) ?_
  refine SafeOps.quiet0 E_good rfl rfl rfl (v := V.int .i64 a1_3451.Workers) (.load rfl rfl (.box rfl rfl) rfl) ?_
  refine SafeOps.quiet0 E_good rfl rfl rfl (v := V.bool (a0_3450.Workers == a1_3451.Workers)) (.fn rfl) ?_
  refine SafeOps.quiet0 E_good rfl rfl rfl (v := V.bool (a0_3450.Workers == a1_3451.Workers)) (.fn rfl) ?_
  refine SafeOps.bjoin 6 16 (b := ((a0_3450.Workers == a1_3451.Workers) && (a0_3450.Cap == a1_3451.Cap))) (b1 := (a0_3450.Cap == a1_3451.Cap)) (b0 := false) (fun hc3699 K => ?_) (fun hc3699 K => ?_) bj_and ?_
  · skip
    refine SafeOps.quiet0 E_good (congrArg some hc3699) rfl rfl (v := V.ptr [2] 0 1) (.fn rfl) ?_
    refine SafeOps.quiet0 E_good (congrArg some hc3699) rfl rfl (v := V.int .i64 a0_3450.Cap) (.load rfl rfl (.box rfl rfl) rfl) ?_
    refine SafeOps.quiet0 E_good (congrArg some hc3699) rfl rfl (v := V.ptr [3] 0 1) (.fn rfl) ?_
    refine SafeOps.quiet0 E_good (congrArg some hc3699) rfl rfl (v := V.int .i64 a1_3451.Cap) (.load rfl rfl (.box rfl rfl) rfl) ?_
    refine SafeOps.quiet0 E_good (congrArg some hc3699) rfl rfl (v := V.bool (a0_3450.Cap == a1_3451.Cap)) (.fn rfl) ?_
    refine SafeOps.quiet0 E_good rfl rfl rfl (v := V.bool (a0_3450.Cap == a1_3451.Cap)) (.pickK rfl hc3699 rfl) ?_
    exact SafeOps.drop' 6 rfl rfl rfl K
  · skip
    refine SafeOps.skip (congrArg some hc3699) rfl rfl ?_
    refine SafeOps.skip (congrArg some hc3699) rfl rfl ?_
    refine SafeOps.skip (congrArg some hc3699) rfl rfl ?_
    refine SafeOps.skip (congrArg some hc3699) rfl rfl ?_
    refine SafeOps.skip (congrArg some hc3699) rfl rfl ?_
    refine SafeOps.quiet0 E_good rfl rfl rfl (v := V.bool false) (.pickK rfl hc3699 rfl) ?_
    exact SafeOps.drop' 6 rfl rfl rfl K
  refine SafeOps.quiet0 E_good rfl rfl rfl (v := V.bool ((a0_3450.Workers == a1_3451.Workers) && (a0_3450.Cap == a1_3451.Cap))) (.fn rfl) ?_
  refine SafeOps.bjoin 6 23 (b := (((a0_3450.Workers == a1_3451.Workers) && (a0_3450.Cap == a1_3451.Cap)) && (a0_3450.Budget == a1_3451.Budget))) (b1 := (a0_3450.Budget == a1_3451.Budget)) (b0 := false) (fun hc3700 K => ?_) (fun hc3700 K => ?_) bj_and ?_
  · skip
    refine SafeOps.quiet0 E_good (congrArg some hc3700) rfl rfl (v := V.ptr [2] 0 2) (.fn rfl) ?_
    refine SafeOps.quiet0 E_good (congrArg some hc3700) rfl rfl (v := V.int .i64 a0_3450.Budget) (.load rfl rfl (.box rfl rfl) rfl) ?_
    refine SafeOps.quiet0 E_good (congrArg some hc3700) rfl rfl (v := V.ptr [3] 0 2) (.fn rfl) ?_
    refine SafeOps.quiet0 E_good (congrArg some hc3700) rfl rfl (v := V.int .i64 a1_3451.Budget) (.load rfl rfl (.box rfl rfl) rfl) ?_
    refine SafeOps.quiet0 E_good (congrArg some hc3700) rfl rfl (v := V.bool (a0_3450.Budget == a1_3451.Budget)) (.fn rfl) ?_
    refine SafeOps.quiet0 E_good rfl rfl rfl (v := V.bool (a0_3450.Budget == a1_3451.Budget)) (.pickK rfl hc3700 rfl) ?_
    exact SafeOps.drop' 6 rfl rfl rfl K
  · skip
    refine SafeOps.skip (congrArg some hc3700) rfl rfl ?_
    refine SafeOps.skip (congrArg some hc3700) rfl rfl ?_
    refine SafeOps.skip (congrArg some hc3700) rfl rfl ?_
    refine SafeOps.skip (congrArg some hc3700) rfl rfl ?_
    refine SafeOps.skip (congrArg some hc3700) rfl rfl ?_
    refine SafeOps.quiet0 E_good rfl rfl rfl (v := V.bool false) (.pickK rfl hc3700 rfl) ?_
    exact SafeOps.drop' 6 rfl rfl rfl K
  refine SafeOps.quiet0 E_good rfl rfl rfl (v := V.bool (((a0_3450.Workers == a1_3451.Workers) && (a0_3450.Cap == a1_3451.Cap)) && (a0_3450.Budget == a1_3451.Budget))) (.fn rfl) ?_
  refine SafeOps.bsplit 6 30 (fun b_3704 => go_ravelref19_Same_j1 a0_3450 a1_3451 b_3704 = some r) (fun HJ3705 => ?_) (fun b_3704 h => ?_)
  · refine ifG h (fun hc3701 h => ?_) (fun hc3701 h => ?_)
    · skip
      refine SafeOps.quiet0 E_good (congrArg some hc3701) rfl rfl (v := V.ptr [2] 0 3) (.fn rfl) ?_
      refine SafeOps.quiet0 E_good (congrArg some hc3701) rfl rfl (v := V.sl 1 (rws (fun n => [V.int .i64 n]) a0_3450.Weights)) (.load rfl rfl (.box rfl rfl) rfl) ?_
      refine SafeOps.quiet0 E_good (congrArg some hc3701) rfl rfl (v := V.ptr [3] 0 3) (.fn rfl) ?_
      refine SafeOps.quiet0 E_good (congrArg some hc3701) rfl rfl (v := V.sl 1 (rws (fun n => [V.int .i64 n]) a1_3451.Weights)) (.load rfl rfl (.box rfl rfl) rfl) ?_
      refine bindG h ?_
      intro x_3727 he3728 h
      refine SafeOps.quiet0 E_good (congrArg some hc3701) rfl rfl (v := V.bool x_3727) (.callP rfl rfl (go_ravelref06_SameInts_sc a0_3450.Weights a1_3451.Weights _ he3728) rfl) ?_
      refine SafeOps.quiet0 E_good rfl rfl rfl (v := V.bool x_3727) (.pickK rfl hc3701 rfl) ?_
      exact SafeOps.drop' 6 rfl rfl rfl (HJ3705 _ h)
    · skip
      refine SafeOps.skip (congrArg some hc3701) rfl rfl ?_
      refine SafeOps.skip (congrArg some hc3701) rfl rfl ?_
      refine SafeOps.skip (congrArg some hc3701) rfl rfl ?_
      refine SafeOps.skip (congrArg some hc3701) rfl rfl ?_
      refine SafeOps.skip (congrArg some hc3701) rfl rfl ?_
      refine SafeOps.quiet0 E_good rfl rfl rfl (v := V.bool false) (.pickK rfl hc3701 rfl) ?_
      exact SafeOps.drop' 6 rfl rfl rfl (HJ3705 _ h)
  · replace h : go_ravelref19_Same_j1 a0_3450 a1_3451 b_3704 = some r := h
    rw [go_ravelref19_Same_j1] at h
    refine SafeOps.quiet0 E_good rfl rfl rfl (v := V.bool b_3704) (.fn rfl) ?_
    refine SafeOps.bsplit 6 37 (fun b_3709 => go_ravelref19_Same_j2 a0_3450 a1_3451 b_3709 = some r) (fun HJ3710 => ?_) (fun b_3709 h => ?_)
    · refine ifG h (fun hc3706 h => ?_) (fun hc3706 h => ?_)
      · skip
        refine SafeOps.quiet0 E_good (congrArg some hc3706) rfl rfl (v := V.ptr [2] 0 4) (.fn rfl) ?_
        refine SafeOps.quiet0 E_good (congrArg some hc3706) rfl rfl (v := V.sl 1 (rws (fun n => [V.int .i64 n]) a0_3450.Quotas)) (.load rfl rfl (.box rfl rfl) rfl) ?_
        refine SafeOps.quiet0 E_good (congrArg some hc3706) rfl rfl (v := V.ptr [3] 0 4) (.fn rfl) ?_
        refine SafeOps.quiet0 E_good (congrArg some hc3706) rfl rfl (v := V.sl 1 (rws (fun n => [V.int .i64 n]) a1_3451.Quotas)) (.load rfl rfl (.box rfl rfl) rfl) ?_
        refine bindG h ?_
        intro x_3725 he3726 h
        refine SafeOps.quiet0 E_good (congrArg some hc3706) rfl rfl (v := V.bool x_3725) (.callP rfl rfl (go_ravelref06_SameInts_sc a0_3450.Quotas a1_3451.Quotas _ he3726) rfl) ?_
        refine SafeOps.quiet0 E_good rfl rfl rfl (v := V.bool x_3725) (.pickK rfl hc3706 rfl) ?_
        exact SafeOps.drop' 6 rfl rfl rfl (HJ3710 _ h)
      · skip
        refine SafeOps.skip (congrArg some hc3706) rfl rfl ?_
        refine SafeOps.skip (congrArg some hc3706) rfl rfl ?_
        refine SafeOps.skip (congrArg some hc3706) rfl rfl ?_
        refine SafeOps.skip (congrArg some hc3706) rfl rfl ?_
        refine SafeOps.skip (congrArg some hc3706) rfl rfl ?_
        refine SafeOps.quiet0 E_good rfl rfl rfl (v := V.bool false) (.pickK rfl hc3706 rfl) ?_
        exact SafeOps.drop' 6 rfl rfl rfl (HJ3710 _ h)
    · replace h : go_ravelref19_Same_j2 a0_3450 a1_3451 b_3709 = some r := h
      rw [go_ravelref19_Same_j2] at h
      refine SafeOps.quiet0 E_good rfl rfl rfl (v := V.bool b_3709) (.fn rfl) ?_
      refine SafeOps.bsplit 6 44 (fun b_3714 => go_ravelref19_Same_j3 a0_3450 a1_3451 b_3714 = some r) (fun HJ3715 => ?_) (fun b_3714 h => ?_)
      · refine ifG h (fun hc3711 h => ?_) (fun hc3711 h => ?_)
        · skip
          refine SafeOps.quiet0 E_good (congrArg some hc3711) rfl rfl (v := V.ptr [2] 0 5) (.fn rfl) ?_
          refine SafeOps.quiet0 E_good (congrArg some hc3711) rfl rfl (v := V.sl 1 (rws (fun l => [V.sl 3 (rws api_Instr.cells l)]) a0_3450.Progs)) (.load rfl rfl (.box rfl rfl) rfl) ?_
          refine SafeOps.quiet0 E_good (congrArg some hc3711) rfl rfl (v := V.ptr [3] 0 5) (.fn rfl) ?_
          refine SafeOps.quiet0 E_good (congrArg some hc3711) rfl rfl (v := V.sl 1 (rws (fun l => [V.sl 3 (rws api_Instr.cells l)]) a1_3451.Progs)) (.load rfl rfl (.box rfl rfl) rfl) ?_
          refine bindG h ?_
          intro x_3723 he3724 h
          refine SafeOps.quiet0 E_good (congrArg some hc3711) rfl rfl (v := V.bool x_3723) (.callP rfl rfl (go_ravelref04_Same_sc a0_3450.Progs a1_3451.Progs _ he3724) rfl) ?_
          refine SafeOps.quiet0 E_good rfl rfl rfl (v := V.bool x_3723) (.pickK rfl hc3711 rfl) ?_
          exact SafeOps.drop' 6 rfl rfl rfl (HJ3715 _ h)
        · skip
          refine SafeOps.skip (congrArg some hc3711) rfl rfl ?_
          refine SafeOps.skip (congrArg some hc3711) rfl rfl ?_
          refine SafeOps.skip (congrArg some hc3711) rfl rfl ?_
          refine SafeOps.skip (congrArg some hc3711) rfl rfl ?_
          refine SafeOps.skip (congrArg some hc3711) rfl rfl ?_
          refine SafeOps.quiet0 E_good rfl rfl rfl (v := V.bool false) (.pickK rfl hc3711 rfl) ?_
          exact SafeOps.drop' 6 rfl rfl rfl (HJ3715 _ h)
      · replace h : go_ravelref19_Same_j3 a0_3450 a1_3451 b_3714 = some r := h
        rw [go_ravelref19_Same_j3] at h
        refine SafeOps.quiet0 E_good rfl rfl rfl (v := V.bool b_3714) (.fn rfl) ?_
        refine SafeOps.bjoin 6 51 (b := (b_3714 && (a0_3450.Tasks == a1_3451.Tasks))) (b1 := (a0_3450.Tasks == a1_3451.Tasks)) (b0 := false) (fun hc3716 K => ?_) (fun hc3716 K => ?_) bj_and ?_
        · skip
          refine SafeOps.quiet0 E_good (congrArg some hc3716) rfl rfl (v := V.ptr [2] 0 6) (.fn rfl) ?_
          refine SafeOps.quiet0 E_good (congrArg some hc3716) rfl rfl (v := V.int .i64 a0_3450.Tasks) (.load rfl rfl (.box rfl rfl) rfl) ?_
          refine SafeOps.quiet0 E_good (congrArg some hc3716) rfl rfl (v := V.ptr [3] 0 6) (.fn rfl) ?_
          refine SafeOps.quiet0 E_good (congrArg some hc3716) rfl rfl (v := V.int .i64 a1_3451.Tasks) (.load rfl rfl (.box rfl rfl) rfl) ?_
          refine SafeOps.quiet0 E_good (congrArg some hc3716) rfl rfl (v := V.bool (a0_3450.Tasks == a1_3451.Tasks)) (.fn rfl) ?_
          refine SafeOps.quiet0 E_good rfl rfl rfl (v := V.bool (a0_3450.Tasks == a1_3451.Tasks)) (.pickK rfl hc3716 rfl) ?_
          exact SafeOps.drop' 6 rfl rfl rfl K
        · skip
          refine SafeOps.skip (congrArg some hc3716) rfl rfl ?_
          refine SafeOps.skip (congrArg some hc3716) rfl rfl ?_
          refine SafeOps.skip (congrArg some hc3716) rfl rfl ?_
          refine SafeOps.skip (congrArg some hc3716) rfl rfl ?_
          refine SafeOps.skip (congrArg some hc3716) rfl rfl ?_
          refine SafeOps.quiet0 E_good rfl rfl rfl (v := V.bool false) (.pickK rfl hc3716 rfl) ?_
          exact SafeOps.drop' 6 rfl rfl rfl K
        refine SafeOps.quiet0 E_good rfl rfl rfl (v := V.bool (b_3714 && (a0_3450.Tasks == a1_3451.Tasks))) (.fn rfl) ?_
        refine SafeOps.bjoin 6 58 (b := ((b_3714 && (a0_3450.Tasks == a1_3451.Tasks)) && (a0_3450.Fds == a1_3451.Fds))) (b1 := (a0_3450.Fds == a1_3451.Fds)) (b0 := false) (fun hc3717 K => ?_) (fun hc3717 K => ?_) bj_and ?_
        · skip
          refine SafeOps.quiet0 E_good (congrArg some hc3717) rfl rfl (v := V.ptr [2] 0 7) (.fn rfl) ?_
          refine SafeOps.quiet0 E_good (congrArg some hc3717) rfl rfl (v := V.int .i64 a0_3450.Fds) (.load rfl rfl (.box rfl rfl) rfl) ?_
          refine SafeOps.quiet0 E_good (congrArg some hc3717) rfl rfl (v := V.ptr [3] 0 7) (.fn rfl) ?_
          refine SafeOps.quiet0 E_good (congrArg some hc3717) rfl rfl (v := V.int .i64 a1_3451.Fds) (.load rfl rfl (.box rfl rfl) rfl) ?_
          refine SafeOps.quiet0 E_good (congrArg some hc3717) rfl rfl (v := V.bool (a0_3450.Fds == a1_3451.Fds)) (.fn rfl) ?_
          refine SafeOps.quiet0 E_good rfl rfl rfl (v := V.bool (a0_3450.Fds == a1_3451.Fds)) (.pickK rfl hc3717 rfl) ?_
          exact SafeOps.drop' 6 rfl rfl rfl K
        · skip
          refine SafeOps.skip (congrArg some hc3717) rfl rfl ?_
          refine SafeOps.skip (congrArg some hc3717) rfl rfl ?_
          refine SafeOps.skip (congrArg some hc3717) rfl rfl ?_
          refine SafeOps.skip (congrArg some hc3717) rfl rfl ?_
          refine SafeOps.skip (congrArg some hc3717) rfl rfl ?_
          refine SafeOps.quiet0 E_good rfl rfl rfl (v := V.bool false) (.pickK rfl hc3717 rfl) ?_
          exact SafeOps.drop' 6 rfl rfl rfl K
        refine SafeOps.quiet0 E_good rfl rfl rfl (v := V.bool ((b_3714 && (a0_3450.Tasks == a1_3451.Tasks)) && (a0_3450.Fds == a1_3451.Fds))) (.fn rfl) ?_
        refine ifG h (fun hc3718 h => ?_) (fun hc3718 h => ?_)
        · skip
          refine SafeOps.quiet0 E_good (congrArg some hc3718) rfl rfl (v := V.ptr [2] 0 8) (.fn rfl) ?_
          refine SafeOps.quiet0 E_good (congrArg some hc3718) rfl rfl (v := V.sl 1 (rws (fun n => [V.int .i64 n]) a0_3450.Sems)) (.load rfl rfl (.box rfl rfl) rfl) ?_
          refine SafeOps.quiet0 E_good (congrArg some hc3718) rfl rfl (v := V.ptr [3] 0 8) (.fn rfl) ?_
          refine SafeOps.quiet0 E_good (congrArg some hc3718) rfl rfl (v := V.sl 1 (rws (fun n => [V.int .i64 n]) a1_3451.Sems)) (.load rfl rfl (.box rfl rfl) rfl) ?_
          refine bindG h ?_
          intro x_3721 he3722 h
          refine SafeOps.quiet0 E_good (congrArg some hc3718) rfl rfl (v := V.bool x_3721) (.callP rfl rfl (go_ravelref06_SameInts_sc a0_3450.Sems a1_3451.Sems _ he3722) rfl) ?_
          refine SafeOps.quiet0 E_good rfl rfl rfl (v := V.bool x_3721) (.pickK rfl hc3718 rfl) ?_
          refine SafeOps.quiet0 E_good rfl rfl rfl (v := V.bool x_3721) (.fn rfl) ?_
          refine SafeOps.nil ?_
          repeat (first | refine Safe.seq ?_ | refine Safe.skip ?_ | with_reducible refine thenQ.n ?_ | with_reducible refine blockQ.n ?_)
          refine Safe.ret ?_
          repeat (first | with_reducible refine thenQ.r ?_ | with_reducible refine blockQ.r ?_)
          obtain rfl := Option.some.inj h
          exact retQ.gen (vs := [V.bool x_3721]) rfl (.tmp (v := V.bool x_3721) rfl .nil) (.free rfl) (by simp) (.inr rfl)
        · skip
          refine SafeOps.skip (congrArg some hc3718) rfl rfl ?_
          refine SafeOps.skip (congrArg some hc3718) rfl rfl ?_
          refine SafeOps.skip (congrArg some hc3718) rfl rfl ?_
          refine SafeOps.skip (congrArg some hc3718) rfl rfl ?_
          refine SafeOps.skip (congrArg some hc3718) rfl rfl ?_
          refine SafeOps.quiet0 E_good rfl rfl rfl (v := V.bool false) (.pickK rfl hc3718 rfl) ?_
          refine SafeOps.quiet0 E_good rfl rfl rfl (v := V.bool false) (.fn rfl) ?_
          refine SafeOps.nil ?_
          repeat (first | refine Safe.seq ?_ | refine Safe.skip ?_ | with_reducible refine thenQ.n ?_ | with_reducible refine blockQ.n ?_)
          refine Safe.ret ?_
          repeat (first | with_reducible refine thenQ.r ?_ | with_reducible refine blockQ.r ?_)
          obtain rfl := Option.some.inj h
          exact retQ.gen (vs := [V.bool false]) rfl (.tmp (v := V.bool false) rfl .nil) (.free rfl) (by simp) (.inr rfl)

noncomputable def go_ravellaw19_EntryConfigs (a0_1104 : api_Config) (a1_1105 : api_Config) : Option Bool :=
  (go_ravellaw19_live).bind fun x_3731 =>
  (go_ravelref19_FewConfig a0_1104).bind fun x_3733 =>
  if (!x_3733) = true then
    some x_3731
  else
    (go_ravelref19_FewConfig a1_1105).bind fun x_3738 =>
    if (!x_3738) = true then
      some x_3731
    else
      if x_3731 = true then
        (go_entry_Config a0_1104).bind fun x_3742 =>
        (go_ravelref19_Config a0_1104).bind fun x_3744 =>
        if (x_3742 == x_3744) = true then
          (go_entry_Same a0_1104 a1_1105).bind fun x_3747 =>
          (go_ravelref19_Same a0_1104 a1_1105).bind fun x_3749 =>
          some (x_3747 == x_3749)
        else
          some false
      else
        some false

theorem go_ravellaw19_EntryConfigs_sc (a0_1104 : api_Config) (a1_1105 : api_Config) (r : Bool) (h : go_ravellaw19_EntryConfigs a0_1104 a1_1105 = some r) : SC Try.prog gl 7 [V.agg [V.int .i64 a0_1104.Workers, V.int .i64 a0_1104.Cap, V.int .i64 a0_1104.Budget, V.sl 1 (rws (fun n => [V.int .i64 n]) a0_1104.Weights), V.sl 1 (rws (fun n => [V.int .i64 n]) a0_1104.Quotas), V.sl 1 (rws (fun l => [V.sl 3 (rws api_Instr.cells l)]) a0_1104.Progs), V.int .i64 a0_1104.Tasks, V.int .i64 a0_1104.Fds, V.sl 1 (rws (fun n => [V.int .i64 n]) a0_1104.Sems)], V.agg [V.int .i64 a1_1105.Workers, V.int .i64 a1_1105.Cap, V.int .i64 a1_1105.Budget, V.sl 1 (rws (fun n => [V.int .i64 n]) a1_1105.Weights), V.sl 1 (rws (fun n => [V.int .i64 n]) a1_1105.Quotas), V.sl 1 (rws (fun l => [V.sl 3 (rws api_Instr.cells l)]) a1_1105.Progs), V.int .i64 a1_1105.Tasks, V.int .i64 a1_1105.Fds, V.sl 1 (rws (fun n => [V.int .i64 n]) a1_1105.Sems)]] (V.bool r) := by
  rw [go_ravellaw19_EntryConfigs] at h
  refine SC.of E_good Try.func7 rfl (fun _ _ => Try.call7 _ _) rfl ?_
  repeat (first | refine Safe.seq ?_ | refine Safe.skip ?_ | with_reducible refine thenQ.n ?_ | with_reducible refine blockQ.n ?_)
  refine Safe.region ?_
  refine SafeOps.quiet1 E_good rfl rfl rfl (.box rfl rfl) rfl ?_
  refine SafeOps.quiet1 E_good rfl rfl rfl (.box rfl rfl) rfl ?_
  refine SafeOps.quiet0 E_good rfl rfl rfl (v := V.bool false) (.fn rfl) ?_
  refine SafeOps.nil ?_
  repeat (first | refine Safe.seq ?_ | refine Safe.skip ?_ | with_reducible refine thenQ.n ?_ | with_reducible refine blockQ.n ?_)
  refine Safe.region ?_
  refine bindG h ?_
  intro x_3731 he3732 h
  refine SafeOps.quiet0 E_good rfl rfl rfl (v := V.bool x_3731) (.callP rfl rfl (go_ravellaw19_live_sc  _ he3732) rfl) ?_
  refine SafeOps.quiet0 E_good rfl rfl rfl (v := V.bool x_3731) (.fn rfl) ?_
  refine SafeOps.nil ?_
  repeat (first | refine Safe.seq ?_ | refine Safe.skip ?_ | with_reducible refine thenQ.n ?_ | with_reducible refine blockQ.n ?_)
  refine Safe.region ?_
  refine SafeOps.quiet0 E_good rfl rfl rfl (v := V.agg [V.int .i64 a0_1104.Workers, V.int .i64 a0_1104.Cap, V.int .i64 a0_1104.Budget, V.sl 1 (rws (fun n => [V.int .i64 n]) a0_1104.Weights), V.sl 1 (rws (fun n => [V.int .i64 n]) a0_1104.Quotas), V.sl 1 (rws (fun l => [V.sl 3 (rws api_Instr.cells l)]) a0_1104.Progs), V.int .i64 a0_1104.Tasks, V.int .i64 a0_1104.Fds, V.sl 1 (rws (fun n => [V.int .i64 n]) a0_1104.Sems)]) (.load rfl rfl (.box rfl rfl) rfl) ?_
  refine bindG h ?_
  intro x_3733 he3734 h
  refine SafeOps.quiet0 E_good rfl rfl rfl (v := V.bool x_3733) (.callP rfl rfl (go_ravelref19_FewConfig_sc a0_1104 _ he3734) rfl) ?_
  refine SafeOps.quiet0 E_good rfl rfl rfl (v := V.bool (!x_3733)) (.fn rfl) ?_
  refine SafeOps.quiet0 E_good rfl rfl rfl (v := V.bool (!x_3733)) (.fn rfl) ?_
  refine ifG h (fun hc3735 h => ?_) (fun hc3735 h => ?_)
  · skip
    refine SafeOps.skip (congrArg (fun b => some (!b)) hc3735) rfl rfl ?_
    refine SafeOps.skip (congrArg (fun b => some (!b)) hc3735) rfl rfl ?_
    refine SafeOps.skip (congrArg (fun b => some (!b)) hc3735) rfl rfl ?_
    refine SafeOps.quiet0 E_good rfl rfl rfl (v := V.bool true) (.pickK rfl hc3735 rfl) ?_
    refine SafeOps.nil ?_
    repeat (first | refine Safe.seq ?_ | refine Safe.skip ?_ | with_reducible refine thenQ.n ?_ | with_reducible refine blockQ.n ?_)
    refine Safe.condK rfl rfl ?_
    repeat (first | refine Safe.seq ?_ | refine Safe.skip ?_ | with_reducible refine thenQ.n ?_ | with_reducible refine blockQ.n ?_)
    refine Safe.region ?_
    refine SafeOps.quiet0 E_good rfl rfl rfl (v := V.bool x_3731) (.fn rfl) ?_
    refine SafeOps.quiet0 E_good rfl rfl rfl (v := V.bool x_3731) (.fn rfl) ?_
    refine SafeOps.nil ?_
    repeat (first | refine Safe.seq ?_ | refine Safe.skip ?_ | with_reducible refine thenQ.n ?_ | with_reducible refine blockQ.n ?_)
    refine Safe.ret ?_
    repeat (first | with_reducible refine thenQ.r ?_ | with_reducible refine blockQ.r ?_)
    obtain rfl := Option.some.inj h
    exact retQ.gen (vs := [V.bool x_3731]) rfl (.tmp (v := V.bool x_3731) rfl .nil) (.free rfl) (by simp) (.inr rfl)
  · skip
    refine SafeOps.quiet0 E_good (congrArg (fun b => some (!b)) hc3735) rfl rfl (v := V.agg [V.int .i64 a1_1105.Workers, V.int .i64 a1_1105.Cap, V.int .i64 a1_1105.Budget, V.sl 1 (rws (fun n => [V.int .i64 n]) a1_1105.Weights), V.sl 1 (rws (fun n => [V.int .i64 n]) a1_1105.Quotas), V.sl 1 (rws (fun l => [V.sl 3 (rws api_Instr.cells l)]) a1_1105.Progs), V.int .i64 a1_1105.Tasks, V.int .i64 a1_1105.Fds, V.sl 1 (rws (fun n => [V.int .i64 n]) a1_1105.Sems)]) (.load rfl rfl (.box rfl rfl) rfl) ?_
    refine bindG h ?_
    intro x_3738 he3739 h
    refine SafeOps.quiet0 E_good (congrArg (fun b => some (!b)) hc3735) rfl rfl (v := V.bool x_3738) (.callP rfl rfl (go_ravelref19_FewConfig_sc a1_1105 _ he3739) rfl) ?_
    refine SafeOps.quiet0 E_good (congrArg (fun b => some (!b)) hc3735) rfl rfl (v := V.bool (!x_3738)) (.fn rfl) ?_
    refine SafeOps.quiet0 E_good rfl rfl rfl (v := V.bool (!x_3738)) (.pickK rfl hc3735 rfl) ?_
    refine SafeOps.nil ?_
    repeat (first | refine Safe.seq ?_ | refine Safe.skip ?_ | with_reducible refine thenQ.n ?_ | with_reducible refine blockQ.n ?_)
    refine ifG h (fun hc3740 h => ?_) (fun hc3740 h => ?_)
    · skip
      refine Safe.condK rfl hc3740 ?_
      repeat (first | refine Safe.seq ?_ | refine Safe.skip ?_ | with_reducible refine thenQ.n ?_ | with_reducible refine blockQ.n ?_)
      refine Safe.region ?_
      refine SafeOps.quiet0 E_good rfl rfl rfl (v := V.bool x_3731) (.fn rfl) ?_
      refine SafeOps.quiet0 E_good rfl rfl rfl (v := V.bool x_3731) (.fn rfl) ?_
      refine SafeOps.nil ?_
      repeat (first | refine Safe.seq ?_ | refine Safe.skip ?_ | with_reducible refine thenQ.n ?_ | with_reducible refine blockQ.n ?_)
      refine Safe.ret ?_
      repeat (first | with_reducible refine thenQ.r ?_ | with_reducible refine blockQ.r ?_)
      obtain rfl := Option.some.inj h
      exact retQ.gen (vs := [V.bool x_3731]) rfl (.tmp (v := V.bool x_3731) rfl .nil) (.free rfl) (by simp) (.inr rfl)
    · skip
      refine Safe.condN rfl hc3740 ?_
      repeat (first | refine Safe.seq ?_ | refine Safe.skip ?_ | with_reducible refine thenQ.n ?_ | with_reducible refine blockQ.n ?_)
      refine Safe.regionD (n := 18) [] [] E_good mixed rfl ?_
      refine DAny.take (i := 0) rfl (by kernel_rfl) [] (by kernel_rfl) (by kernel_rfl) (by kernel_rfl) rfl rfl rfl (v := V.bool x_3731) (fun _ hz => (.fn rfl)) ?_
      refine DAny.take (i := 1) rfl (by kernel_rfl) [] (by kernel_rfl) (by kernel_rfl) (by kernel_rfl) rfl rfl rfl (v := V.bool x_3731) (fun _ hz => (.fn rfl)) ?_
      refine ifG h (fun hc3741 h => ?_) (fun hc3741 h => ?_)
      · skip
        refine DAny.take (i := 2) rfl (by kernel_rfl) [] (by kernel_rfl) (by kernel_rfl) (by kernel_rfl) (congrArg some hc3741) rfl rfl (v := V.agg [V.int .i64 a0_1104.Workers, V.int .i64 a0_1104.Cap, V.int .i64 a0_1104.Budget, V.sl 1 (rws (fun n => [V.int .i64 n]) a0_1104.Weights), V.sl 1 (rws (fun n => [V.int .i64 n]) a0_1104.Quotas), V.sl 1 (rws (fun l => [V.sl 3 (rws api_Instr.cells l)]) a0_1104.Progs), V.int .i64 a0_1104.Tasks, V.int .i64 a0_1104.Fds, V.sl 1 (rws (fun n => [V.int .i64 n]) a0_1104.Sems)]) (fun _ hz => (.load rfl rfl (.box (hz _ _ rfl rfl) rfl) rfl)) ?_
        refine bindG h ?_
        intro x_3742 he3743 h
        refine DAny.take (i := 3) rfl (by kernel_rfl) [] (by kernel_rfl) (by kernel_rfl) (by kernel_rfl) (congrArg some hc3741) rfl rfl (v := V.int .i64 x_3742) (fun _ hz => (.callP rfl rfl (go_entry_Config_sc a0_1104 _ he3743) rfl)) ?_
        refine DAny.take (i := 4) rfl (by kernel_rfl) [] (by kernel_rfl) (by kernel_rfl) (by kernel_rfl) (congrArg some hc3741) rfl rfl (v := V.agg [V.int .i64 a0_1104.Workers, V.int .i64 a0_1104.Cap, V.int .i64 a0_1104.Budget, V.sl 1 (rws (fun n => [V.int .i64 n]) a0_1104.Weights), V.sl 1 (rws (fun n => [V.int .i64 n]) a0_1104.Quotas), V.sl 1 (rws (fun l => [V.sl 3 (rws api_Instr.cells l)]) a0_1104.Progs), V.int .i64 a0_1104.Tasks, V.int .i64 a0_1104.Fds, V.sl 1 (rws (fun n => [V.int .i64 n]) a0_1104.Sems)]) (fun _ hz => (.load rfl rfl (.box (hz _ _ rfl rfl) rfl) rfl)) ?_
        refine bindG h ?_
        intro x_3744 he3745 h
        refine DAny.take (i := 5) rfl (by kernel_rfl) [] (by kernel_rfl) (by kernel_rfl) (by kernel_rfl) (congrArg some hc3741) rfl rfl (v := V.int .i64 x_3744) (fun _ hz => (.callP rfl rfl (go_ravelref19_Config_sc a0_1104 _ he3745) rfl)) ?_
        refine DAny.take (i := 6) rfl (by kernel_rfl) [] (by kernel_rfl) (by kernel_rfl) (by kernel_rfl) (congrArg some hc3741) rfl rfl (v := V.bool (x_3742 == x_3744)) (fun _ hz => (.fn rfl)) ?_
        refine DAny.take (i := 7) rfl (by kernel_rfl) [] (by kernel_rfl) (by kernel_rfl) (by kernel_rfl) rfl rfl rfl (v := V.bool (x_3742 == x_3744)) (fun _ hz => (.pickK rfl hc3741 rfl)) ?_
        refine DAny.take (i := 8) rfl (by kernel_rfl) [] (by kernel_rfl) (by kernel_rfl) (by kernel_rfl) rfl rfl rfl (v := V.bool (x_3742 == x_3744)) (fun _ hz => (.fn rfl)) ?_
        refine ifG h (fun hc3746 h => ?_) (fun hc3746 h => ?_)
        · skip
          refine DAny.take (i := 9) rfl (by kernel_rfl) [] (by kernel_rfl) (by kernel_rfl) (by kernel_rfl) (congrArg some hc3746) rfl rfl (v := V.agg [V.int .i64 a0_1104.Workers, V.int .i64 a0_1104.Cap, V.int .i64 a0_1104.Budget, V.sl 1 (rws (fun n => [V.int .i64 n]) a0_1104.Weights), V.sl 1 (rws (fun n => [V.int .i64 n]) a0_1104.Quotas), V.sl 1 (rws (fun l => [V.sl 3 (rws api_Instr.cells l)]) a0_1104.Progs), V.int .i64 a0_1104.Tasks, V.int .i64 a0_1104.Fds, V.sl 1 (rws (fun n => [V.int .i64 n]) a0_1104.Sems)]) (fun _ hz => (.load rfl rfl (.box (hz _ _ rfl rfl) rfl) rfl)) ?_
          refine DAny.take (i := 10) rfl (by kernel_rfl) [] (by kernel_rfl) (by kernel_rfl) (by kernel_rfl) (congrArg some hc3746) rfl rfl (v := V.agg [V.int .i64 a1_1105.Workers, V.int .i64 a1_1105.Cap, V.int .i64 a1_1105.Budget, V.sl 1 (rws (fun n => [V.int .i64 n]) a1_1105.Weights), V.sl 1 (rws (fun n => [V.int .i64 n]) a1_1105.Quotas), V.sl 1 (rws (fun l => [V.sl 3 (rws api_Instr.cells l)]) a1_1105.Progs), V.int .i64 a1_1105.Tasks, V.int .i64 a1_1105.Fds, V.sl 1 (rws (fun n => [V.int .i64 n]) a1_1105.Sems)]) (fun _ hz => (.load rfl rfl (.box (hz _ _ rfl rfl) rfl) rfl)) ?_
          refine bindG h ?_
          intro x_3747 he3748 h
          refine DAny.take (i := 11) rfl (by kernel_rfl) [] (by kernel_rfl) (by kernel_rfl) (by kernel_rfl) (congrArg some hc3746) rfl rfl (v := V.bool x_3747) (fun _ hz => (.callP rfl rfl (go_entry_Same_sc a0_1104 a1_1105 _ he3748) rfl)) ?_
          refine DAny.take (i := 12) rfl (by kernel_rfl) [] (by kernel_rfl) (by kernel_rfl) (by kernel_rfl) (congrArg some hc3746) rfl rfl (v := V.agg [V.int .i64 a0_1104.Workers, V.int .i64 a0_1104.Cap, V.int .i64 a0_1104.Budget, V.sl 1 (rws (fun n => [V.int .i64 n]) a0_1104.Weights), V.sl 1 (rws (fun n => [V.int .i64 n]) a0_1104.Quotas), V.sl 1 (rws (fun l => [V.sl 3 (rws api_Instr.cells l)]) a0_1104.Progs), V.int .i64 a0_1104.Tasks, V.int .i64 a0_1104.Fds, V.sl 1 (rws (fun n => [V.int .i64 n]) a0_1104.Sems)]) (fun _ hz => (.load rfl rfl (.box (hz _ _ rfl rfl) rfl) rfl)) ?_
          refine DAny.take (i := 13) rfl (by kernel_rfl) [] (by kernel_rfl) (by kernel_rfl) (by kernel_rfl) (congrArg some hc3746) rfl rfl (v := V.agg [V.int .i64 a1_1105.Workers, V.int .i64 a1_1105.Cap, V.int .i64 a1_1105.Budget, V.sl 1 (rws (fun n => [V.int .i64 n]) a1_1105.Weights), V.sl 1 (rws (fun n => [V.int .i64 n]) a1_1105.Quotas), V.sl 1 (rws (fun l => [V.sl 3 (rws api_Instr.cells l)]) a1_1105.Progs), V.int .i64 a1_1105.Tasks, V.int .i64 a1_1105.Fds, V.sl 1 (rws (fun n => [V.int .i64 n]) a1_1105.Sems)]) (fun _ hz => (.load rfl rfl (.box (hz _ _ rfl rfl) rfl) rfl)) ?_
          refine bindG h ?_
          intro x_3749 he3750 h
          refine DAny.take (i := 14) rfl (by kernel_rfl) [] (by kernel_rfl) (by kernel_rfl) (by kernel_rfl) (congrArg some hc3746) rfl rfl (v := V.bool x_3749) (fun _ hz => (.callP rfl rfl (go_ravelref19_Same_sc a0_1104 a1_1105 _ he3750) rfl)) ?_
          refine DAny.take (i := 15) rfl (by kernel_rfl) [] (by kernel_rfl) (by kernel_rfl) (by kernel_rfl) (congrArg some hc3746) rfl rfl (v := V.bool (x_3747 == x_3749)) (fun _ hz => (.fn rfl)) ?_
          refine DAny.take (i := 16) rfl (by kernel_rfl) [] (by kernel_rfl) (by kernel_rfl) (by kernel_rfl) rfl rfl rfl (v := V.bool (x_3747 == x_3749)) (fun _ hz => (.pickK rfl hc3746 rfl)) ?_
          refine DAny.take (i := 17) rfl (by kernel_rfl) [] (by kernel_rfl) (by kernel_rfl) (by kernel_rfl) rfl rfl rfl (v := V.bool (x_3747 == x_3749)) (fun _ hz => (.fn rfl)) ?_
          refine DAny.nil (by kernel_rfl) ?_
          repeat (first | refine Safe.seq ?_ | refine Safe.skip ?_ | with_reducible refine thenQ.n ?_ | with_reducible refine blockQ.n ?_)
          refine Safe.ret ?_
          repeat (first | with_reducible refine thenQ.r ?_ | with_reducible refine blockQ.r ?_)
          obtain rfl := Option.some.inj h
          exact retQ.gen (vs := [V.bool (x_3747 == x_3749)]) rfl (.tmp (v := V.bool (x_3747 == x_3749)) rfl .nil) (.free rfl) (by simp) (.inr rfl)
        · skip
          refine DAny.takeSkip (i := 9) rfl (by kernel_rfl) [] (by kernel_rfl) (by kernel_rfl) (by kernel_rfl) (congrArg some hc3746) rfl rfl ?_
          refine DAny.takeSkip (i := 10) rfl (by kernel_rfl) [] (by kernel_rfl) (by kernel_rfl) (by kernel_rfl) (congrArg some hc3746) rfl rfl ?_
          refine DAny.takeSkip (i := 11) rfl (by kernel_rfl) [] (by kernel_rfl) (by kernel_rfl) (by kernel_rfl) (congrArg some hc3746) rfl rfl ?_
          refine DAny.takeSkip (i := 12) rfl (by kernel_rfl) [] (by kernel_rfl) (by kernel_rfl) (by kernel_rfl) (congrArg some hc3746) rfl rfl ?_
          refine DAny.takeSkip (i := 13) rfl (by kernel_rfl) [] (by kernel_rfl) (by kernel_rfl) (by kernel_rfl) (congrArg some hc3746) rfl rfl ?_
          refine DAny.takeSkip (i := 14) rfl (by kernel_rfl) [] (by kernel_rfl) (by kernel_rfl) (by kernel_rfl) (congrArg some hc3746) rfl rfl ?_
          refine DAny.takeSkip (i := 15) rfl (by kernel_rfl) [] (by kernel_rfl) (by kernel_rfl) (by kernel_rfl) (congrArg some hc3746) rfl rfl ?_
          refine DAny.take (i := 16) rfl (by kernel_rfl) [] (by kernel_rfl) (by kernel_rfl) (by kernel_rfl) rfl rfl rfl (v := V.bool false) (fun _ hz => (.pickK rfl hc3746 rfl)) ?_
          refine DAny.take (i := 17) rfl (by kernel_rfl) [] (by kernel_rfl) (by kernel_rfl) (by kernel_rfl) rfl rfl rfl (v := V.bool false) (fun _ hz => (.fn rfl)) ?_
          refine DAny.nil (by kernel_rfl) ?_
          repeat (first | refine Safe.seq ?_ | refine Safe.skip ?_ | with_reducible refine thenQ.n ?_ | with_reducible refine blockQ.n ?_)
          refine Safe.ret ?_
          repeat (first | with_reducible refine thenQ.r ?_ | with_reducible refine blockQ.r ?_)
          obtain rfl := Option.some.inj h
          exact retQ.gen (vs := [V.bool false]) rfl (.tmp (v := V.bool false) rfl .nil) (.free rfl) (by simp) (.inr rfl)
      · skip
        refine DAny.takeSkip (i := 2) rfl (by kernel_rfl) [] (by kernel_rfl) (by kernel_rfl) (by kernel_rfl) (congrArg some hc3741) rfl rfl ?_
        refine DAny.takeSkip (i := 3) rfl (by kernel_rfl) [] (by kernel_rfl) (by kernel_rfl) (by kernel_rfl) (congrArg some hc3741) rfl rfl ?_
        refine DAny.takeSkip (i := 4) rfl (by kernel_rfl) [] (by kernel_rfl) (by kernel_rfl) (by kernel_rfl) (congrArg some hc3741) rfl rfl ?_
        refine DAny.takeSkip (i := 5) rfl (by kernel_rfl) [] (by kernel_rfl) (by kernel_rfl) (by kernel_rfl) (congrArg some hc3741) rfl rfl ?_
        refine DAny.takeSkip (i := 6) rfl (by kernel_rfl) [] (by kernel_rfl) (by kernel_rfl) (by kernel_rfl) (congrArg some hc3741) rfl rfl ?_
        refine DAny.take (i := 7) rfl (by kernel_rfl) [] (by kernel_rfl) (by kernel_rfl) (by kernel_rfl) rfl rfl rfl (v := V.bool false) (fun _ hz => (.pickK rfl hc3741 rfl)) ?_
        refine DAny.take (i := 8) rfl (by kernel_rfl) [] (by kernel_rfl) (by kernel_rfl) (by kernel_rfl) rfl rfl rfl (v := V.bool false) (fun _ hz => (.fn rfl)) ?_
        refine DAny.takeSkip (i := 9) rfl (by kernel_rfl) [] (by kernel_rfl) (by kernel_rfl) (by kernel_rfl) rfl rfl rfl ?_
        refine DAny.takeSkip (i := 10) rfl (by kernel_rfl) [] (by kernel_rfl) (by kernel_rfl) (by kernel_rfl) rfl rfl rfl ?_
        refine DAny.takeSkip (i := 11) rfl (by kernel_rfl) [] (by kernel_rfl) (by kernel_rfl) (by kernel_rfl) rfl rfl rfl ?_
        refine DAny.takeSkip (i := 12) rfl (by kernel_rfl) [] (by kernel_rfl) (by kernel_rfl) (by kernel_rfl) rfl rfl rfl ?_
        refine DAny.takeSkip (i := 13) rfl (by kernel_rfl) [] (by kernel_rfl) (by kernel_rfl) (by kernel_rfl) rfl rfl rfl ?_
        refine DAny.takeSkip (i := 14) rfl (by kernel_rfl) [] (by kernel_rfl) (by kernel_rfl) (by kernel_rfl) rfl rfl rfl ?_
        refine DAny.takeSkip (i := 15) rfl (by kernel_rfl) [] (by kernel_rfl) (by kernel_rfl) (by kernel_rfl) rfl rfl rfl ?_
        refine DAny.take (i := 16) rfl (by kernel_rfl) [] (by kernel_rfl) (by kernel_rfl) (by kernel_rfl) rfl rfl rfl (v := V.bool false) (fun _ hz => (.pickK rfl rfl rfl)) ?_
        refine DAny.take (i := 17) rfl (by kernel_rfl) [] (by kernel_rfl) (by kernel_rfl) (by kernel_rfl) rfl rfl rfl (v := V.bool false) (fun _ hz => (.fn rfl)) ?_
        refine DAny.nil (by kernel_rfl) ?_
        repeat (first | refine Safe.seq ?_ | refine Safe.skip ?_ | with_reducible refine thenQ.n ?_ | with_reducible refine blockQ.n ?_)
        refine Safe.ret ?_
        repeat (first | with_reducible refine thenQ.r ?_ | with_reducible refine blockQ.r ?_)
        obtain rfl := Option.some.inj h
        exact retQ.gen (vs := [V.bool false]) rfl (.tmp (v := V.bool false) rfl .nil) (.free rfl) (by simp) (.inr rfl)
end Go.Proofs.Ythhpnmfcmgdghaa
