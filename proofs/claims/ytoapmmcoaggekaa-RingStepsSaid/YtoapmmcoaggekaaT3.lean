/- Helper lemmas for the claim's theorem: an abstract machine over the model, proved sound; no condition beyond each lemma's own. -/
import Derived.Test.YtoapmmcoaggekaaT2
set_option linter.unusedVariables false
set_option linter.unusedSimpArgs false
set_option linter.unnecessarySimpa false
set_option linter.unusedSectionVars false
namespace Go.Proofs.Ytoapmmcoaggekaa
open Go Go.AM
set_option maxRecDepth 100000
set_option maxHeartbeats 1000000
set_option linter.unusedVariables false
set_option linter.unusedSimpArgs false
variable {gl : List (Nat × List V)}
noncomputable def go_ravelref07_push (a0_2499 : List Int) (a1_2500 : api_Deque) (a2_2501 : api_Hand) : Option ((List Int) × api_Hand × Bool) :=
 if (a2_2501.Pc == 0) = true then
  if 0 ≤ a1_2500.Base ∧ a1_2500.Base < (a0_2499.length : Int) then
   letO (go_ravelref07_at (api_Hand.mk a2_2501.Kind a2_2501.Pc a2_2501.V (gt a0_2499 a1_2500.Base) a2_2501.B a2_2501.Won a2_2501.State) 1) fun x_2583 =>
   some (a0_2499, x_2583, go_ravelref07_count (gt a0_2499 a1_2500.Base) 0)
  else none
 else
  if (a2_2501.Pc == 1) = true then
   if 0 ≤ (IntKind.i64.wrap (a1_2500.Base + 1)) ∧ (IntKind.i64.wrap (a1_2500.Base + 1)) < (a0_2499.length : Int) then
    if (decide ((IntKind.i64.wrap ((gt a0_2499 (IntKind.i64.wrap (a1_2500.Base + 1))) - a2_2501.T)) ≥ a1_2500.Cap)) = true then
     letO (go_ravelref07_ended (api_Hand.mk a2_2501.Kind a2_2501.Pc a2_2501.V a2_2501.T (gt a0_2499 (IntKind.i64.wrap (a1_2500.Base + 1))) a2_2501.Won a2_2501.State) 3) fun x_2598 =>
     some (a0_2499, x_2598, go_ravelref07_count (gt a0_2499 (IntKind.i64.wrap (a1_2500.Base + 1))) 0)
    else
     letO (go_ravelref07_at (api_Hand.mk a2_2501.Kind a2_2501.Pc a2_2501.V a2_2501.T (gt a0_2499 (IntKind.i64.wrap (a1_2500.Base + 1))) a2_2501.Won a2_2501.State) 2) fun x_2600 =>
     some (a0_2499, x_2600, go_ravelref07_count (gt a0_2499 (IntKind.i64.wrap (a1_2500.Base + 1))) 0)
   else none
  else
   if (decide (a2_2501.B < 0)) = true then
    some ([], a2_2501, false)
   else
    if (a2_2501.Pc == 2) = true then
     (go_ravelref07_slot a1_2500 a2_2501.B).bind fun x_2610 =>
     (go_ravelref01_With a0_2499 x_2610 a2_2501.V).bind fun x_2612 =>
     letO (go_ravelref07_at a2_2501 3) fun x_2614 =>
     some (x_2612, x_2614, true)
    else
     (go_ravelref01_With a0_2499 (IntKind.i64.wrap (a1_2500.Base + 1)) (IntKind.i64.wrap (a2_2501.B + 1))).bind fun x_2616 =>
     letO (go_ravelref07_ended a2_2501 1) fun x_2618 =>
     some (x_2616, x_2618, true)

theorem go_ravelref07_push_sc (a0_2499 : List Int) (a1_2500 : api_Deque) (a2_2501 : api_Hand) (r : (List Int) × api_Hand × Bool) (h : go_ravelref07_push a0_2499 a1_2500 a2_2501 = some r) : SC Try.prog gl 24 [V.sl 1 (rws (fun n => [V.int .i64 n]) a0_2499), V.agg [V.int .i64 a1_2500.Base, V.int .i64 a1_2500.Cap], V.agg [V.int .i64 a2_2501.Kind, V.int .i64 a2_2501.Pc, V.int .i64 a2_2501.V, V.int .i64 a2_2501.T, V.int .i64 a2_2501.B, V.bool a2_2501.Won, V.int .i64 a2_2501.State]] (V.tup [V.sl 1 (rws (fun n => [V.int .i64 n]) r.1), V.agg [V.int .i64 r.2.1.Kind, V.int .i64 r.2.1.Pc, V.int .i64 r.2.1.V, V.int .i64 r.2.1.T, V.int .i64 r.2.1.B, V.bool r.2.1.Won, V.int .i64 r.2.1.State], V.bool r.2.2]) := by
 rw [go_ravelref07_push] at h
 refine SC.of E_good Try.func24 rfl (fun _ _ => Try.call24 _ _) rfl ?_
 repeat (first | refine sq ?_ | refine sk ?_ | with_reducible first | refine tn ?_ | refine bn ?_)
 refine Safe.region ?_
 refine SafeOps.quiet1 E_good rfl rfl rfl (.box rfl rfl) rfl ?_
 refine SafeOps.quiet1 E_good rfl rfl rfl (.box rfl rfl) rfl ?_
 refine Qf E_good ?_
 refine SafeOps.quiet1 E_good rfl rfl rfl (.alloc rfl rfl) rfl ?_
 refine Qf E_good ?_
 refine SafeOps.nil ?_
 repeat (first | refine sq ?_ | refine sk ?_ | with_reducible first | refine tn ?_ | refine bn ?_)
 refine Safe.region ?_
 refine Q0 E_good rfl (v := V.ptr [5] 0 1) (.fn rfl) ?_
 refine Q0 E_good rfl (v := V.int .i64 a2_2501.Pc) (.load rfl rfl (.box rfl rfl) rfl) ?_
 refine Q0 E_good rfl (v := V.bool (a2_2501.Pc == 0)) (.fn rfl) ?_
 refine SafeOps.nil ?_
 repeat (first | refine sq ?_ | refine sk ?_ | with_reducible first | refine tn ?_ | refine bn ?_)
 refine ifG h (fun hc2581 h => ?_) (fun hc2581 h => ?_)
 ·skip
  refine Safe.condK rfl hc2581 ?_
  repeat (first | refine sq ?_ | refine sk ?_ | with_reducible first | refine tn ?_ | refine bn ?_)
  refine Safe.region ?_
  refine Qf E_good ?_
  refine Q0 E_good rfl (v := V.ptr [4] 0 0) (.fn rfl) ?_
  refine Q0 E_good rfl (v := V.int .i64 a1_2500.Base) (.load rfl rfl (.box rfl rfl) rfl) ?_
  refine okG h (fun hb2582 h => ?_)
  refine Q0 E_good rfl (v := V.spt 1 (rws (fun n => [V.int .i64 n]) a0_2499) (Int.toNat a1_2500.Base) 0) (.idxSlM (f := (fun n => [V.int .i64 n])) rfl rfl rfl rfl rfl hb2582) ?_
  refine Q0 E_good rfl (v := V.int .i64 (gt a0_2499 a1_2500.Base)) (.load rfl rfl (.sptM (f := (fun n => [V.int .i64 n])) hb2582 rfl) rfl) ?_
  refine Q0 E_good rfl (v := V.ptr [5] 0 3) (.fn rfl) ?_
  refine SafeOps.store (z := Obj.box [V.int .i64 a2_2501.Kind, V.int .i64 a2_2501.Pc, V.int .i64 a2_2501.V, V.int .i64 (gt a0_2499 a1_2500.Base), V.int .i64 a2_2501.B, V.bool a2_2501.Won, V.int .i64 a2_2501.State]) E_good rfl rfl rfl rfl rfl rfl rfl (.boxM (c := 7) rfl rfl (Nat.le_of_ble_eq_true rfl) rfl) ?_
  refine SafeOps.nil ?_
  repeat (first | refine sq ?_ | refine sk ?_ | with_reducible first | refine tn ?_ | refine bn ?_)
  refine Safe.regionD (n := 9) [(7, [7])] [] E_good mixed rfl ?_
  refine DT 0 [[7]] rfl rfl (fun _ hz => (.fn rfl)) ?_
  refine DT 1 [[7]] rfl rfl (v := V.agg [V.int .i64 a2_2501.Kind, V.int .i64 a2_2501.Pc, V.int .i64 a2_2501.V, V.int .i64 (gt a0_2499 a1_2500.Base), V.int .i64 a2_2501.B, V.bool a2_2501.Won, V.int .i64 a2_2501.State]) (fun _ hz => (.load rfl rfl (.box (hz _ _ rfl rfl) rfl) rfl)) ?_
  refine letG h ?_
  intro x_2583 he2584 h
  refine DT 2 [[7]] rfl rfl (v := V.agg [V.int .i64 x_2583.Kind, V.int .i64 x_2583.Pc, V.int .i64 x_2583.V, V.int .i64 x_2583.T, V.int .i64 x_2583.B, V.bool x_2583.Won, V.int .i64 x_2583.State]) (fun _ hz => (.callP rfl rfl (go_ravelref07_at_sc (api_Hand.mk a2_2501.Kind a2_2501.Pc a2_2501.V (gt a0_2499 a1_2500.Base) a2_2501.B a2_2501.Won a2_2501.State) 1 _ he2584) rfl)) ?_
  refine DT 3 [[7]] rfl rfl (v := V.ptr [5] 0 3) (fun _ hz => (.fn rfl)) ?_
  refine DT 4 [[7]] rfl rfl (v := V.int .i64 (gt a0_2499 a1_2500.Base)) (fun _ hz => (.load rfl rfl (.box (hz _ _ rfl rfl) rfl) rfl)) ?_
  refine DT 5 [[7]] rfl rfl (v := V.bool (go_ravelref07_count (gt a0_2499 a1_2500.Base) 0)) (fun _ hz => (.callP rfl rfl (go_ravelref07_count_sc (gt a0_2499 a1_2500.Base) 0 _ rfl) rfl)) ?_
  refine DT 6 [[7]] rfl rfl (fun _ hz => (.fn rfl)) ?_
  refine DAny.only (i := 7) rfl (by kernel_rfl) (.store (z := Obj.box [V.int .i64 x_2583.Kind, V.int .i64 x_2583.Pc, V.int .i64 x_2583.V, V.int .i64 x_2583.T, V.int .i64 x_2583.B, V.bool x_2583.Won, V.int .i64 x_2583.State]) rfl rfl rfl rfl rfl rfl rfl (.boxM (c := 7) rfl rfl (Nat.le_of_ble_eq_true rfl) rfl) rfl ?_)
  refine DT 8 [[7]] rfl rfl (fun _ hz => (.fn rfl)) ?_
  refine DAny.nil (by kernel_rfl) ?_
  repeat (first | refine sq ?_ | refine sk ?_ | with_reducible first | refine tn ?_ | refine bn ?_)
  refine Safe.ret ?_
  repeat (first | with_reducible refine thenQ.r ?_ | with_reducible refine blockQ.r ?_)
  obtain rfl := Option.some.inj h
  exact retQ.gen (vs := [V.sl 1 (rws (fun n => [V.int .i64 n]) a0_2499), V.agg [V.int .i64 x_2583.Kind, V.int .i64 x_2583.Pc, V.int .i64 x_2583.V, V.int .i64 x_2583.T, V.int .i64 x_2583.B, V.bool x_2583.Won, V.int .i64 x_2583.State], V.bool (go_ravelref07_count (gt a0_2499 a1_2500.Base) 0)]) rfl (.tmp (v := V.sl 1 (rws (fun n => [V.int .i64 n]) a0_2499)) rfl (.cell (v := V.agg [V.int .i64 x_2583.Kind, V.int .i64 x_2583.Pc, V.int .i64 x_2583.V, V.int .i64 x_2583.T, V.int .i64 x_2583.B, V.bool x_2583.Won, V.int .i64 x_2583.State]) rfl rfl (.box rfl rfl) rfl (.tmp (v := V.bool (go_ravelref07_count (gt a0_2499 a1_2500.Base) 0)) rfl .nil))) (.free rfl) (by simp) (.inr rfl)
 ·skip
  refine Safe.condN rfl hc2581 ?_
  repeat (first | refine sq ?_ | refine sk ?_ | with_reducible first | refine tn ?_ | refine bn ?_)
  refine Safe.region ?_
  refine Q0 E_good rfl (v := V.ptr [5] 0 1) (.fn rfl) ?_
  refine Q0 E_good rfl (v := V.int .i64 a2_2501.Pc) (.load rfl rfl (.box rfl rfl) rfl) ?_
  refine Q0 E_good rfl (v := V.bool (a2_2501.Pc == 1)) (.fn rfl) ?_
  refine SafeOps.nil ?_
  repeat (first | refine sq ?_ | refine sk ?_ | with_reducible first | refine tn ?_ | refine bn ?_)
  refine ifG h (fun hc2593 h => ?_) (fun hc2593 h => ?_)
  ·skip
   refine Safe.condK rfl hc2593 ?_
   repeat (first | refine sq ?_ | refine sk ?_ | with_reducible first | refine tn ?_ | refine bn ?_)
   refine Safe.region ?_
   refine Qf E_good ?_
   refine Q0 E_good rfl (v := V.ptr [4] 0 0) (.fn rfl) ?_
   refine Q0 E_good rfl (v := V.int .i64 a1_2500.Base) (.load rfl rfl (.box rfl rfl) rfl) ?_
   refine Q0 E_good rfl (v := V.int .i64 (IntKind.i64.wrap (a1_2500.Base + 1))) (.fn rfl) ?_
   refine okG h (fun hb2594 h => ?_)
   refine Q0 E_good rfl (v := V.spt 1 (rws (fun n => [V.int .i64 n]) a0_2499) (Int.toNat (IntKind.i64.wrap (a1_2500.Base + 1))) 0) (.idxSlM (f := (fun n => [V.int .i64 n])) rfl rfl rfl rfl rfl hb2594) ?_
   refine Q0 E_good rfl (v := V.int .i64 (gt a0_2499 (IntKind.i64.wrap (a1_2500.Base + 1)))) (.load rfl rfl (.sptM (f := (fun n => [V.int .i64 n])) hb2594 rfl) rfl) ?_
   refine Q0 E_good rfl (v := V.ptr [5] 0 4) (.fn rfl) ?_
   refine SafeOps.store (z := Obj.box [V.int .i64 a2_2501.Kind, V.int .i64 a2_2501.Pc, V.int .i64 a2_2501.V, V.int .i64 a2_2501.T, V.int .i64 (gt a0_2499 (IntKind.i64.wrap (a1_2500.Base + 1))), V.bool a2_2501.Won, V.int .i64 a2_2501.State]) E_good rfl rfl rfl rfl rfl rfl rfl (.boxM (c := 7) rfl rfl (Nat.le_of_ble_eq_true rfl) rfl) ?_
   refine SafeOps.nil ?_
   repeat (first | refine sq ?_ | refine sk ?_ | with_reducible first | refine tn ?_ | refine bn ?_)
   refine Safe.region ?_
   refine Q0 E_good rfl (v := V.ptr [5] 0 4) (.fn rfl) ?_
   refine Q0 E_good rfl (v := V.int .i64 (gt a0_2499 (IntKind.i64.wrap (a1_2500.Base + 1)))) (.load rfl rfl (.box rfl rfl) rfl) ?_
   refine Q0 E_good rfl (v := V.ptr [5] 0 3) (.fn rfl) ?_
   refine Q0 E_good rfl (v := V.int .i64 a2_2501.T) (.load rfl rfl (.box rfl rfl) rfl) ?_
   refine Q0 E_good rfl (v := V.int .i64 (IntKind.i64.wrap ((gt a0_2499 (IntKind.i64.wrap (a1_2500.Base + 1))) - a2_2501.T))) (.fn rfl) ?_
   refine Q0 E_good rfl (v := V.ptr [4] 0 1) (.fn rfl) ?_
   refine Q0 E_good rfl (v := V.int .i64 a1_2500.Cap) (.load rfl rfl (.box rfl rfl) rfl) ?_
   refine Q0 E_good rfl (v := V.bool (decide ((IntKind.i64.wrap ((gt a0_2499 (IntKind.i64.wrap (a1_2500.Base + 1))) - a2_2501.T)) ≥ a1_2500.Cap))) (.fn rfl) ?_
   refine SafeOps.nil ?_
   repeat (first | refine sq ?_ | refine sk ?_ | with_reducible first | refine tn ?_ | refine bn ?_)
   refine ifG h (fun hc2597 h => ?_) (fun hc2597 h => ?_)
   ·skip
    refine Safe.condK rfl hc2597 ?_
    repeat (first | refine sq ?_ | refine sk ?_ | with_reducible first | refine tn ?_ | refine bn ?_)
    refine Safe.regionD (n := 9) [(7, [7])] [] E_good mixed rfl ?_
    refine DT 0 [[7]] rfl rfl (fun _ hz => (.fn rfl)) ?_
    refine DT 1 [[7]] rfl rfl (v := V.agg [V.int .i64 a2_2501.Kind, V.int .i64 a2_2501.Pc, V.int .i64 a2_2501.V, V.int .i64 a2_2501.T, V.int .i64 (gt a0_2499 (IntKind.i64.wrap (a1_2500.Base + 1))), V.bool a2_2501.Won, V.int .i64 a2_2501.State]) (fun _ hz => (.load rfl rfl (.box (hz _ _ rfl rfl) rfl) rfl)) ?_
    refine letG h ?_
    intro x_2598 he2599 h
    refine DT 2 [[7]] rfl rfl (v := V.agg [V.int .i64 x_2598.Kind, V.int .i64 x_2598.Pc, V.int .i64 x_2598.V, V.int .i64 x_2598.T, V.int .i64 x_2598.B, V.bool x_2598.Won, V.int .i64 x_2598.State]) (fun _ hz => (.callP rfl rfl (go_ravelref07_ended_sc (api_Hand.mk a2_2501.Kind a2_2501.Pc a2_2501.V a2_2501.T (gt a0_2499 (IntKind.i64.wrap (a1_2500.Base + 1))) a2_2501.Won a2_2501.State) 3 _ he2599) rfl)) ?_
    refine DT 3 [[7]] rfl rfl (v := V.ptr [5] 0 4) (fun _ hz => (.fn rfl)) ?_
    refine DT 4 [[7]] rfl rfl (v := V.int .i64 (gt a0_2499 (IntKind.i64.wrap (a1_2500.Base + 1)))) (fun _ hz => (.load rfl rfl (.box (hz _ _ rfl rfl) rfl) rfl)) ?_
    refine DT 5 [[7]] rfl rfl (v := V.bool (go_ravelref07_count (gt a0_2499 (IntKind.i64.wrap (a1_2500.Base + 1))) 0)) (fun _ hz => (.callP rfl rfl (go_ravelref07_count_sc (gt a0_2499 (IntKind.i64.wrap (a1_2500.Base + 1))) 0 _ rfl) rfl)) ?_
    refine DT 6 [[7]] rfl rfl (fun _ hz => (.fn rfl)) ?_
    refine DAny.only (i := 7) rfl (by kernel_rfl) (.store (z := Obj.box [V.int .i64 x_2598.Kind, V.int .i64 x_2598.Pc, V.int .i64 x_2598.V, V.int .i64 x_2598.T, V.int .i64 x_2598.B, V.bool x_2598.Won, V.int .i64 x_2598.State]) rfl rfl rfl rfl rfl rfl rfl (.boxM (c := 7) rfl rfl (Nat.le_of_ble_eq_true rfl) rfl) rfl ?_)
    refine DT 8 [[7]] rfl rfl (fun _ hz => (.fn rfl)) ?_
    refine DAny.nil (by kernel_rfl) ?_
    repeat (first | refine sq ?_ | refine sk ?_ | with_reducible first | refine tn ?_ | refine bn ?_)
    refine Safe.ret ?_
    repeat (first | with_reducible refine thenQ.r ?_ | with_reducible refine blockQ.r ?_)
    obtain rfl := Option.some.inj h
    exact retQ.gen (vs := [V.sl 1 (rws (fun n => [V.int .i64 n]) a0_2499), V.agg [V.int .i64 x_2598.Kind, V.int .i64 x_2598.Pc, V.int .i64 x_2598.V, V.int .i64 x_2598.T, V.int .i64 x_2598.B, V.bool x_2598.Won, V.int .i64 x_2598.State], V.bool (go_ravelref07_count (gt a0_2499 (IntKind.i64.wrap (a1_2500.Base + 1))) 0)]) rfl (.tmp (v := V.sl 1 (rws (fun n => [V.int .i64 n]) a0_2499)) rfl (.cell (v := V.agg [V.int .i64 x_2598.Kind, V.int .i64 x_2598.Pc, V.int .i64 x_2598.V, V.int .i64 x_2598.T, V.int .i64 x_2598.B, V.bool x_2598.Won, V.int .i64 x_2598.State]) rfl rfl (.box rfl rfl) rfl (.tmp (v := V.bool (go_ravelref07_count (gt a0_2499 (IntKind.i64.wrap (a1_2500.Base + 1))) 0)) rfl .nil))) (.free rfl) (by simp) (.inr rfl)
   ·skip
    refine Safe.condN rfl hc2597 ?_
    repeat (first | refine sq ?_ | refine sk ?_ | with_reducible first | refine tn ?_ | refine bn ?_)
    refine Safe.regionD (n := 9) [(7, [7])] [] E_good mixed rfl ?_
    refine DT 0 [[7]] rfl rfl (fun _ hz => (.fn rfl)) ?_
    refine DT 1 [[7]] rfl rfl (v := V.agg [V.int .i64 a2_2501.Kind, V.int .i64 a2_2501.Pc, V.int .i64 a2_2501.V, V.int .i64 a2_2501.T, V.int .i64 (gt a0_2499 (IntKind.i64.wrap (a1_2500.Base + 1))), V.bool a2_2501.Won, V.int .i64 a2_2501.State]) (fun _ hz => (.load rfl rfl (.box (hz _ _ rfl rfl) rfl) rfl)) ?_
    refine letG h ?_
    intro x_2600 he2601 h
    refine DT 2 [[7]] rfl rfl (v := V.agg [V.int .i64 x_2600.Kind, V.int .i64 x_2600.Pc, V.int .i64 x_2600.V, V.int .i64 x_2600.T, V.int .i64 x_2600.B, V.bool x_2600.Won, V.int .i64 x_2600.State]) (fun _ hz => (.callP rfl rfl (go_ravelref07_at_sc (api_Hand.mk a2_2501.Kind a2_2501.Pc a2_2501.V a2_2501.T (gt a0_2499 (IntKind.i64.wrap (a1_2500.Base + 1))) a2_2501.Won a2_2501.State) 2 _ he2601) rfl)) ?_
    refine DT 3 [[7]] rfl rfl (v := V.ptr [5] 0 4) (fun _ hz => (.fn rfl)) ?_
    refine DT 4 [[7]] rfl rfl (v := V.int .i64 (gt a0_2499 (IntKind.i64.wrap (a1_2500.Base + 1)))) (fun _ hz => (.load rfl rfl (.box (hz _ _ rfl rfl) rfl) rfl)) ?_
    refine DT 5 [[7]] rfl rfl (v := V.bool (go_ravelref07_count (gt a0_2499 (IntKind.i64.wrap (a1_2500.Base + 1))) 0)) (fun _ hz => (.callP rfl rfl (go_ravelref07_count_sc (gt a0_2499 (IntKind.i64.wrap (a1_2500.Base + 1))) 0 _ rfl) rfl)) ?_
    refine DT 6 [[7]] rfl rfl (fun _ hz => (.fn rfl)) ?_
    refine DAny.only (i := 7) rfl (by kernel_rfl) (.store (z := Obj.box [V.int .i64 x_2600.Kind, V.int .i64 x_2600.Pc, V.int .i64 x_2600.V, V.int .i64 x_2600.T, V.int .i64 x_2600.B, V.bool x_2600.Won, V.int .i64 x_2600.State]) rfl rfl rfl rfl rfl rfl rfl (.boxM (c := 7) rfl rfl (Nat.le_of_ble_eq_true rfl) rfl) rfl ?_)
    refine DT 8 [[7]] rfl rfl (fun _ hz => (.fn rfl)) ?_
    refine DAny.nil (by kernel_rfl) ?_
    repeat (first | refine sq ?_ | refine sk ?_ | with_reducible first | refine tn ?_ | refine bn ?_)
    refine Safe.ret ?_
    repeat (first | with_reducible refine thenQ.r ?_ | with_reducible refine blockQ.r ?_)
    obtain rfl := Option.some.inj h
    exact retQ.gen (vs := [V.sl 1 (rws (fun n => [V.int .i64 n]) a0_2499), V.agg [V.int .i64 x_2600.Kind, V.int .i64 x_2600.Pc, V.int .i64 x_2600.V, V.int .i64 x_2600.T, V.int .i64 x_2600.B, V.bool x_2600.Won, V.int .i64 x_2600.State], V.bool (go_ravelref07_count (gt a0_2499 (IntKind.i64.wrap (a1_2500.Base + 1))) 0)]) rfl (.tmp (v := V.sl 1 (rws (fun n => [V.int .i64 n]) a0_2499)) rfl (.cell (v := V.agg [V.int .i64 x_2600.Kind, V.int .i64 x_2600.Pc, V.int .i64 x_2600.V, V.int .i64 x_2600.T, V.int .i64 x_2600.B, V.bool x_2600.Won, V.int .i64 x_2600.State]) rfl rfl (.box rfl rfl) rfl (.tmp (v := V.bool (go_ravelref07_count (gt a0_2499 (IntKind.i64.wrap (a1_2500.Base + 1))) 0)) rfl .nil))) (.free rfl) (by simp) (.inr rfl)
  ·skip
   refine Safe.condN rfl hc2593 ?_
   repeat (first | refine sq ?_ | refine sk ?_ | with_reducible first | refine tn ?_ | refine bn ?_)
   refine Safe.region ?_
   refine Q0 E_good rfl (v := V.ptr [5] 0 4) (.fn rfl) ?_
   refine Q0 E_good rfl (v := V.int .i64 a2_2501.B) (.load rfl rfl (.box rfl rfl) rfl) ?_
   refine Q0 E_good rfl (v := V.bool (decide (a2_2501.B < 0))) (.fn rfl) ?_
   refine SafeOps.nil ?_
   repeat (first | refine sq ?_ | refine sk ?_ | with_reducible first | refine tn ?_ | refine bn ?_)
   refine ifG h (fun hc2602 h => ?_) (fun hc2602 h => ?_)
   ·skip
    refine Safe.condK rfl hc2602 ?_
    repeat (first | refine sq ?_ | refine sk ?_ | with_reducible first | refine tn ?_ | refine bn ?_)
    refine Safe.regionD (n := 4) [(2, [7])] [] E_good mixed rfl ?_
    refine DT 0 [[7]] rfl rfl (v := V.agg [V.int .i64 a2_2501.Kind, V.int .i64 a2_2501.Pc, V.int .i64 a2_2501.V, V.int .i64 a2_2501.T, V.int .i64 a2_2501.B, V.bool a2_2501.Won, V.int .i64 a2_2501.State]) (fun _ hz => (.load rfl rfl (.box (hz _ _ rfl rfl) rfl) rfl)) ?_
    refine DT 1 [[7]] rfl rfl (fun _ hz => (.fn rfl)) ?_
    refine DAny.only (i := 2) rfl (by kernel_rfl) (.store (z := Obj.box [V.int .i64 a2_2501.Kind, V.int .i64 a2_2501.Pc, V.int .i64 a2_2501.V, V.int .i64 a2_2501.T, V.int .i64 a2_2501.B, V.bool a2_2501.Won, V.int .i64 a2_2501.State]) rfl rfl rfl rfl rfl rfl rfl (.boxM (c := 7) rfl rfl (Nat.le_of_ble_eq_true rfl) rfl) rfl ?_)
    refine DT 3 [[7]] rfl rfl (fun _ hz => (.fn rfl)) ?_
    refine DAny.nil (by kernel_rfl) ?_
    repeat (first | refine sq ?_ | refine sk ?_ | with_reducible first | refine tn ?_ | refine bn ?_)
    refine Safe.see 6 (u := V.sl 1 (rws (fun n => [V.int .i64 n]) [])) rfl (.nils _) ?_
    refine Safe.ret ?_
    repeat (first | with_reducible refine thenQ.r ?_ | with_reducible refine blockQ.r ?_)
    obtain rfl := Option.some.inj h
    exact retQ.gen (vs := [V.sl 1 (rws (fun n => [V.int .i64 n]) []), V.agg [V.int .i64 a2_2501.Kind, V.int .i64 a2_2501.Pc, V.int .i64 a2_2501.V, V.int .i64 a2_2501.T, V.int .i64 a2_2501.B, V.bool a2_2501.Won, V.int .i64 a2_2501.State], V.bool false]) rfl (.tmp (v := V.sl 1 (rws (fun n => [V.int .i64 n]) [])) rfl (.cell (v := V.agg [V.int .i64 a2_2501.Kind, V.int .i64 a2_2501.Pc, V.int .i64 a2_2501.V, V.int .i64 a2_2501.T, V.int .i64 a2_2501.B, V.bool a2_2501.Won, V.int .i64 a2_2501.State]) rfl rfl (.box rfl rfl) rfl (.tmp (v := V.bool false) rfl .nil))) (.free rfl) (by simp) (.inr rfl)
   ·skip
    refine Safe.condN rfl hc2602 ?_
    repeat (first | refine sq ?_ | refine sk ?_ | with_reducible first | refine tn ?_ | refine bn ?_)
    refine Safe.region ?_
    refine Q0 E_good rfl (v := V.ptr [5] 0 1) (.fn rfl) ?_
    refine Q0 E_good rfl (v := V.int .i64 a2_2501.Pc) (.load rfl rfl (.box rfl rfl) rfl) ?_
    refine Q0 E_good rfl (v := V.bool (a2_2501.Pc == 2)) (.fn rfl) ?_
    refine SafeOps.nil ?_
    repeat (first | refine sq ?_ | refine sk ?_ | with_reducible first | refine tn ?_ | refine bn ?_)
    refine ifG h (fun hc2609 h => ?_) (fun hc2609 h => ?_)
    ·skip
     refine Safe.condK rfl hc2609 ?_
     repeat (first | refine sq ?_ | refine sk ?_ | with_reducible first | refine tn ?_ | refine bn ?_)
     refine Safe.regionD (n := 13) [(11, [7])] [] E_good mixed rfl ?_
     refine DT 0 [[7]] rfl rfl (fun _ hz => (.fn rfl)) ?_
     refine DT 1 [[7]] rfl rfl (v := V.agg [V.int .i64 a1_2500.Base, V.int .i64 a1_2500.Cap]) (fun _ hz => (.load rfl rfl (.box (hz _ _ rfl rfl) rfl) rfl)) ?_
     refine DT 2 [[7]] rfl rfl (v := V.ptr [5] 0 4) (fun _ hz => (.fn rfl)) ?_
     refine DT 3 [[7]] rfl rfl (v := V.int .i64 a2_2501.B) (fun _ hz => (.load rfl rfl (.box (hz _ _ rfl rfl) rfl) rfl)) ?_
     refine bindG h ?_
     intro x_2610 he2611 h
     refine DT 4 [[7]] rfl rfl (v := V.int .i64 x_2610) (fun _ hz => (.callP rfl rfl (go_ravelref07_slot_sc a1_2500 a2_2501.B _ he2611) rfl)) ?_
     refine DT 5 [[7]] rfl rfl (v := V.ptr [5] 0 2) (fun _ hz => (.fn rfl)) ?_
     refine DT 6 [[7]] rfl rfl (v := V.int .i64 a2_2501.V) (fun _ hz => (.load rfl rfl (.box (hz _ _ rfl rfl) rfl) rfl)) ?_
     refine DT 8 [[7]] rfl rfl (v := V.agg [V.int .i64 a2_2501.Kind, V.int .i64 a2_2501.Pc, V.int .i64 a2_2501.V, V.int .i64 a2_2501.T, V.int .i64 a2_2501.B, V.bool a2_2501.Won, V.int .i64 a2_2501.State]) (fun _ hz => (.load rfl rfl (.box (hz _ _ rfl rfl) rfl) rfl)) ?_
     refine bindG h ?_
     intro x_2612 he2613 h
     refine DAny.only (i := 7) rfl (by kernel_rfl) (.quiet rfl rfl rfl (v := V.ref [68, 0] 0 (rws (fun n => [V.int .i64 n]) x_2612).length) (.callP rfl rfl (go_ravelref01_With_sc a0_2499 x_2610 a2_2501.V _ he2613) rfl) rfl ?_)
     refine letG h ?_
     intro x_2614 he2615 h
     refine DT 9 [[7]] rfl rfl (v := V.agg [V.int .i64 x_2614.Kind, V.int .i64 x_2614.Pc, V.int .i64 x_2614.V, V.int .i64 x_2614.T, V.int .i64 x_2614.B, V.bool x_2614.Won, V.int .i64 x_2614.State]) (fun _ hz => (.callP rfl rfl (go_ravelref07_at_sc a2_2501 3 _ he2615) rfl)) ?_
     refine DT 10 [[7]] rfl rfl (fun _ hz => (.fn rfl)) ?_
     refine DAny.only (i := 11) rfl (by kernel_rfl) (.store (z := Obj.box [V.int .i64 x_2614.Kind, V.int .i64 x_2614.Pc, V.int .i64 x_2614.V, V.int .i64 x_2614.T, V.int .i64 x_2614.B, V.bool x_2614.Won, V.int .i64 x_2614.State]) rfl rfl rfl rfl rfl rfl rfl (.boxM (c := 7) rfl rfl (Nat.le_of_ble_eq_true rfl) rfl) rfl ?_)
     refine DT 12 [[7]] rfl rfl (fun _ hz => (.fn rfl)) ?_
     refine DAny.nil (by kernel_rfl) ?_
     repeat (first | refine sq ?_ | refine sk ?_ | with_reducible first | refine tn ?_ | refine bn ?_)
     refine Safe.freeze [68, 0] rfl ?_
     refine Safe.see 6 (u := V.sl 1 (rws (fun n => [V.int .i64 n]) x_2612)) rfl (.full rfl rfl) ?_
     refine Safe.ret ?_
     repeat (first | with_reducible refine thenQ.r ?_ | with_reducible refine blockQ.r ?_)
     obtain rfl := Option.some.inj h
     exact retQ.gen (vs := [V.sl 1 (rws (fun n => [V.int .i64 n]) x_2612), V.agg [V.int .i64 x_2614.Kind, V.int .i64 x_2614.Pc, V.int .i64 x_2614.V, V.int .i64 x_2614.T, V.int .i64 x_2614.B, V.bool x_2614.Won, V.int .i64 x_2614.State], V.bool true]) rfl (.tmp (v := V.sl 1 (rws (fun n => [V.int .i64 n]) x_2612)) rfl (.cell (v := V.agg [V.int .i64 x_2614.Kind, V.int .i64 x_2614.Pc, V.int .i64 x_2614.V, V.int .i64 x_2614.T, V.int .i64 x_2614.B, V.bool x_2614.Won, V.int .i64 x_2614.State]) rfl rfl (.box rfl rfl) rfl (.tmp (v := V.bool true) rfl .nil))) (.free rfl) (by simp) (.inr rfl)
    ·skip
     refine Safe.condN rfl hc2609 ?_
     repeat (first | refine sq ?_ | refine sk ?_ | with_reducible first | refine tn ?_ | refine bn ?_)
     refine Safe.regionD (n := 13) [(11, [7])] [] E_good mixed rfl ?_
     refine DT 0 [[7]] rfl rfl (fun _ hz => (.fn rfl)) ?_
     refine DT 1 [[7]] rfl rfl (v := V.ptr [4] 0 0) (fun _ hz => (.fn rfl)) ?_
     refine DT 2 [[7]] rfl rfl (v := V.int .i64 a1_2500.Base) (fun _ hz => (.load rfl rfl (.box (hz _ _ rfl rfl) rfl) rfl)) ?_
     refine DT 3 [[7]] rfl rfl (v := V.int .i64 (IntKind.i64.wrap (a1_2500.Base + 1))) (fun _ hz => (.fn rfl)) ?_
     refine DT 4 [[7]] rfl rfl (v := V.ptr [5] 0 4) (fun _ hz => (.fn rfl)) ?_
     refine DT 5 [[7]] rfl rfl (v := V.int .i64 a2_2501.B) (fun _ hz => (.load rfl rfl (.box (hz _ _ rfl rfl) rfl) rfl)) ?_
     refine DT 6 [[7]] rfl rfl (v := V.int .i64 (IntKind.i64.wrap (a2_2501.B + 1))) (fun _ hz => (.fn rfl)) ?_
     refine DT 8 [[7]] rfl rfl (v := V.agg [V.int .i64 a2_2501.Kind, V.int .i64 a2_2501.Pc, V.int .i64 a2_2501.V, V.int .i64 a2_2501.T, V.int .i64 a2_2501.B, V.bool a2_2501.Won, V.int .i64 a2_2501.State]) (fun _ hz => (.load rfl rfl (.box (hz _ _ rfl rfl) rfl) rfl)) ?_
     refine bindG h ?_
     intro x_2616 he2617 h
     refine DAny.only (i := 7) rfl (by kernel_rfl) (.quiet rfl rfl rfl (v := V.ref [78, 0] 0 (rws (fun n => [V.int .i64 n]) x_2616).length) (.callP rfl rfl (go_ravelref01_With_sc a0_2499 (IntKind.i64.wrap (a1_2500.Base + 1)) (IntKind.i64.wrap (a2_2501.B + 1)) _ he2617) rfl) rfl ?_)
     refine letG h ?_
     intro x_2618 he2619 h
     refine DT 9 [[7]] rfl rfl (v := V.agg [V.int .i64 x_2618.Kind, V.int .i64 x_2618.Pc, V.int .i64 x_2618.V, V.int .i64 x_2618.T, V.int .i64 x_2618.B, V.bool x_2618.Won, V.int .i64 x_2618.State]) (fun _ hz => (.callP rfl rfl (go_ravelref07_ended_sc a2_2501 1 _ he2619) rfl)) ?_
     refine DT 10 [[7]] rfl rfl (fun _ hz => (.fn rfl)) ?_
     refine DAny.only (i := 11) rfl (by kernel_rfl) (.store (z := Obj.box [V.int .i64 x_2618.Kind, V.int .i64 x_2618.Pc, V.int .i64 x_2618.V, V.int .i64 x_2618.T, V.int .i64 x_2618.B, V.bool x_2618.Won, V.int .i64 x_2618.State]) rfl rfl rfl rfl rfl rfl rfl (.boxM (c := 7) rfl rfl (Nat.le_of_ble_eq_true rfl) rfl) rfl ?_)
     refine DT 12 [[7]] rfl rfl (fun _ hz => (.fn rfl)) ?_
     refine DAny.nil (by kernel_rfl) ?_
     repeat (first | refine sq ?_ | refine sk ?_ | with_reducible first | refine tn ?_ | refine bn ?_)
     refine Safe.freeze [78, 0] rfl ?_
     refine Safe.see 6 (u := V.sl 1 (rws (fun n => [V.int .i64 n]) x_2616)) rfl (.full rfl rfl) ?_
     refine Safe.ret ?_
     repeat (first | with_reducible refine thenQ.r ?_ | with_reducible refine blockQ.r ?_)
     obtain rfl := Option.some.inj h
     exact retQ.gen (vs := [V.sl 1 (rws (fun n => [V.int .i64 n]) x_2616), V.agg [V.int .i64 x_2618.Kind, V.int .i64 x_2618.Pc, V.int .i64 x_2618.V, V.int .i64 x_2618.T, V.int .i64 x_2618.B, V.bool x_2618.Won, V.int .i64 x_2618.State], V.bool true]) rfl (.tmp (v := V.sl 1 (rws (fun n => [V.int .i64 n]) x_2616)) rfl (.cell (v := V.agg [V.int .i64 x_2618.Kind, V.int .i64 x_2618.Pc, V.int .i64 x_2618.V, V.int .i64 x_2618.T, V.int .i64 x_2618.B, V.bool x_2618.Won, V.int .i64 x_2618.State]) rfl rfl (.box rfl rfl) rfl (.tmp (v := V.bool true) rfl .nil))) (.free rfl) (by simp) (.inr rfl)

noncomputable def go_ravelref07_pop_j2 (a0_2625 : List Int) (a1_2626 : api_Deque) (a2_2627 : api_Hand) (v0_2829 : List Int) : Option ((List Int) × api_Hand × Bool) :=
 letO (go_ravelref07_at (api_Hand.mk a2_2627.Kind a2_2627.Pc a2_2627.V a2_2627.T a2_2627.B ((gt a0_2625 a1_2626.Base) == a2_2627.T) a2_2627.State) 6) fun x_2831 =>
 some (v0_2829, x_2831, true)

noncomputable def go_ravelref07_pop_j3 (a0_2625 : List Int) (a1_2626 : api_Deque) (a2_2627 : api_Hand) (v9_2836 : Int) : Option ((List Int) × api_Hand × Bool) :=
 (go_ravelref01_With a0_2625 (IntKind.i64.wrap (a1_2626.Base + 1)) (IntKind.i64.wrap (a2_2627.T + 1))).bind fun x_2838 =>
 letO (go_ravelref07_ended a2_2627 v9_2836) fun x_2840 =>
 some (x_2838, x_2840, true)

noncomputable def go_ravelref07_pop (a0_2625 : List Int) (a1_2626 : api_Deque) (a2_2627 : api_Hand) : Option ((List Int) × api_Hand × Bool) :=
 if (a2_2627.Pc == 0) = true then
  if 0 ≤ (IntKind.i64.wrap (a1_2626.Base + 1)) ∧ (IntKind.i64.wrap (a1_2626.Base + 1)) < (a0_2625.length : Int) then
   letO (go_ravelref07_at (api_Hand.mk a2_2627.Kind a2_2627.Pc a2_2627.V a2_2627.T (gt a0_2625 (IntKind.i64.wrap (a1_2626.Base + 1))) a2_2627.Won a2_2627.State) 1) fun x_2753 =>
   some (a0_2625, x_2753, go_ravelref07_count (gt a0_2625 (IntKind.i64.wrap (a1_2626.Base + 1))) 0)
  else none
 else
  if (a2_2627.Pc == 1) = true then
   (go_ravelref01_With a0_2625 (IntKind.i64.wrap (a1_2626.Base + 1)) (IntKind.i64.wrap (a2_2627.B - 1))).bind fun x_2760 =>
   letO (go_ravelref07_at (api_Hand.mk a2_2627.Kind a2_2627.Pc a2_2627.V a2_2627.T (IntKind.i64.wrap (a2_2627.B - 1)) a2_2627.Won a2_2627.State) 2) fun x_2762 =>
   some (x_2760, x_2762, decide ((IntKind.i64.wrap (a2_2627.B - 1)) ≥ (-1)))
  else
   if (a2_2627.Pc == 2) = true then
    if 0 ≤ a1_2626.Base ∧ a1_2626.Base < (a0_2625.length : Int) then
     if (decide ((gt a0_2625 a1_2626.Base) > a2_2627.B)) = true then
      letO (go_ravelref07_at (api_Hand.mk a2_2627.Kind a2_2627.Pc a2_2627.V (gt a0_2625 a1_2626.Base) a2_2627.B a2_2627.Won a2_2627.State) 3) fun x_2777 =>
      some (a0_2625, x_2777, go_ravelref07_count (gt a0_2625 a1_2626.Base) 0)
     else
      letO (go_ravelref07_at (api_Hand.mk a2_2627.Kind a2_2627.Pc a2_2627.V (gt a0_2625 a1_2626.Base) a2_2627.B a2_2627.Won a2_2627.State) 4) fun x_2779 =>
      some (a0_2625, x_2779, go_ravelref07_count (gt a0_2625 a1_2626.Base) 0)
    else none
   else
    if ((decide (a2_2627.T < 0)) && (a2_2627.Pc != 4)) = true then
     some ([], a2_2627, false)
    else
     if (a2_2627.Pc == 3) = true then
      (go_ravelref01_With a0_2625 (IntKind.i64.wrap (a1_2626.Base + 1)) a2_2627.T).bind fun x_2788 =>
      letO (go_ravelref07_ended a2_2627 2) fun x_2790 =>
      some (x_2788, x_2790, true)
     else
      if (a2_2627.Pc == 4) = true then
       if (decide (a2_2627.B < 0)) = true then
        some ([], a2_2627, false)
       else
        (go_ravelref07_slot a1_2626 a2_2627.B).bind fun x_2805 =>
        if 0 ≤ x_2805 ∧ x_2805 < (a0_2625.length : Int) then
         if (decide (a2_2627.B > a2_2627.T)) = true then
          letO (go_ravelref07_ended (api_Hand.mk a2_2627.Kind a2_2627.Pc (gt a0_2625 x_2805) a2_2627.T a2_2627.B a2_2627.Won a2_2627.State) 1) fun x_2811 =>
          some (a0_2625, x_2811, true)
         else
          letO (go_ravelref07_at (api_Hand.mk a2_2627.Kind a2_2627.Pc (gt a0_2625 x_2805) a2_2627.T a2_2627.B a2_2627.Won a2_2627.State) 5) fun x_2813 =>
          some (a0_2625, x_2813, true)
        else none
      else
       if (a2_2627.Pc == 5) = true then
        if 0 ≤ a1_2626.Base ∧ a1_2626.Base < (a0_2625.length : Int) then
         if ((gt a0_2625 a1_2626.Base) == a2_2627.T) = true then
          (go_ravelref01_With a0_2625 a1_2626.Base (IntKind.i64.wrap (a2_2627.T + 1))).bind fun x_2834 =>
          go_ravelref07_pop_j2 a0_2625 a1_2626 a2_2627 x_2834
         else
          go_ravelref07_pop_j2 a0_2625 a1_2626 a2_2627 a0_2625
        else none
       else
        if a2_2627.Won = true then
         go_ravelref07_pop_j3 a0_2625 a1_2626 a2_2627 1
        else
         go_ravelref07_pop_j3 a0_2625 a1_2626 a2_2627 2

theorem go_ravelref07_pop_sc (a0_2625 : List Int) (a1_2626 : api_Deque) (a2_2627 : api_Hand) (r : (List Int) × api_Hand × Bool) (h : go_ravelref07_pop a0_2625 a1_2626 a2_2627 = some r) : SC Try.prog gl 25 [V.sl 1 (rws (fun n => [V.int .i64 n]) a0_2625), V.agg [V.int .i64 a1_2626.Base, V.int .i64 a1_2626.Cap], V.agg [V.int .i64 a2_2627.Kind, V.int .i64 a2_2627.Pc, V.int .i64 a2_2627.V, V.int .i64 a2_2627.T, V.int .i64 a2_2627.B, V.bool a2_2627.Won, V.int .i64 a2_2627.State]] (V.tup [V.sl 1 (rws (fun n => [V.int .i64 n]) r.1), V.agg [V.int .i64 r.2.1.Kind, V.int .i64 r.2.1.Pc, V.int .i64 r.2.1.V, V.int .i64 r.2.1.T, V.int .i64 r.2.1.B, V.bool r.2.1.Won, V.int .i64 r.2.1.State], V.bool r.2.2]) := by
 rw [go_ravelref07_pop] at h
 refine SC.of E_good Try.func25 rfl (fun _ _ => Try.call25 _ _) rfl ?_
 repeat (first | refine sq ?_ | refine sk ?_ | with_reducible first | refine tn ?_ | refine bn ?_)
 refine Safe.region ?_
 refine SafeOps.quiet1 E_good rfl rfl rfl (.box rfl rfl) rfl ?_
 refine SafeOps.quiet1 E_good rfl rfl rfl (.box rfl rfl) rfl ?_
 refine Qf E_good ?_
 refine SafeOps.quiet1 E_good rfl rfl rfl (.alloc rfl rfl) rfl ?_
 refine Qf E_good ?_
 refine SafeOps.nil ?_
 repeat (first | refine sq ?_ | refine sk ?_ | with_reducible first | refine tn ?_ | refine bn ?_)
 refine Safe.region ?_
 refine Q0 E_good rfl (v := V.ptr [5] 0 1) (.fn rfl) ?_
 refine Q0 E_good rfl (v := V.int .i64 a2_2627.Pc) (.load rfl rfl (.box rfl rfl) rfl) ?_
 refine Q0 E_good rfl (v := V.bool (a2_2627.Pc == 0)) (.fn rfl) ?_
 refine SafeOps.nil ?_
 repeat (first | refine sq ?_ | refine sk ?_ | with_reducible first | refine tn ?_ | refine bn ?_)
 refine ifG h (fun hc2751 h => ?_) (fun hc2751 h => ?_)
 ·skip
  refine Safe.condK rfl hc2751 ?_
  repeat (first | refine sq ?_ | refine sk ?_ | with_reducible first | refine tn ?_ | refine bn ?_)
  refine Safe.region ?_
  refine Qf E_good ?_
  refine Q0 E_good rfl (v := V.ptr [4] 0 0) (.fn rfl) ?_
  refine Q0 E_good rfl (v := V.int .i64 a1_2626.Base) (.load rfl rfl (.box rfl rfl) rfl) ?_
  refine Q0 E_good rfl (v := V.int .i64 (IntKind.i64.wrap (a1_2626.Base + 1))) (.fn rfl) ?_
  refine okG h (fun hb2752 h => ?_)
  refine Q0 E_good rfl (v := V.spt 1 (rws (fun n => [V.int .i64 n]) a0_2625) (Int.toNat (IntKind.i64.wrap (a1_2626.Base + 1))) 0) (.idxSlM (f := (fun n => [V.int .i64 n])) rfl rfl rfl rfl rfl hb2752) ?_
  refine Q0 E_good rfl (v := V.int .i64 (gt a0_2625 (IntKind.i64.wrap (a1_2626.Base + 1)))) (.load rfl rfl (.sptM (f := (fun n => [V.int .i64 n])) hb2752 rfl) rfl) ?_
  refine Q0 E_good rfl (v := V.ptr [5] 0 4) (.fn rfl) ?_
  refine SafeOps.store (z := Obj.box [V.int .i64 a2_2627.Kind, V.int .i64 a2_2627.Pc, V.int .i64 a2_2627.V, V.int .i64 a2_2627.T, V.int .i64 (gt a0_2625 (IntKind.i64.wrap (a1_2626.Base + 1))), V.bool a2_2627.Won, V.int .i64 a2_2627.State]) E_good rfl rfl rfl rfl rfl rfl rfl (.boxM (c := 7) rfl rfl (Nat.le_of_ble_eq_true rfl) rfl) ?_
  refine SafeOps.nil ?_
  repeat (first | refine sq ?_ | refine sk ?_ | with_reducible first | refine tn ?_ | refine bn ?_)
  refine Safe.regionD (n := 9) [(7, [7])] [] E_good mixed rfl ?_
  refine DT 0 [[7]] rfl rfl (fun _ hz => (.fn rfl)) ?_
  refine DT 1 [[7]] rfl rfl (v := V.agg [V.int .i64 a2_2627.Kind, V.int .i64 a2_2627.Pc, V.int .i64 a2_2627.V, V.int .i64 a2_2627.T, V.int .i64 (gt a0_2625 (IntKind.i64.wrap (a1_2626.Base + 1))), V.bool a2_2627.Won, V.int .i64 a2_2627.State]) (fun _ hz => (.load rfl rfl (.box (hz _ _ rfl rfl) rfl) rfl)) ?_
  refine letG h ?_
  intro x_2753 he2754 h
  refine DT 2 [[7]] rfl rfl (v := V.agg [V.int .i64 x_2753.Kind, V.int .i64 x_2753.Pc, V.int .i64 x_2753.V, V.int .i64 x_2753.T, V.int .i64 x_2753.B, V.bool x_2753.Won, V.int .i64 x_2753.State]) (fun _ hz => (.callP rfl rfl (go_ravelref07_at_sc (api_Hand.mk a2_2627.Kind a2_2627.Pc a2_2627.V a2_2627.T (gt a0_2625 (IntKind.i64.wrap (a1_2626.Base + 1))) a2_2627.Won a2_2627.State) 1 _ he2754) rfl)) ?_
  refine DT 3 [[7]] rfl rfl (v := V.ptr [5] 0 4) (fun _ hz => (.fn rfl)) ?_
  refine DT 4 [[7]] rfl rfl (v := V.int .i64 (gt a0_2625 (IntKind.i64.wrap (a1_2626.Base + 1)))) (fun _ hz => (.load rfl rfl (.box (hz _ _ rfl rfl) rfl) rfl)) ?_
  refine DT 5 [[7]] rfl rfl (v := V.bool (go_ravelref07_count (gt a0_2625 (IntKind.i64.wrap (a1_2626.Base + 1))) 0)) (fun _ hz => (.callP rfl rfl (go_ravelref07_count_sc (gt a0_2625 (IntKind.i64.wrap (a1_2626.Base + 1))) 0 _ rfl) rfl)) ?_
  refine DT 6 [[7]] rfl rfl (fun _ hz => (.fn rfl)) ?_
  refine DAny.only (i := 7) rfl (by kernel_rfl) (.store (z := Obj.box [V.int .i64 x_2753.Kind, V.int .i64 x_2753.Pc, V.int .i64 x_2753.V, V.int .i64 x_2753.T, V.int .i64 x_2753.B, V.bool x_2753.Won, V.int .i64 x_2753.State]) rfl rfl rfl rfl rfl rfl rfl (.boxM (c := 7) rfl rfl (Nat.le_of_ble_eq_true rfl) rfl) rfl ?_)
  refine DT 8 [[7]] rfl rfl (fun _ hz => (.fn rfl)) ?_
  refine DAny.nil (by kernel_rfl) ?_
  repeat (first | refine sq ?_ | refine sk ?_ | with_reducible first | refine tn ?_ | refine bn ?_)
  refine Safe.ret ?_
  repeat (first | with_reducible refine thenQ.r ?_ | with_reducible refine blockQ.r ?_)
  obtain rfl := Option.some.inj h
  exact retQ.gen (vs := [V.sl 1 (rws (fun n => [V.int .i64 n]) a0_2625), V.agg [V.int .i64 x_2753.Kind, V.int .i64 x_2753.Pc, V.int .i64 x_2753.V, V.int .i64 x_2753.T, V.int .i64 x_2753.B, V.bool x_2753.Won, V.int .i64 x_2753.State], V.bool (go_ravelref07_count (gt a0_2625 (IntKind.i64.wrap (a1_2626.Base + 1))) 0)]) rfl (.tmp (v := V.sl 1 (rws (fun n => [V.int .i64 n]) a0_2625)) rfl (.cell (v := V.agg [V.int .i64 x_2753.Kind, V.int .i64 x_2753.Pc, V.int .i64 x_2753.V, V.int .i64 x_2753.T, V.int .i64 x_2753.B, V.bool x_2753.Won, V.int .i64 x_2753.State]) rfl rfl (.box rfl rfl) rfl (.tmp (v := V.bool (go_ravelref07_count (gt a0_2625 (IntKind.i64.wrap (a1_2626.Base + 1))) 0)) rfl .nil))) (.free rfl) (by simp) (.inr rfl)
 ·skip
  refine Safe.condN rfl hc2751 ?_
  repeat (first | refine sq ?_ | refine sk ?_ | with_reducible first | refine tn ?_ | refine bn ?_)
  refine Safe.region ?_
  refine Q0 E_good rfl (v := V.ptr [5] 0 1) (.fn rfl) ?_
  refine Q0 E_good rfl (v := V.int .i64 a2_2627.Pc) (.load rfl rfl (.box rfl rfl) rfl) ?_
  refine Q0 E_good rfl (v := V.bool (a2_2627.Pc == 1)) (.fn rfl) ?_
  refine SafeOps.nil ?_
  repeat (first | refine sq ?_ | refine sk ?_ | with_reducible first | refine tn ?_ | refine bn ?_)
  refine ifG h (fun hc2759 h => ?_) (fun hc2759 h => ?_)
  ·skip
   refine Safe.condK rfl hc2759 ?_
   repeat (first | refine sq ?_ | refine sk ?_ | with_reducible first | refine tn ?_ | refine bn ?_)
   refine Safe.region ?_
   refine Q0 E_good rfl (v := V.ptr [5] 0 4) (.fn rfl) ?_
   refine Q0 E_good rfl (v := V.int .i64 a2_2627.B) (.load rfl rfl (.box rfl rfl) rfl) ?_
   refine Q0 E_good rfl (v := V.int .i64 (IntKind.i64.wrap (a2_2627.B - 1))) (.fn rfl) ?_
   refine Q0 E_good rfl (v := V.ptr [5] 0 4) (.fn rfl) ?_
   refine SafeOps.store (z := Obj.box [V.int .i64 a2_2627.Kind, V.int .i64 a2_2627.Pc, V.int .i64 a2_2627.V, V.int .i64 a2_2627.T, V.int .i64 (IntKind.i64.wrap (a2_2627.B - 1)), V.bool a2_2627.Won, V.int .i64 a2_2627.State]) E_good rfl rfl rfl rfl rfl rfl rfl (.boxM (c := 7) rfl rfl (Nat.le_of_ble_eq_true rfl) rfl) ?_
   refine SafeOps.nil ?_
   repeat (first | refine sq ?_ | refine sk ?_ | with_reducible first | refine tn ?_ | refine bn ?_)
   refine Safe.regionD (n := 15) [(13, [7])] [] E_good mixed rfl ?_
   refine DT 0 [[7]] rfl rfl (fun _ hz => (.fn rfl)) ?_
   refine DT 1 [[7]] rfl rfl (v := V.ptr [4] 0 0) (fun _ hz => (.fn rfl)) ?_
   refine DT 2 [[7]] rfl rfl (v := V.int .i64 a1_2626.Base) (fun _ hz => (.load rfl rfl (.box (hz _ _ rfl rfl) rfl) rfl)) ?_
   refine DT 3 [[7]] rfl rfl (v := V.int .i64 (IntKind.i64.wrap (a1_2626.Base + 1))) (fun _ hz => (.fn rfl)) ?_
   refine DT 4 [[7]] rfl rfl (v := V.ptr [5] 0 4) (fun _ hz => (.fn rfl)) ?_
   refine DT 5 [[7]] rfl rfl (v := V.int .i64 (IntKind.i64.wrap (a2_2627.B - 1))) (fun _ hz => (.load rfl rfl (.box (hz _ _ rfl rfl) rfl) rfl)) ?_
   refine DT 7 [[7]] rfl rfl (v := V.agg [V.int .i64 a2_2627.Kind, V.int .i64 a2_2627.Pc, V.int .i64 a2_2627.V, V.int .i64 a2_2627.T, V.int .i64 (IntKind.i64.wrap (a2_2627.B - 1)), V.bool a2_2627.Won, V.int .i64 a2_2627.State]) (fun _ hz => (.load rfl rfl (.box (hz _ _ rfl rfl) rfl) rfl)) ?_
   refine DT 9 [[7]] rfl rfl (v := V.ptr [5] 0 4) (fun _ hz => (.fn rfl)) ?_
   refine DT 10 [[7]] rfl rfl (v := V.int .i64 (IntKind.i64.wrap (a2_2627.B - 1))) (fun _ hz => (.load rfl rfl (.box (hz _ _ rfl rfl) rfl) rfl)) ?_
   refine DT 11 [[7]] rfl rfl (v := V.bool (decide ((IntKind.i64.wrap (a2_2627.B - 1)) ≥ (-1)))) (fun _ hz => (.fn rfl)) ?_
   refine bindG h ?_
   intro x_2760 he2761 h
   refine DAny.only (i := 6) rfl (by kernel_rfl) (.quiet rfl rfl rfl (v := V.ref [39, 0] 0 (rws (fun n => [V.int .i64 n]) x_2760).length) (.callP rfl rfl (go_ravelref01_With_sc a0_2625 (IntKind.i64.wrap (a1_2626.Base + 1)) (IntKind.i64.wrap (a2_2627.B - 1)) _ he2761) rfl) rfl ?_)
   refine letG h ?_
   intro x_2762 he2763 h
   refine DT 8 [[7]] rfl rfl (v := V.agg [V.int .i64 x_2762.Kind, V.int .i64 x_2762.Pc, V.int .i64 x_2762.V, V.int .i64 x_2762.T, V.int .i64 x_2762.B, V.bool x_2762.Won, V.int .i64 x_2762.State]) (fun _ hz => (.callP rfl rfl (go_ravelref07_at_sc (api_Hand.mk a2_2627.Kind a2_2627.Pc a2_2627.V a2_2627.T (IntKind.i64.wrap (a2_2627.B - 1)) a2_2627.Won a2_2627.State) 2 _ he2763) rfl)) ?_
   refine DT 12 [[7]] rfl rfl (fun _ hz => (.fn rfl)) ?_
   refine DAny.only (i := 13) rfl (by kernel_rfl) (.store (z := Obj.box [V.int .i64 x_2762.Kind, V.int .i64 x_2762.Pc, V.int .i64 x_2762.V, V.int .i64 x_2762.T, V.int .i64 x_2762.B, V.bool x_2762.Won, V.int .i64 x_2762.State]) rfl rfl rfl rfl rfl rfl rfl (.boxM (c := 7) rfl rfl (Nat.le_of_ble_eq_true rfl) rfl) rfl ?_)
   refine DT 14 [[7]] rfl rfl (fun _ hz => (.fn rfl)) ?_
   refine DAny.nil (by kernel_rfl) ?_
   repeat (first | refine sq ?_ | refine sk ?_ | with_reducible first | refine tn ?_ | refine bn ?_)
   refine Safe.freeze [39, 0] rfl ?_
   refine Safe.see 6 (u := V.sl 1 (rws (fun n => [V.int .i64 n]) x_2760)) rfl (.full rfl rfl) ?_
   refine Safe.ret ?_
   repeat (first | with_reducible refine thenQ.r ?_ | with_reducible refine blockQ.r ?_)
   obtain rfl := Option.some.inj h
   exact retQ.gen (vs := [V.sl 1 (rws (fun n => [V.int .i64 n]) x_2760), V.agg [V.int .i64 x_2762.Kind, V.int .i64 x_2762.Pc, V.int .i64 x_2762.V, V.int .i64 x_2762.T, V.int .i64 x_2762.B, V.bool x_2762.Won, V.int .i64 x_2762.State], V.bool (decide ((IntKind.i64.wrap (a2_2627.B - 1)) ≥ (-1)))]) rfl (.tmp (v := V.sl 1 (rws (fun n => [V.int .i64 n]) x_2760)) rfl (.cell (v := V.agg [V.int .i64 x_2762.Kind, V.int .i64 x_2762.Pc, V.int .i64 x_2762.V, V.int .i64 x_2762.T, V.int .i64 x_2762.B, V.bool x_2762.Won, V.int .i64 x_2762.State]) rfl rfl (.box rfl rfl) rfl (.tmp (v := V.bool (decide ((IntKind.i64.wrap (a2_2627.B - 1)) ≥ (-1)))) rfl .nil))) (.free rfl) (by simp) (.inr rfl)
  ·skip
   refine Safe.condN rfl hc2759 ?_
   repeat (first | refine sq ?_ | refine sk ?_ | with_reducible first | refine tn ?_ | refine bn ?_)
   refine Safe.region ?_
   refine Q0 E_good rfl (v := V.ptr [5] 0 1) (.fn rfl) ?_
   refine Q0 E_good rfl (v := V.int .i64 a2_2627.Pc) (.load rfl rfl (.box rfl rfl) rfl) ?_
   refine Q0 E_good rfl (v := V.bool (a2_2627.Pc == 2)) (.fn rfl) ?_
   refine SafeOps.nil ?_
   repeat (first | refine sq ?_ | refine sk ?_ | with_reducible first | refine tn ?_ | refine bn ?_)
   refine ifG h (fun hc2772 h => ?_) (fun hc2772 h => ?_)
   ·skip
    refine Safe.condK rfl hc2772 ?_
    repeat (first | refine sq ?_ | refine sk ?_ | with_reducible first | refine tn ?_ | refine bn ?_)
    refine Safe.region ?_
    refine Qf E_good ?_
    refine Q0 E_good rfl (v := V.ptr [4] 0 0) (.fn rfl) ?_
    refine Q0 E_good rfl (v := V.int .i64 a1_2626.Base) (.load rfl rfl (.box rfl rfl) rfl) ?_
    refine okG h (fun hb2773 h => ?_)
    refine Q0 E_good rfl (v := V.spt 1 (rws (fun n => [V.int .i64 n]) a0_2625) (Int.toNat a1_2626.Base) 0) (.idxSlM (f := (fun n => [V.int .i64 n])) rfl rfl rfl rfl rfl hb2773) ?_
    refine Q0 E_good rfl (v := V.int .i64 (gt a0_2625 a1_2626.Base)) (.load rfl rfl (.sptM (f := (fun n => [V.int .i64 n])) hb2773 rfl) rfl) ?_
    refine Q0 E_good rfl (v := V.ptr [5] 0 3) (.fn rfl) ?_
    refine SafeOps.store (z := Obj.box [V.int .i64 a2_2627.Kind, V.int .i64 a2_2627.Pc, V.int .i64 a2_2627.V, V.int .i64 (gt a0_2625 a1_2626.Base), V.int .i64 a2_2627.B, V.bool a2_2627.Won, V.int .i64 a2_2627.State]) E_good rfl rfl rfl rfl rfl rfl rfl (.boxM (c := 7) rfl rfl (Nat.le_of_ble_eq_true rfl) rfl) ?_
    refine SafeOps.nil ?_
    repeat (first | refine sq ?_ | refine sk ?_ | with_reducible first | refine tn ?_ | refine bn ?_)
    refine Safe.region ?_
    refine Q0 E_good rfl (v := V.ptr [5] 0 3) (.fn rfl) ?_
    refine Q0 E_good rfl (v := V.int .i64 (gt a0_2625 a1_2626.Base)) (.load rfl rfl (.box rfl rfl) rfl) ?_
    refine Q0 E_good rfl (v := V.ptr [5] 0 4) (.fn rfl) ?_
    refine Q0 E_good rfl (v := V.int .i64 a2_2627.B) (.load rfl rfl (.box rfl rfl) rfl) ?_
    refine Q0 E_good rfl (v := V.bool (decide ((gt a0_2625 a1_2626.Base) > a2_2627.B))) (.fn rfl) ?_
    refine SafeOps.nil ?_
    repeat (first | refine sq ?_ | refine sk ?_ | with_reducible first | refine tn ?_ | refine bn ?_)
    refine ifG h (fun hc2776 h => ?_) (fun hc2776 h => ?_)
    ·skip
     refine Safe.condK rfl hc2776 ?_
     repeat (first | refine sq ?_ | refine sk ?_ | with_reducible first | refine tn ?_ | refine bn ?_)
     refine Safe.regionD (n := 9) [(7, [7])] [] E_good mixed rfl ?_
     refine DT 0 [[7]] rfl rfl (fun _ hz => (.fn rfl)) ?_
     refine DT 1 [[7]] rfl rfl (v := V.agg [V.int .i64 a2_2627.Kind, V.int .i64 a2_2627.Pc, V.int .i64 a2_2627.V, V.int .i64 (gt a0_2625 a1_2626.Base), V.int .i64 a2_2627.B, V.bool a2_2627.Won, V.int .i64 a2_2627.State]) (fun _ hz => (.load rfl rfl (.box (hz _ _ rfl rfl) rfl) rfl)) ?_
     refine letG h ?_
     intro x_2777 he2778 h
     refine DT 2 [[7]] rfl rfl (v := V.agg [V.int .i64 x_2777.Kind, V.int .i64 x_2777.Pc, V.int .i64 x_2777.V, V.int .i64 x_2777.T, V.int .i64 x_2777.B, V.bool x_2777.Won, V.int .i64 x_2777.State]) (fun _ hz => (.callP rfl rfl (go_ravelref07_at_sc (api_Hand.mk a2_2627.Kind a2_2627.Pc a2_2627.V (gt a0_2625 a1_2626.Base) a2_2627.B a2_2627.Won a2_2627.State) 3 _ he2778) rfl)) ?_
     refine DT 3 [[7]] rfl rfl (v := V.ptr [5] 0 3) (fun _ hz => (.fn rfl)) ?_
     refine DT 4 [[7]] rfl rfl (v := V.int .i64 (gt a0_2625 a1_2626.Base)) (fun _ hz => (.load rfl rfl (.box (hz _ _ rfl rfl) rfl) rfl)) ?_
     refine DT 5 [[7]] rfl rfl (v := V.bool (go_ravelref07_count (gt a0_2625 a1_2626.Base) 0)) (fun _ hz => (.callP rfl rfl (go_ravelref07_count_sc (gt a0_2625 a1_2626.Base) 0 _ rfl) rfl)) ?_
     refine DT 6 [[7]] rfl rfl (fun _ hz => (.fn rfl)) ?_
     refine DAny.only (i := 7) rfl (by kernel_rfl) (.store (z := Obj.box [V.int .i64 x_2777.Kind, V.int .i64 x_2777.Pc, V.int .i64 x_2777.V, V.int .i64 x_2777.T, V.int .i64 x_2777.B, V.bool x_2777.Won, V.int .i64 x_2777.State]) rfl rfl rfl rfl rfl rfl rfl (.boxM (c := 7) rfl rfl (Nat.le_of_ble_eq_true rfl) rfl) rfl ?_)
     refine DT 8 [[7]] rfl rfl (fun _ hz => (.fn rfl)) ?_
     refine DAny.nil (by kernel_rfl) ?_
     repeat (first | refine sq ?_ | refine sk ?_ | with_reducible first | refine tn ?_ | refine bn ?_)
     refine Safe.ret ?_
     repeat (first | with_reducible refine thenQ.r ?_ | with_reducible refine blockQ.r ?_)
     obtain rfl := Option.some.inj h
     exact retQ.gen (vs := [V.sl 1 (rws (fun n => [V.int .i64 n]) a0_2625), V.agg [V.int .i64 x_2777.Kind, V.int .i64 x_2777.Pc, V.int .i64 x_2777.V, V.int .i64 x_2777.T, V.int .i64 x_2777.B, V.bool x_2777.Won, V.int .i64 x_2777.State], V.bool (go_ravelref07_count (gt a0_2625 a1_2626.Base) 0)]) rfl (.tmp (v := V.sl 1 (rws (fun n => [V.int .i64 n]) a0_2625)) rfl (.cell (v := V.agg [V.int .i64 x_2777.Kind, V.int .i64 x_2777.Pc, V.int .i64 x_2777.V, V.int .i64 x_2777.T, V.int .i64 x_2777.B, V.bool x_2777.Won, V.int .i64 x_2777.State]) rfl rfl (.box rfl rfl) rfl (.tmp (v := V.bool (go_ravelref07_count (gt a0_2625 a1_2626.Base) 0)) rfl .nil))) (.free rfl) (by simp) (.inr rfl)
    ·skip
     refine Safe.condN rfl hc2776 ?_
     repeat (first | refine sq ?_ | refine sk ?_ | with_reducible first | refine tn ?_ | refine bn ?_)
     refine Safe.regionD (n := 9) [(7, [7])] [] E_good mixed rfl ?_
     refine DT 0 [[7]] rfl rfl (fun _ hz => (.fn rfl)) ?_
     refine DT 1 [[7]] rfl rfl (v := V.agg [V.int .i64 a2_2627.Kind, V.int .i64 a2_2627.Pc, V.int .i64 a2_2627.V, V.int .i64 (gt a0_2625 a1_2626.Base), V.int .i64 a2_2627.B, V.bool a2_2627.Won, V.int .i64 a2_2627.State]) (fun _ hz => (.load rfl rfl (.box (hz _ _ rfl rfl) rfl) rfl)) ?_
     refine letG h ?_
     intro x_2779 he2780 h
     refine DT 2 [[7]] rfl rfl (v := V.agg [V.int .i64 x_2779.Kind, V.int .i64 x_2779.Pc, V.int .i64 x_2779.V, V.int .i64 x_2779.T, V.int .i64 x_2779.B, V.bool x_2779.Won, V.int .i64 x_2779.State]) (fun _ hz => (.callP rfl rfl (go_ravelref07_at_sc (api_Hand.mk a2_2627.Kind a2_2627.Pc a2_2627.V (gt a0_2625 a1_2626.Base) a2_2627.B a2_2627.Won a2_2627.State) 4 _ he2780) rfl)) ?_
     refine DT 3 [[7]] rfl rfl (v := V.ptr [5] 0 3) (fun _ hz => (.fn rfl)) ?_
     refine DT 4 [[7]] rfl rfl (v := V.int .i64 (gt a0_2625 a1_2626.Base)) (fun _ hz => (.load rfl rfl (.box (hz _ _ rfl rfl) rfl) rfl)) ?_
     refine DT 5 [[7]] rfl rfl (v := V.bool (go_ravelref07_count (gt a0_2625 a1_2626.Base) 0)) (fun _ hz => (.callP rfl rfl (go_ravelref07_count_sc (gt a0_2625 a1_2626.Base) 0 _ rfl) rfl)) ?_
     refine DT 6 [[7]] rfl rfl (fun _ hz => (.fn rfl)) ?_
     refine DAny.only (i := 7) rfl (by kernel_rfl) (.store (z := Obj.box [V.int .i64 x_2779.Kind, V.int .i64 x_2779.Pc, V.int .i64 x_2779.V, V.int .i64 x_2779.T, V.int .i64 x_2779.B, V.bool x_2779.Won, V.int .i64 x_2779.State]) rfl rfl rfl rfl rfl rfl rfl (.boxM (c := 7) rfl rfl (Nat.le_of_ble_eq_true rfl) rfl) rfl ?_)
     refine DT 8 [[7]] rfl rfl (fun _ hz => (.fn rfl)) ?_
     refine DAny.nil (by kernel_rfl) ?_
     repeat (first | refine sq ?_ | refine sk ?_ | with_reducible first | refine tn ?_ | refine bn ?_)
     refine Safe.ret ?_
     repeat (first | with_reducible refine thenQ.r ?_ | with_reducible refine blockQ.r ?_)
     obtain rfl := Option.some.inj h
     exact retQ.gen (vs := [V.sl 1 (rws (fun n => [V.int .i64 n]) a0_2625), V.agg [V.int .i64 x_2779.Kind, V.int .i64 x_2779.Pc, V.int .i64 x_2779.V, V.int .i64 x_2779.T, V.int .i64 x_2779.B, V.bool x_2779.Won, V.int .i64 x_2779.State], V.bool (go_ravelref07_count (gt a0_2625 a1_2626.Base) 0)]) rfl (.tmp (v := V.sl 1 (rws (fun n => [V.int .i64 n]) a0_2625)) rfl (.cell (v := V.agg [V.int .i64 x_2779.Kind, V.int .i64 x_2779.Pc, V.int .i64 x_2779.V, V.int .i64 x_2779.T, V.int .i64 x_2779.B, V.bool x_2779.Won, V.int .i64 x_2779.State]) rfl rfl (.box rfl rfl) rfl (.tmp (v := V.bool (go_ravelref07_count (gt a0_2625 a1_2626.Base) 0)) rfl .nil))) (.free rfl) (by simp) (.inr rfl)
   ·skip
    refine Safe.condN rfl hc2772 ?_
    repeat (first | refine sq ?_ | refine sk ?_ | with_reducible first | refine tn ?_ | refine bn ?_)
    refine Safe.region ?_
    refine Q0 E_good rfl (v := V.ptr [5] 0 3) (.fn rfl) ?_
    refine Q0 E_good rfl (v := V.int .i64 a2_2627.T) (.load rfl rfl (.box rfl rfl) rfl) ?_
    refine Q0 E_good rfl (v := V.bool (decide (a2_2627.T < 0))) (.fn rfl) ?_
    refine Qf E_good ?_
    refine SafeOps.bjoin 4 78 (b := ((decide (a2_2627.T < 0)) && (a2_2627.Pc != 4))) (b1 := (a2_2627.Pc != 4)) (b0 := false) (fun hc2781 K => ?_) (fun hc2781 K => ?_) bj_and ?_
    ·skip
     refine SafeOps.quiet0 E_good (congrArg some hc2781) rfl rfl (v := V.ptr [5] 0 1) (.fn rfl) ?_
     refine SafeOps.quiet0 E_good (congrArg some hc2781) rfl rfl (v := V.int .i64 a2_2627.Pc) (.load rfl rfl (.box rfl rfl) rfl) ?_
     refine SafeOps.quiet0 E_good (congrArg some hc2781) rfl rfl (v := V.bool (a2_2627.Pc != 4)) (.fn rfl) ?_
     refine Q0 E_good rfl (v := V.bool (a2_2627.Pc != 4)) (.pickK rfl hc2781 rfl) ?_
     exact SafeOps.drop' 4 rfl rfl rfl K
    ·skip
     refine SafeOps.skip (congrArg some hc2781) rfl rfl ?_
     refine SafeOps.skip (congrArg some hc2781) rfl rfl ?_
     refine SafeOps.skip (congrArg some hc2781) rfl rfl ?_
     refine Q0 E_good rfl (v := V.bool false) (.pickK rfl hc2781 rfl) ?_
     exact SafeOps.drop' 4 rfl rfl rfl K
    refine SafeOps.nil ?_
    repeat (first | refine sq ?_ | refine sk ?_ | with_reducible first | refine tn ?_ | refine bn ?_)
    refine ifG h (fun hc2782 h => ?_) (fun hc2782 h => ?_)
    ·skip
     refine Safe.condK rfl hc2782 ?_
     repeat (first | refine sq ?_ | refine sk ?_ | with_reducible first | refine tn ?_ | refine bn ?_)
     refine Safe.regionD (n := 4) [(2, [7])] [] E_good mixed rfl ?_
     refine DT 0 [[7]] rfl rfl (v := V.agg [V.int .i64 a2_2627.Kind, V.int .i64 a2_2627.Pc, V.int .i64 a2_2627.V, V.int .i64 a2_2627.T, V.int .i64 a2_2627.B, V.bool a2_2627.Won, V.int .i64 a2_2627.State]) (fun _ hz => (.load rfl rfl (.box (hz _ _ rfl rfl) rfl) rfl)) ?_
     refine DT 1 [[7]] rfl rfl (fun _ hz => (.fn rfl)) ?_
     refine DAny.only (i := 2) rfl (by kernel_rfl) (.store (z := Obj.box [V.int .i64 a2_2627.Kind, V.int .i64 a2_2627.Pc, V.int .i64 a2_2627.V, V.int .i64 a2_2627.T, V.int .i64 a2_2627.B, V.bool a2_2627.Won, V.int .i64 a2_2627.State]) rfl rfl rfl rfl rfl rfl rfl (.boxM (c := 7) rfl rfl (Nat.le_of_ble_eq_true rfl) rfl) rfl ?_)
     refine DT 3 [[7]] rfl rfl (fun _ hz => (.fn rfl)) ?_
     refine DAny.nil (by kernel_rfl) ?_
     repeat (first | refine sq ?_ | refine sk ?_ | with_reducible first | refine tn ?_ | refine bn ?_)
     refine Safe.see 6 (u := V.sl 1 (rws (fun n => [V.int .i64 n]) [])) rfl (.nils _) ?_
     refine Safe.ret ?_
     repeat (first | with_reducible refine thenQ.r ?_ | with_reducible refine blockQ.r ?_)
     obtain rfl := Option.some.inj h
     exact retQ.gen (vs := [V.sl 1 (rws (fun n => [V.int .i64 n]) []), V.agg [V.int .i64 a2_2627.Kind, V.int .i64 a2_2627.Pc, V.int .i64 a2_2627.V, V.int .i64 a2_2627.T, V.int .i64 a2_2627.B, V.bool a2_2627.Won, V.int .i64 a2_2627.State], V.bool false]) rfl (.tmp (v := V.sl 1 (rws (fun n => [V.int .i64 n]) [])) rfl (.cell (v := V.agg [V.int .i64 a2_2627.Kind, V.int .i64 a2_2627.Pc, V.int .i64 a2_2627.V, V.int .i64 a2_2627.T, V.int .i64 a2_2627.B, V.bool a2_2627.Won, V.int .i64 a2_2627.State]) rfl rfl (.box rfl rfl) rfl (.tmp (v := V.bool false) rfl .nil))) (.free rfl) (by simp) (.inr rfl)
    ·skip
     refine Safe.condN rfl hc2782 ?_
     repeat (first | refine sq ?_ | refine sk ?_ | with_reducible first | refine tn ?_ | refine bn ?_)
     refine Safe.region ?_
     refine Q0 E_good rfl (v := V.ptr [5] 0 1) (.fn rfl) ?_
     refine Q0 E_good rfl (v := V.int .i64 a2_2627.Pc) (.load rfl rfl (.box rfl rfl) rfl) ?_
     refine Q0 E_good rfl (v := V.bool (a2_2627.Pc == 3)) (.fn rfl) ?_
     refine SafeOps.nil ?_
     repeat (first | refine sq ?_ | refine sk ?_ | with_reducible first | refine tn ?_ | refine bn ?_)
     refine ifG h (fun hc2787 h => ?_) (fun hc2787 h => ?_)
     ·skip
      refine Safe.condK rfl hc2787 ?_
      repeat (first | refine sq ?_ | refine sk ?_ | with_reducible first | refine tn ?_ | refine bn ?_)
      refine Safe.regionD (n := 12) [(10, [7])] [] E_good mixed rfl ?_
      refine DT 0 [[7]] rfl rfl (fun _ hz => (.fn rfl)) ?_
      refine DT 1 [[7]] rfl rfl (v := V.ptr [4] 0 0) (fun _ hz => (.fn rfl)) ?_
      refine DT 2 [[7]] rfl rfl (v := V.int .i64 a1_2626.Base) (fun _ hz => (.load rfl rfl (.box (hz _ _ rfl rfl) rfl) rfl)) ?_
      refine DT 3 [[7]] rfl rfl (v := V.int .i64 (IntKind.i64.wrap (a1_2626.Base + 1))) (fun _ hz => (.fn rfl)) ?_
      refine DT 4 [[7]] rfl rfl (v := V.ptr [5] 0 3) (fun _ hz => (.fn rfl)) ?_
      refine DT 5 [[7]] rfl rfl (v := V.int .i64 a2_2627.T) (fun _ hz => (.load rfl rfl (.box (hz _ _ rfl rfl) rfl) rfl)) ?_
      refine DT 7 [[7]] rfl rfl (v := V.agg [V.int .i64 a2_2627.Kind, V.int .i64 a2_2627.Pc, V.int .i64 a2_2627.V, V.int .i64 a2_2627.T, V.int .i64 a2_2627.B, V.bool a2_2627.Won, V.int .i64 a2_2627.State]) (fun _ hz => (.load rfl rfl (.box (hz _ _ rfl rfl) rfl) rfl)) ?_
      refine bindG h ?_
      intro x_2788 he2789 h
      refine DAny.only (i := 6) rfl (by kernel_rfl) (.quiet rfl rfl rfl (v := V.ref [89, 0] 0 (rws (fun n => [V.int .i64 n]) x_2788).length) (.callP rfl rfl (go_ravelref01_With_sc a0_2625 (IntKind.i64.wrap (a1_2626.Base + 1)) a2_2627.T _ he2789) rfl) rfl ?_)
      refine letG h ?_
      intro x_2790 he2791 h
      refine DT 8 [[7]] rfl rfl (v := V.agg [V.int .i64 x_2790.Kind, V.int .i64 x_2790.Pc, V.int .i64 x_2790.V, V.int .i64 x_2790.T, V.int .i64 x_2790.B, V.bool x_2790.Won, V.int .i64 x_2790.State]) (fun _ hz => (.callP rfl rfl (go_ravelref07_ended_sc a2_2627 2 _ he2791) rfl)) ?_
      refine DT 9 [[7]] rfl rfl (fun _ hz => (.fn rfl)) ?_
      refine DAny.only (i := 10) rfl (by kernel_rfl) (.store (z := Obj.box [V.int .i64 x_2790.Kind, V.int .i64 x_2790.Pc, V.int .i64 x_2790.V, V.int .i64 x_2790.T, V.int .i64 x_2790.B, V.bool x_2790.Won, V.int .i64 x_2790.State]) rfl rfl rfl rfl rfl rfl rfl (.boxM (c := 7) rfl rfl (Nat.le_of_ble_eq_true rfl) rfl) rfl ?_)
      refine DT 11 [[7]] rfl rfl (fun _ hz => (.fn rfl)) ?_
      refine DAny.nil (by kernel_rfl) ?_
      repeat (first | refine sq ?_ | refine sk ?_ | with_reducible first | refine tn ?_ | refine bn ?_)
      refine Safe.freeze [89, 0] rfl ?_
      refine Safe.see 6 (u := V.sl 1 (rws (fun n => [V.int .i64 n]) x_2788)) rfl (.full rfl rfl) ?_
      refine Safe.ret ?_
      repeat (first | with_reducible refine thenQ.r ?_ | with_reducible refine blockQ.r ?_)
      obtain rfl := Option.some.inj h
      exact retQ.gen (vs := [V.sl 1 (rws (fun n => [V.int .i64 n]) x_2788), V.agg [V.int .i64 x_2790.Kind, V.int .i64 x_2790.Pc, V.int .i64 x_2790.V, V.int .i64 x_2790.T, V.int .i64 x_2790.B, V.bool x_2790.Won, V.int .i64 x_2790.State], V.bool true]) rfl (.tmp (v := V.sl 1 (rws (fun n => [V.int .i64 n]) x_2788)) rfl (.cell (v := V.agg [V.int .i64 x_2790.Kind, V.int .i64 x_2790.Pc, V.int .i64 x_2790.V, V.int .i64 x_2790.T, V.int .i64 x_2790.B, V.bool x_2790.Won, V.int .i64 x_2790.State]) rfl rfl (.box rfl rfl) rfl (.tmp (v := V.bool true) rfl .nil))) (.free rfl) (by simp) (.inr rfl)
     ·skip
      refine Safe.condN rfl hc2787 ?_
      repeat (first | refine sq ?_ | refine sk ?_ | with_reducible first | refine tn ?_ | refine bn ?_)
      refine Safe.region ?_
      refine Q0 E_good rfl (v := V.ptr [5] 0 1) (.fn rfl) ?_
      refine Q0 E_good rfl (v := V.int .i64 a2_2627.Pc) (.load rfl rfl (.box rfl rfl) rfl) ?_
      refine Q0 E_good rfl (v := V.bool (a2_2627.Pc == 4)) (.fn rfl) ?_
      refine SafeOps.nil ?_
      repeat (first | refine sq ?_ | refine sk ?_ | with_reducible first | refine tn ?_ | refine bn ?_)
      refine ifG h (fun hc2803 h => ?_) (fun hc2803 h => ?_)
      ·skip
       refine Safe.condK rfl hc2803 ?_
       repeat (first | refine sq ?_ | refine sk ?_ | with_reducible first | refine tn ?_ | refine bn ?_)
       refine Safe.region ?_
       refine Q0 E_good rfl (v := V.ptr [5] 0 4) (.fn rfl) ?_
       refine Q0 E_good rfl (v := V.int .i64 a2_2627.B) (.load rfl rfl (.box rfl rfl) rfl) ?_
       refine Q0 E_good rfl (v := V.bool (decide (a2_2627.B < 0))) (.fn rfl) ?_
       refine SafeOps.nil ?_
       repeat (first | refine sq ?_ | refine sk ?_ | with_reducible first | refine tn ?_ | refine bn ?_)
       refine ifG h (fun hc2804 h => ?_) (fun hc2804 h => ?_)
       ·skip
        refine Safe.condK rfl hc2804 ?_
        repeat (first | refine sq ?_ | refine sk ?_ | with_reducible first | refine tn ?_ | refine bn ?_)
        refine Safe.regionD (n := 4) [(2, [7])] [] E_good mixed rfl ?_
        refine DT 0 [[7]] rfl rfl (v := V.agg [V.int .i64 a2_2627.Kind, V.int .i64 a2_2627.Pc, V.int .i64 a2_2627.V, V.int .i64 a2_2627.T, V.int .i64 a2_2627.B, V.bool a2_2627.Won, V.int .i64 a2_2627.State]) (fun _ hz => (.load rfl rfl (.box (hz _ _ rfl rfl) rfl) rfl)) ?_
        refine DT 1 [[7]] rfl rfl (fun _ hz => (.fn rfl)) ?_
        refine DAny.only (i := 2) rfl (by kernel_rfl) (.store (z := Obj.box [V.int .i64 a2_2627.Kind, V.int .i64 a2_2627.Pc, V.int .i64 a2_2627.V, V.int .i64 a2_2627.T, V.int .i64 a2_2627.B, V.bool a2_2627.Won, V.int .i64 a2_2627.State]) rfl rfl rfl rfl rfl rfl rfl (.boxM (c := 7) rfl rfl (Nat.le_of_ble_eq_true rfl) rfl) rfl ?_)
        refine DT 3 [[7]] rfl rfl (fun _ hz => (.fn rfl)) ?_
        refine DAny.nil (by kernel_rfl) ?_
        repeat (first | refine sq ?_ | refine sk ?_ | with_reducible first | refine tn ?_ | refine bn ?_)
        refine Safe.see 6 (u := V.sl 1 (rws (fun n => [V.int .i64 n]) [])) rfl (.nils _) ?_
        refine Safe.ret ?_
        repeat (first | with_reducible refine thenQ.r ?_ | with_reducible refine blockQ.r ?_)
        obtain rfl := Option.some.inj h
        exact retQ.gen (vs := [V.sl 1 (rws (fun n => [V.int .i64 n]) []), V.agg [V.int .i64 a2_2627.Kind, V.int .i64 a2_2627.Pc, V.int .i64 a2_2627.V, V.int .i64 a2_2627.T, V.int .i64 a2_2627.B, V.bool a2_2627.Won, V.int .i64 a2_2627.State], V.bool false]) rfl (.tmp (v := V.sl 1 (rws (fun n => [V.int .i64 n]) [])) rfl (.cell (v := V.agg [V.int .i64 a2_2627.Kind, V.int .i64 a2_2627.Pc, V.int .i64 a2_2627.V, V.int .i64 a2_2627.T, V.int .i64 a2_2627.B, V.bool a2_2627.Won, V.int .i64 a2_2627.State]) rfl rfl (.box rfl rfl) rfl (.tmp (v := V.bool false) rfl .nil))) (.free rfl) (by simp) (.inr rfl)
       ·skip
        refine Safe.condN rfl hc2804 ?_
        repeat (first | refine sq ?_ | refine sk ?_ | with_reducible first | refine tn ?_ | refine bn ?_)
        refine Safe.region ?_
        refine Qf E_good ?_
        refine Q0 E_good rfl (v := V.agg [V.int .i64 a1_2626.Base, V.int .i64 a1_2626.Cap]) (.load rfl rfl (.box rfl rfl) rfl) ?_
        refine Q0 E_good rfl (v := V.ptr [5] 0 4) (.fn rfl) ?_
        refine Q0 E_good rfl (v := V.int .i64 a2_2627.B) (.load rfl rfl (.box rfl rfl) rfl) ?_
        refine bindG h ?_
        intro x_2805 he2806 h
        refine Q0 E_good rfl (v := V.int .i64 x_2805) (.callP rfl rfl (go_ravelref07_slot_sc a1_2626 a2_2627.B _ he2806) rfl) ?_
        refine okG h (fun hb2807 h => ?_)
        refine Q0 E_good rfl (v := V.spt 1 (rws (fun n => [V.int .i64 n]) a0_2625) (Int.toNat x_2805) 0) (.idxSlM (f := (fun n => [V.int .i64 n])) rfl rfl rfl rfl rfl hb2807) ?_
        refine Q0 E_good rfl (v := V.int .i64 (gt a0_2625 x_2805)) (.load rfl rfl (.sptM (f := (fun n => [V.int .i64 n])) hb2807 rfl) rfl) ?_
        refine Q0 E_good rfl (v := V.ptr [5] 0 2) (.fn rfl) ?_
        refine SafeOps.store (z := Obj.box [V.int .i64 a2_2627.Kind, V.int .i64 a2_2627.Pc, V.int .i64 (gt a0_2625 x_2805), V.int .i64 a2_2627.T, V.int .i64 a2_2627.B, V.bool a2_2627.Won, V.int .i64 a2_2627.State]) E_good rfl rfl rfl rfl rfl rfl rfl (.boxM (c := 7) rfl rfl (Nat.le_of_ble_eq_true rfl) rfl) ?_
        refine SafeOps.nil ?_
        repeat (first | refine sq ?_ | refine sk ?_ | with_reducible first | refine tn ?_ | refine bn ?_)
        refine Safe.region ?_
        refine Q0 E_good rfl (v := V.ptr [5] 0 4) (.fn rfl) ?_
        refine Q0 E_good rfl (v := V.int .i64 a2_2627.B) (.load rfl rfl (.box rfl rfl) rfl) ?_
        refine Q0 E_good rfl (v := V.ptr [5] 0 3) (.fn rfl) ?_
        refine Q0 E_good rfl (v := V.int .i64 a2_2627.T) (.load rfl rfl (.box rfl rfl) rfl) ?_
        refine Q0 E_good rfl (v := V.bool (decide (a2_2627.B > a2_2627.T))) (.fn rfl) ?_
        refine SafeOps.nil ?_
        repeat (first | refine sq ?_ | refine sk ?_ | with_reducible first | refine tn ?_ | refine bn ?_)
        refine ifG h (fun hc2810 h => ?_) (fun hc2810 h => ?_)
        ·skip
         refine Safe.condK rfl hc2810 ?_
         repeat (first | refine sq ?_ | refine sk ?_ | with_reducible first | refine tn ?_ | refine bn ?_)
         refine Safe.region ?_
         refine Qf E_good ?_
         refine Q0 E_good rfl (v := V.agg [V.int .i64 a2_2627.Kind, V.int .i64 a2_2627.Pc, V.int .i64 (gt a0_2625 x_2805), V.int .i64 a2_2627.T, V.int .i64 a2_2627.B, V.bool a2_2627.Won, V.int .i64 a2_2627.State]) (.load rfl rfl (.box rfl rfl) rfl) ?_
         refine letG h ?_
         intro x_2811 he2812 h
         refine Q0 E_good rfl (v := V.agg [V.int .i64 x_2811.Kind, V.int .i64 x_2811.Pc, V.int .i64 x_2811.V, V.int .i64 x_2811.T, V.int .i64 x_2811.B, V.bool x_2811.Won, V.int .i64 x_2811.State]) (.callP rfl rfl (go_ravelref07_ended_sc (api_Hand.mk a2_2627.Kind a2_2627.Pc (gt a0_2625 x_2805) a2_2627.T a2_2627.B a2_2627.Won a2_2627.State) 1 _ he2812) rfl) ?_
         refine Qf E_good ?_
         refine SafeOps.store (z := Obj.box [V.int .i64 x_2811.Kind, V.int .i64 x_2811.Pc, V.int .i64 x_2811.V, V.int .i64 x_2811.T, V.int .i64 x_2811.B, V.bool x_2811.Won, V.int .i64 x_2811.State]) E_good rfl rfl rfl rfl rfl rfl rfl (.boxM (c := 7) rfl rfl (Nat.le_of_ble_eq_true rfl) rfl) ?_
         refine Qf E_good ?_
         refine SafeOps.nil ?_
         repeat (first | refine sq ?_ | refine sk ?_ | with_reducible first | refine tn ?_ | refine bn ?_)
         refine Safe.ret ?_
         repeat (first | with_reducible refine thenQ.r ?_ | with_reducible refine blockQ.r ?_)
         obtain rfl := Option.some.inj h
         exact retQ.gen (vs := [V.sl 1 (rws (fun n => [V.int .i64 n]) a0_2625), V.agg [V.int .i64 x_2811.Kind, V.int .i64 x_2811.Pc, V.int .i64 x_2811.V, V.int .i64 x_2811.T, V.int .i64 x_2811.B, V.bool x_2811.Won, V.int .i64 x_2811.State], V.bool true]) rfl (.tmp (v := V.sl 1 (rws (fun n => [V.int .i64 n]) a0_2625)) rfl (.cell (v := V.agg [V.int .i64 x_2811.Kind, V.int .i64 x_2811.Pc, V.int .i64 x_2811.V, V.int .i64 x_2811.T, V.int .i64 x_2811.B, V.bool x_2811.Won, V.int .i64 x_2811.State]) rfl rfl (.box rfl rfl) rfl (.tmp (v := V.bool true) rfl .nil))) (.free rfl) (by simp) (.inr rfl)
        ·skip
         refine Safe.condN rfl hc2810 ?_
         repeat (first | refine sq ?_ | refine sk ?_ | with_reducible first | refine tn ?_ | refine bn ?_)
         refine Safe.region ?_
         refine Qf E_good ?_
         refine Q0 E_good rfl (v := V.agg [V.int .i64 a2_2627.Kind, V.int .i64 a2_2627.Pc, V.int .i64 (gt a0_2625 x_2805), V.int .i64 a2_2627.T, V.int .i64 a2_2627.B, V.bool a2_2627.Won, V.int .i64 a2_2627.State]) (.load rfl rfl (.box rfl rfl) rfl) ?_
         refine letG h ?_
         intro x_2813 he2814 h
         refine Q0 E_good rfl (v := V.agg [V.int .i64 x_2813.Kind, V.int .i64 x_2813.Pc, V.int .i64 x_2813.V, V.int .i64 x_2813.T, V.int .i64 x_2813.B, V.bool x_2813.Won, V.int .i64 x_2813.State]) (.callP rfl rfl (go_ravelref07_at_sc (api_Hand.mk a2_2627.Kind a2_2627.Pc (gt a0_2625 x_2805) a2_2627.T a2_2627.B a2_2627.Won a2_2627.State) 5 _ he2814) rfl) ?_
         refine Qf E_good ?_
         refine SafeOps.store (z := Obj.box [V.int .i64 x_2813.Kind, V.int .i64 x_2813.Pc, V.int .i64 x_2813.V, V.int .i64 x_2813.T, V.int .i64 x_2813.B, V.bool x_2813.Won, V.int .i64 x_2813.State]) E_good rfl rfl rfl rfl rfl rfl rfl (.boxM (c := 7) rfl rfl (Nat.le_of_ble_eq_true rfl) rfl) ?_
         refine Qf E_good ?_
         refine SafeOps.nil ?_
         repeat (first | refine sq ?_ | refine sk ?_ | with_reducible first | refine tn ?_ | refine bn ?_)
         refine Safe.ret ?_
         repeat (first | with_reducible refine thenQ.r ?_ | with_reducible refine blockQ.r ?_)
         obtain rfl := Option.some.inj h
         exact retQ.gen (vs := [V.sl 1 (rws (fun n => [V.int .i64 n]) a0_2625), V.agg [V.int .i64 x_2813.Kind, V.int .i64 x_2813.Pc, V.int .i64 x_2813.V, V.int .i64 x_2813.T, V.int .i64 x_2813.B, V.bool x_2813.Won, V.int .i64 x_2813.State], V.bool true]) rfl (.tmp (v := V.sl 1 (rws (fun n => [V.int .i64 n]) a0_2625)) rfl (.cell (v := V.agg [V.int .i64 x_2813.Kind, V.int .i64 x_2813.Pc, V.int .i64 x_2813.V, V.int .i64 x_2813.T, V.int .i64 x_2813.B, V.bool x_2813.Won, V.int .i64 x_2813.State]) rfl rfl (.box rfl rfl) rfl (.tmp (v := V.bool true) rfl .nil))) (.free rfl) (by simp) (.inr rfl)
      ·skip
       refine Safe.condN rfl hc2803 ?_
       repeat (first | refine sq ?_ | refine sk ?_ | with_reducible first | refine tn ?_ | refine bn ?_)
       refine Safe.region ?_
       refine Q0 E_good rfl (v := V.ptr [5] 0 1) (.fn rfl) ?_
       refine Q0 E_good rfl (v := V.int .i64 a2_2627.Pc) (.load rfl rfl (.box rfl rfl) rfl) ?_
       refine Q0 E_good rfl (v := V.bool (a2_2627.Pc == 5)) (.fn rfl) ?_
       refine SafeOps.nil ?_
       repeat (first | refine sq ?_ | refine sk ?_ | with_reducible first | refine tn ?_ | refine bn ?_)
       refine ifG h (fun hc2825 h => ?_) (fun hc2825 h => ?_)
       ·skip
        refine Safe.condK rfl hc2825 ?_
        repeat (first | refine sq ?_ | refine sk ?_ | with_reducible first | refine tn ?_ | refine bn ?_)
        refine Safe.regionD (n := 10) [(9, [5])] [] E_good mixed rfl ?_
        refine DT 0 [[5]] rfl rfl (fun _ hz => (.fn rfl)) ?_
        refine DT 1 [[5]] rfl rfl (v := V.ptr [4] 0 0) (fun _ hz => (.fn rfl)) ?_
        refine DT 2 [[5]] rfl rfl (v := V.int .i64 a1_2626.Base) (fun _ hz => (.load rfl rfl (.box (hz _ _ rfl rfl) rfl) rfl)) ?_
        refine okG h (fun hb2826 h => ?_)
        refine DT 3 [[5]] rfl rfl (v := V.spt 1 (rws (fun n => [V.int .i64 n]) a0_2625) (Int.toNat a1_2626.Base) 0) (fun _ hz => (.idxSlM (f := (fun n => [V.int .i64 n])) rfl rfl rfl rfl rfl hb2826)) ?_
        refine DT 4 [[5]] rfl rfl (v := V.int .i64 (gt a0_2625 a1_2626.Base)) (fun _ hz => (.load rfl rfl (.sptM (f := (fun n => [V.int .i64 n])) hb2826 rfl) rfl)) ?_
        refine DT 5 [[5]] rfl rfl (v := V.ptr [5] 0 3) (fun _ hz => (.fn rfl)) ?_
        refine DT 6 [] rfl rfl (v := V.int .i64 a2_2627.T) (fun _ hz => (.load rfl rfl (.box (hz _ _ rfl rfl) rfl) rfl)) ?_
        refine DT 7 [[5]] rfl rfl (v := V.bool ((gt a0_2625 a1_2626.Base) == a2_2627.T)) (fun _ hz => (.fn rfl)) ?_
        refine DT 8 [[5]] rfl rfl (v := V.ptr [5] 0 5) (fun _ hz => (.fn rfl)) ?_
        refine DAny.only (i := 9) rfl (by kernel_rfl) (.store (z := Obj.box [V.int .i64 a2_2627.Kind, V.int .i64 a2_2627.Pc, V.int .i64 a2_2627.V, V.int .i64 a2_2627.T, V.int .i64 a2_2627.B, V.bool ((gt a0_2625 a1_2626.Base) == a2_2627.T), V.int .i64 a2_2627.State]) rfl rfl rfl rfl rfl rfl rfl (.boxM (c := 7) rfl rfl (Nat.le_of_ble_eq_true rfl) rfl) rfl ?_)
        refine DAny.nil (by kernel_rfl) ?_
        repeat (first | refine sq ?_ | refine sk ?_ | with_reducible first | refine tn ?_ | refine bn ?_)
        refine Safe.region ?_
        refine Q0 E_good rfl (v := V.ptr [5] 0 5) (.fn rfl) ?_
        refine Q0 E_good rfl (v := V.bool ((gt a0_2625 a1_2626.Base) == a2_2627.T)) (.load rfl rfl (.box rfl rfl) rfl) ?_
        refine SafeOps.nil ?_
        repeat (first | refine sq ?_ | refine sk ?_ | with_reducible first | refine tn ?_ | refine bn ?_)
        refine Safe.joinT (fun (v0_2829 : List Int) => go_ravelref07_pop_j2 a0_2625 a1_2626 a2_2627 v0_2829 = some r) (fun (v0_2829 : List Int) => ⟨Try.f25.ntmps, [(0, V.sl 1 (rws (fun n => [V.int .i64 n]) v0_2829)), (5, V.ptr [5] 0 0), (7, V.ptr [7] 0 0)], [([5], Obj.box [V.int .i64 a2_2627.Kind, V.int .i64 a2_2627.Pc, V.int .i64 a2_2627.V, V.int .i64 a2_2627.T, V.int .i64 a2_2627.B, V.bool ((gt a0_2625 a1_2626.Base) == a2_2627.T), V.int .i64 a2_2627.State]), ([7], Obj.box [V.int .i64 0, V.int .i64 0, V.int .i64 0, V.int .i64 0, V.int .i64 0, V.bool false, V.int .i64 0])], [], []⟩) ?_ (fun HJ2830 => ?_)
        ·intro v0_2829 h
         replace h : go_ravelref07_pop_j2 a0_2625 a1_2626 a2_2627 v0_2829 = some r := h
         rw [go_ravelref07_pop_j2] at h
         repeat (first | refine sq ?_ | refine sk ?_ | with_reducible first | refine tn ?_ | refine bn ?_)
         refine Safe.region ?_
         refine Qf E_good ?_
         refine Q0 E_good rfl (v := V.agg [V.int .i64 a2_2627.Kind, V.int .i64 a2_2627.Pc, V.int .i64 a2_2627.V, V.int .i64 a2_2627.T, V.int .i64 a2_2627.B, V.bool ((gt a0_2625 a1_2626.Base) == a2_2627.T), V.int .i64 a2_2627.State]) (.load rfl rfl (.box rfl rfl) rfl) ?_
         refine letG h ?_
         intro x_2831 he2832 h
         refine Q0 E_good rfl (v := V.agg [V.int .i64 x_2831.Kind, V.int .i64 x_2831.Pc, V.int .i64 x_2831.V, V.int .i64 x_2831.T, V.int .i64 x_2831.B, V.bool x_2831.Won, V.int .i64 x_2831.State]) (.callP rfl rfl (go_ravelref07_at_sc (api_Hand.mk a2_2627.Kind a2_2627.Pc a2_2627.V a2_2627.T a2_2627.B ((gt a0_2625 a1_2626.Base) == a2_2627.T) a2_2627.State) 6 _ he2832) rfl) ?_
         refine Qf E_good ?_
         refine SafeOps.store (z := Obj.box [V.int .i64 x_2831.Kind, V.int .i64 x_2831.Pc, V.int .i64 x_2831.V, V.int .i64 x_2831.T, V.int .i64 x_2831.B, V.bool x_2831.Won, V.int .i64 x_2831.State]) E_good rfl rfl rfl rfl rfl rfl rfl (.boxM (c := 7) rfl rfl (Nat.le_of_ble_eq_true rfl) rfl) ?_
         refine Qf E_good ?_
         refine SafeOps.nil ?_
         repeat (first | refine sq ?_ | refine sk ?_ | with_reducible first | refine tn ?_ | refine bn ?_)
         refine Safe.ret ?_
         repeat (first | with_reducible refine thenQ.r ?_ | with_reducible refine blockQ.r ?_)
         obtain rfl := Option.some.inj h
         exact retQ.gen (vs := [V.sl 1 (rws (fun n => [V.int .i64 n]) v0_2829), V.agg [V.int .i64 x_2831.Kind, V.int .i64 x_2831.Pc, V.int .i64 x_2831.V, V.int .i64 x_2831.T, V.int .i64 x_2831.B, V.bool x_2831.Won, V.int .i64 x_2831.State], V.bool true]) rfl (.tmp (v := V.sl 1 (rws (fun n => [V.int .i64 n]) v0_2829)) rfl (.cell (v := V.agg [V.int .i64 x_2831.Kind, V.int .i64 x_2831.Pc, V.int .i64 x_2831.V, V.int .i64 x_2831.T, V.int .i64 x_2831.B, V.bool x_2831.Won, V.int .i64 x_2831.State]) rfl rfl (.box rfl rfl) rfl (.tmp (v := V.bool true) rfl .nil))) (.free rfl) (by simp) (.inr rfl)
        ·skip
         refine ifG h (fun hc2833 h => ?_) (fun hc2833 h => ?_)
         ·skip
          refine Safe.condK rfl hc2833 ?_
          repeat (first | refine sq ?_ | refine sk ?_ | with_reducible first | refine tn ?_ | refine bn ?_)
          refine Safe.region ?_
          refine Qf E_good ?_
          refine Q0 E_good rfl (v := V.ptr [4] 0 0) (.fn rfl) ?_
          refine Q0 E_good rfl (v := V.int .i64 a1_2626.Base) (.load rfl rfl (.box rfl rfl) rfl) ?_
          refine Q0 E_good rfl (v := V.ptr [5] 0 3) (.fn rfl) ?_
          refine Q0 E_good rfl (v := V.int .i64 a2_2627.T) (.load rfl rfl (.box rfl rfl) rfl) ?_
          refine Q0 E_good rfl (v := V.int .i64 (IntKind.i64.wrap (a2_2627.T + 1))) (.fn rfl) ?_
          refine bindG h ?_
          intro x_2834 he2835 h
          refine SafeOps.quiet E_good rfl rfl rfl (v := V.ref [138, 0] 0 (rws (fun n => [V.int .i64 n]) x_2834).length) (.callP rfl rfl (go_ravelref01_With_sc a0_2625 a1_2626.Base (IntKind.i64.wrap (a2_2627.T + 1)) _ he2835) rfl) rfl ?_
          refine Qf E_good ?_
          refine SafeOps.nil ?_
          repeat (first | refine Safe.skip ?_ | with_reducible refine thenQ.n ?_ | with_reducible refine blockQ.n ?_)
          exact Safe.got (HJ2830 (x_2834) h) (.freeze [138, 0] rfl (.cov ⟨rfl, rfl, (upT_cons (.full rfl rfl) (ut (ut upT_nil))), (uo (uo upOb_nil)), upOut_nil, rfl⟩))
         ·skip
          refine Safe.condN rfl hc2833 ?_
          repeat (first | refine Safe.skip ?_ | with_reducible refine thenQ.n ?_ | with_reducible refine blockQ.n ?_)
          exact Safe.got (HJ2830 (a0_2625) h) (.cov ⟨rfl, rfl, (ut (ut (ut upT_nil))), (uo (uo upOb_nil)), upOut_nil, rfl⟩)
       ·skip
        refine Safe.condN rfl hc2825 ?_
        repeat (first | refine sq ?_ | refine sk ?_ | with_reducible first | refine tn ?_ | refine bn ?_)
        refine Safe.region ?_
        refine Qf E_good ?_
        refine SafeOps.nil ?_
        repeat (first | refine sq ?_ | refine sk ?_ | with_reducible first | refine tn ?_ | refine bn ?_)
        refine Safe.region ?_
        refine Q0 E_good rfl (v := V.ptr [5] 0 5) (.fn rfl) ?_
        refine Q0 E_good rfl (v := V.bool a2_2627.Won) (.load rfl rfl (.box rfl rfl) rfl) ?_
        refine SafeOps.nil ?_
        repeat (first | refine sq ?_ | refine sk ?_ | with_reducible first | refine tn ?_ | refine bn ?_)
        refine Safe.joinT (fun (v9_2836 : Int) => go_ravelref07_pop_j3 a0_2625 a1_2626 a2_2627 v9_2836 = some r) (fun (v9_2836 : Int) => ⟨Try.f25.ntmps, [(0, V.sl 1 (rws (fun n => [V.int .i64 n]) a0_2625)), (4, V.ptr [4] 0 0), (5, V.ptr [5] 0 0), (7, V.ptr [7] 0 0), (9, V.int .i64 v9_2836)], [([4], Obj.box [V.int .i64 a1_2626.Base, V.int .i64 a1_2626.Cap]), ([5], Obj.box [V.int .i64 a2_2627.Kind, V.int .i64 a2_2627.Pc, V.int .i64 a2_2627.V, V.int .i64 a2_2627.T, V.int .i64 a2_2627.B, V.bool a2_2627.Won, V.int .i64 a2_2627.State]), ([7], Obj.box [V.int .i64 0, V.int .i64 0, V.int .i64 0, V.int .i64 0, V.int .i64 0, V.bool false, V.int .i64 0])], [], []⟩) ?_ (fun HJ2837 => ?_)
        ·intro v9_2836 h
         replace h : go_ravelref07_pop_j3 a0_2625 a1_2626 a2_2627 v9_2836 = some r := h
         rw [go_ravelref07_pop_j3] at h
         repeat (first | refine sq ?_ | refine sk ?_ | with_reducible first | refine tn ?_ | refine bn ?_)
         refine Safe.regionD (n := 14) [(12, [7])] [] E_good mixed rfl ?_
         refine DT 0 [[7]] rfl rfl (fun _ hz => (.fn rfl)) ?_
         refine DT 1 [[7]] rfl rfl (v := V.ptr [4] 0 0) (fun _ hz => (.fn rfl)) ?_
         refine DT 2 [[7]] rfl rfl (v := V.int .i64 a1_2626.Base) (fun _ hz => (.load rfl rfl (.box (hz _ _ rfl rfl) rfl) rfl)) ?_
         refine DT 3 [[7]] rfl rfl (v := V.int .i64 (IntKind.i64.wrap (a1_2626.Base + 1))) (fun _ hz => (.fn rfl)) ?_
         refine DT 4 [[7]] rfl rfl (v := V.ptr [5] 0 3) (fun _ hz => (.fn rfl)) ?_
         refine DT 5 [[7]] rfl rfl (v := V.int .i64 a2_2627.T) (fun _ hz => (.load rfl rfl (.box (hz _ _ rfl rfl) rfl) rfl)) ?_
         refine DT 6 [[7]] rfl rfl (v := V.int .i64 (IntKind.i64.wrap (a2_2627.T + 1))) (fun _ hz => (.fn rfl)) ?_
         refine DT 8 [[7]] rfl rfl (v := V.agg [V.int .i64 a2_2627.Kind, V.int .i64 a2_2627.Pc, V.int .i64 a2_2627.V, V.int .i64 a2_2627.T, V.int .i64 a2_2627.B, V.bool a2_2627.Won, V.int .i64 a2_2627.State]) (fun _ hz => (.load rfl rfl (.box (hz _ _ rfl rfl) rfl) rfl)) ?_
         refine DT 9 [[7]] rfl rfl (fun _ hz => (.fn rfl)) ?_
         refine bindG h ?_
         intro x_2838 he2839 h
         refine DAny.only (i := 7) rfl (by kernel_rfl) (.quiet rfl rfl rfl (v := V.ref [151, 0] 0 (rws (fun n => [V.int .i64 n]) x_2838).length) (.callP rfl rfl (go_ravelref01_With_sc a0_2625 (IntKind.i64.wrap (a1_2626.Base + 1)) (IntKind.i64.wrap (a2_2627.T + 1)) _ he2839) rfl) rfl ?_)
         refine letG h ?_
         intro x_2840 he2841 h
         refine DT 10 [[7]] rfl rfl (v := V.agg [V.int .i64 x_2840.Kind, V.int .i64 x_2840.Pc, V.int .i64 x_2840.V, V.int .i64 x_2840.T, V.int .i64 x_2840.B, V.bool x_2840.Won, V.int .i64 x_2840.State]) (fun _ hz => (.callP rfl rfl (go_ravelref07_ended_sc a2_2627 v9_2836 _ he2841) rfl)) ?_
         refine DT 11 [[7]] rfl rfl (fun _ hz => (.fn rfl)) ?_
         refine DAny.only (i := 12) rfl (by kernel_rfl) (.store (z := Obj.box [V.int .i64 x_2840.Kind, V.int .i64 x_2840.Pc, V.int .i64 x_2840.V, V.int .i64 x_2840.T, V.int .i64 x_2840.B, V.bool x_2840.Won, V.int .i64 x_2840.State]) rfl rfl rfl rfl rfl rfl rfl (.boxM (c := 7) rfl rfl (Nat.le_of_ble_eq_true rfl) rfl) rfl ?_)
         refine DT 13 [[7]] rfl rfl (fun _ hz => (.fn rfl)) ?_
         refine DAny.nil (by kernel_rfl) ?_
         repeat (first | refine sq ?_ | refine sk ?_ | with_reducible first | refine tn ?_ | refine bn ?_)
         refine Safe.freeze [151, 0] rfl ?_
         refine Safe.see 6 (u := V.sl 1 (rws (fun n => [V.int .i64 n]) x_2838)) rfl (.full rfl rfl) ?_
         refine Safe.ret ?_
         repeat (first | with_reducible refine thenQ.r ?_ | with_reducible refine blockQ.r ?_)
         obtain rfl := Option.some.inj h
         exact retQ.gen (vs := [V.sl 1 (rws (fun n => [V.int .i64 n]) x_2838), V.agg [V.int .i64 x_2840.Kind, V.int .i64 x_2840.Pc, V.int .i64 x_2840.V, V.int .i64 x_2840.T, V.int .i64 x_2840.B, V.bool x_2840.Won, V.int .i64 x_2840.State], V.bool true]) rfl (.tmp (v := V.sl 1 (rws (fun n => [V.int .i64 n]) x_2838)) rfl (.cell (v := V.agg [V.int .i64 x_2840.Kind, V.int .i64 x_2840.Pc, V.int .i64 x_2840.V, V.int .i64 x_2840.T, V.int .i64 x_2840.B, V.bool x_2840.Won, V.int .i64 x_2840.State]) rfl rfl (.box rfl rfl) rfl (.tmp (v := V.bool true) rfl .nil))) (.free rfl) (by simp) (.inr rfl)
        ·skip
         refine ifG h (fun hc2842 h => ?_) (fun hc2842 h => ?_)
         ·skip
          refine Safe.condK rfl hc2842 ?_
          repeat (first | refine sq ?_ | refine sk ?_ | with_reducible first | refine tn ?_ | refine bn ?_)
          refine Safe.region ?_
          refine Qf E_good ?_
          refine SafeOps.nil ?_
          repeat (first | refine Safe.skip ?_ | with_reducible refine thenQ.n ?_ | with_reducible refine blockQ.n ?_)
          exact Safe.got (HJ2837 (1) h) (.cov ⟨rfl, rfl, (ut (ut (ut (ut (ut upT_nil))))), (uo (uo (uo upOb_nil))), upOut_nil, rfl⟩)
         ·skip
          refine Safe.condN rfl hc2842 ?_
          repeat (first | refine Safe.skip ?_ | with_reducible refine thenQ.n ?_ | with_reducible refine blockQ.n ?_)
          exact Safe.got (HJ2837 (2) h) (.cov ⟨rfl, rfl, (ut (ut (ut (ut (ut upT_nil))))), (uo (uo (uo upOb_nil))), upOut_nil, rfl⟩)

noncomputable def go_ravelref07_steal (a0_2847 : List Int) (a1_2848 : api_Deque) (a2_2849 : api_Hand) : Option ((List Int) × api_Hand × Bool) :=
 if (a2_2849.Pc == 0) = true then
  if 0 ≤ a1_2848.Base ∧ a1_2848.Base < (a0_2847.length : Int) then
   letO (go_ravelref07_at (api_Hand.mk a2_2849.Kind a2_2849.Pc a2_2849.V (gt a0_2847 a1_2848.Base) a2_2849.B a2_2849.Won a2_2849.State) 1) fun x_2913 =>
   some (a0_2847, x_2913, go_ravelref07_count (gt a0_2847 a1_2848.Base) 0)
  else none
 else
  if (a2_2849.Pc == 1) = true then
   if 0 ≤ (IntKind.i64.wrap (a1_2848.Base + 1)) ∧ (IntKind.i64.wrap (a1_2848.Base + 1)) < (a0_2847.length : Int) then
    if (decide ((IntKind.i64.wrap ((gt a0_2847 (IntKind.i64.wrap (a1_2848.Base + 1))) - a2_2849.T)) < 1)) = true then
     letO (go_ravelref07_ended (api_Hand.mk a2_2849.Kind a2_2849.Pc a2_2849.V a2_2849.T (gt a0_2847 (IntKind.i64.wrap (a1_2848.Base + 1))) a2_2849.Won a2_2849.State) 2) fun x_2928 =>
     some (a0_2847, x_2928, go_ravelref07_count (gt a0_2847 (IntKind.i64.wrap (a1_2848.Base + 1))) (-1))
    else
     letO (go_ravelref07_at (api_Hand.mk a2_2849.Kind a2_2849.Pc a2_2849.V a2_2849.T (gt a0_2847 (IntKind.i64.wrap (a1_2848.Base + 1))) a2_2849.Won a2_2849.State) 2) fun x_2930 =>
     some (a0_2847, x_2930, go_ravelref07_count (gt a0_2847 (IntKind.i64.wrap (a1_2848.Base + 1))) (-1))
   else none
  else
   if (decide (a2_2849.T < 0)) = true then
    some ([], a2_2849, false)
   else
    if (a2_2849.Pc == 2) = true then
     (go_ravelref07_slot a1_2848 a2_2849.T).bind fun x_2939 =>
     if 0 ≤ x_2939 ∧ x_2939 < (a0_2847.length : Int) then
      letO (go_ravelref07_at (api_Hand.mk a2_2849.Kind a2_2849.Pc (gt a0_2847 x_2939) a2_2849.T a2_2849.B a2_2849.Won a2_2849.State) 3) fun x_2942 =>
      some (a0_2847, x_2942, true)
     else none
    else
     if 0 ≤ a1_2848.Base ∧ a1_2848.Base < (a0_2847.length : Int) then
      if ((gt a0_2847 a1_2848.Base) != a2_2849.T) = true then
       letO (go_ravelref07_ended a2_2849 4) fun x_2948 =>
       some (a0_2847, x_2948, true)
      else
       (go_ravelref01_With a0_2847 a1_2848.Base (IntKind.i64.wrap (a2_2849.T + 1))).bind fun x_2950 =>
       letO (go_ravelref07_ended a2_2849 1) fun x_2952 =>
       some (x_2950, x_2952, true)
     else none

theorem go_ravelref07_steal_sc (a0_2847 : List Int) (a1_2848 : api_Deque) (a2_2849 : api_Hand) (r : (List Int) × api_Hand × Bool) (h : go_ravelref07_steal a0_2847 a1_2848 a2_2849 = some r) : SC Try.prog gl 26 [V.sl 1 (rws (fun n => [V.int .i64 n]) a0_2847), V.agg [V.int .i64 a1_2848.Base, V.int .i64 a1_2848.Cap], V.agg [V.int .i64 a2_2849.Kind, V.int .i64 a2_2849.Pc, V.int .i64 a2_2849.V, V.int .i64 a2_2849.T, V.int .i64 a2_2849.B, V.bool a2_2849.Won, V.int .i64 a2_2849.State]] (V.tup [V.sl 1 (rws (fun n => [V.int .i64 n]) r.1), V.agg [V.int .i64 r.2.1.Kind, V.int .i64 r.2.1.Pc, V.int .i64 r.2.1.V, V.int .i64 r.2.1.T, V.int .i64 r.2.1.B, V.bool r.2.1.Won, V.int .i64 r.2.1.State], V.bool r.2.2]) := by
 rw [go_ravelref07_steal] at h
 refine SC.of E_good Try.func26 rfl (fun _ _ => Try.call26 _ _) rfl ?_
 repeat (first | refine sq ?_ | refine sk ?_ | with_reducible first | refine tn ?_ | refine bn ?_)
 refine Safe.region ?_
 refine SafeOps.quiet1 E_good rfl rfl rfl (.box rfl rfl) rfl ?_
 refine SafeOps.quiet1 E_good rfl rfl rfl (.box rfl rfl) rfl ?_
 refine Qf E_good ?_
 refine SafeOps.quiet1 E_good rfl rfl rfl (.alloc rfl rfl) rfl ?_
 refine Qf E_good ?_
 refine SafeOps.nil ?_
 repeat (first | refine sq ?_ | refine sk ?_ | with_reducible first | refine tn ?_ | refine bn ?_)
 refine Safe.region ?_
 refine Q0 E_good rfl (v := V.ptr [5] 0 1) (.fn rfl) ?_
 refine Q0 E_good rfl (v := V.int .i64 a2_2849.Pc) (.load rfl rfl (.box rfl rfl) rfl) ?_
 refine Q0 E_good rfl (v := V.bool (a2_2849.Pc == 0)) (.fn rfl) ?_
 refine SafeOps.nil ?_
 repeat (first | refine sq ?_ | refine sk ?_ | with_reducible first | refine tn ?_ | refine bn ?_)
 refine ifG h (fun hc2911 h => ?_) (fun hc2911 h => ?_)
 ·skip
  refine Safe.condK rfl hc2911 ?_
  repeat (first | refine sq ?_ | refine sk ?_ | with_reducible first | refine tn ?_ | refine bn ?_)
  refine Safe.region ?_
  refine Qf E_good ?_
  refine Q0 E_good rfl (v := V.ptr [4] 0 0) (.fn rfl) ?_
  refine Q0 E_good rfl (v := V.int .i64 a1_2848.Base) (.load rfl rfl (.box rfl rfl) rfl) ?_
  refine okG h (fun hb2912 h => ?_)
  refine Q0 E_good rfl (v := V.spt 1 (rws (fun n => [V.int .i64 n]) a0_2847) (Int.toNat a1_2848.Base) 0) (.idxSlM (f := (fun n => [V.int .i64 n])) rfl rfl rfl rfl rfl hb2912) ?_
  refine Q0 E_good rfl (v := V.int .i64 (gt a0_2847 a1_2848.Base)) (.load rfl rfl (.sptM (f := (fun n => [V.int .i64 n])) hb2912 rfl) rfl) ?_
  refine Q0 E_good rfl (v := V.ptr [5] 0 3) (.fn rfl) ?_
  refine SafeOps.store (z := Obj.box [V.int .i64 a2_2849.Kind, V.int .i64 a2_2849.Pc, V.int .i64 a2_2849.V, V.int .i64 (gt a0_2847 a1_2848.Base), V.int .i64 a2_2849.B, V.bool a2_2849.Won, V.int .i64 a2_2849.State]) E_good rfl rfl rfl rfl rfl rfl rfl (.boxM (c := 7) rfl rfl (Nat.le_of_ble_eq_true rfl) rfl) ?_
  refine SafeOps.nil ?_
  repeat (first | refine sq ?_ | refine sk ?_ | with_reducible first | refine tn ?_ | refine bn ?_)
  refine Safe.regionD (n := 9) [(7, [7])] [] E_good mixed rfl ?_
  refine DT 0 [[7]] rfl rfl (fun _ hz => (.fn rfl)) ?_
  refine DT 1 [[7]] rfl rfl (v := V.agg [V.int .i64 a2_2849.Kind, V.int .i64 a2_2849.Pc, V.int .i64 a2_2849.V, V.int .i64 (gt a0_2847 a1_2848.Base), V.int .i64 a2_2849.B, V.bool a2_2849.Won, V.int .i64 a2_2849.State]) (fun _ hz => (.load rfl rfl (.box (hz _ _ rfl rfl) rfl) rfl)) ?_
  refine letG h ?_
  intro x_2913 he2914 h
  refine DT 2 [[7]] rfl rfl (v := V.agg [V.int .i64 x_2913.Kind, V.int .i64 x_2913.Pc, V.int .i64 x_2913.V, V.int .i64 x_2913.T, V.int .i64 x_2913.B, V.bool x_2913.Won, V.int .i64 x_2913.State]) (fun _ hz => (.callP rfl rfl (go_ravelref07_at_sc (api_Hand.mk a2_2849.Kind a2_2849.Pc a2_2849.V (gt a0_2847 a1_2848.Base) a2_2849.B a2_2849.Won a2_2849.State) 1 _ he2914) rfl)) ?_
  refine DT 3 [[7]] rfl rfl (v := V.ptr [5] 0 3) (fun _ hz => (.fn rfl)) ?_
  refine DT 4 [[7]] rfl rfl (v := V.int .i64 (gt a0_2847 a1_2848.Base)) (fun _ hz => (.load rfl rfl (.box (hz _ _ rfl rfl) rfl) rfl)) ?_
  refine DT 5 [[7]] rfl rfl (v := V.bool (go_ravelref07_count (gt a0_2847 a1_2848.Base) 0)) (fun _ hz => (.callP rfl rfl (go_ravelref07_count_sc (gt a0_2847 a1_2848.Base) 0 _ rfl) rfl)) ?_
  refine DT 6 [[7]] rfl rfl (fun _ hz => (.fn rfl)) ?_
  refine DAny.only (i := 7) rfl (by kernel_rfl) (.store (z := Obj.box [V.int .i64 x_2913.Kind, V.int .i64 x_2913.Pc, V.int .i64 x_2913.V, V.int .i64 x_2913.T, V.int .i64 x_2913.B, V.bool x_2913.Won, V.int .i64 x_2913.State]) rfl rfl rfl rfl rfl rfl rfl (.boxM (c := 7) rfl rfl (Nat.le_of_ble_eq_true rfl) rfl) rfl ?_)
  refine DT 8 [[7]] rfl rfl (fun _ hz => (.fn rfl)) ?_
  refine DAny.nil (by kernel_rfl) ?_
  repeat (first | refine sq ?_ | refine sk ?_ | with_reducible first | refine tn ?_ | refine bn ?_)
  refine Safe.ret ?_
  repeat (first | with_reducible refine thenQ.r ?_ | with_reducible refine blockQ.r ?_)
  obtain rfl := Option.some.inj h
  exact retQ.gen (vs := [V.sl 1 (rws (fun n => [V.int .i64 n]) a0_2847), V.agg [V.int .i64 x_2913.Kind, V.int .i64 x_2913.Pc, V.int .i64 x_2913.V, V.int .i64 x_2913.T, V.int .i64 x_2913.B, V.bool x_2913.Won, V.int .i64 x_2913.State], V.bool (go_ravelref07_count (gt a0_2847 a1_2848.Base) 0)]) rfl (.tmp (v := V.sl 1 (rws (fun n => [V.int .i64 n]) a0_2847)) rfl (.cell (v := V.agg [V.int .i64 x_2913.Kind, V.int .i64 x_2913.Pc, V.int .i64 x_2913.V, V.int .i64 x_2913.T, V.int .i64 x_2913.B, V.bool x_2913.Won, V.int .i64 x_2913.State]) rfl rfl (.box rfl rfl) rfl (.tmp (v := V.bool (go_ravelref07_count (gt a0_2847 a1_2848.Base) 0)) rfl .nil))) (.free rfl) (by simp) (.inr rfl)
 ·skip
  refine Safe.condN rfl hc2911 ?_
  repeat (first | refine sq ?_ | refine sk ?_ | with_reducible first | refine tn ?_ | refine bn ?_)
  refine Safe.region ?_
  refine Q0 E_good rfl (v := V.ptr [5] 0 1) (.fn rfl) ?_
  refine Q0 E_good rfl (v := V.int .i64 a2_2849.Pc) (.load rfl rfl (.box rfl rfl) rfl) ?_
  refine Q0 E_good rfl (v := V.bool (a2_2849.Pc == 1)) (.fn rfl) ?_
  refine SafeOps.nil ?_
  repeat (first | refine sq ?_ | refine sk ?_ | with_reducible first | refine tn ?_ | refine bn ?_)
  refine ifG h (fun hc2923 h => ?_) (fun hc2923 h => ?_)
  ·skip
   refine Safe.condK rfl hc2923 ?_
   repeat (first | refine sq ?_ | refine sk ?_ | with_reducible first | refine tn ?_ | refine bn ?_)
   refine Safe.region ?_
   refine Qf E_good ?_
   refine Q0 E_good rfl (v := V.ptr [4] 0 0) (.fn rfl) ?_
   refine Q0 E_good rfl (v := V.int .i64 a1_2848.Base) (.load rfl rfl (.box rfl rfl) rfl) ?_
   refine Q0 E_good rfl (v := V.int .i64 (IntKind.i64.wrap (a1_2848.Base + 1))) (.fn rfl) ?_
   refine okG h (fun hb2924 h => ?_)
   refine Q0 E_good rfl (v := V.spt 1 (rws (fun n => [V.int .i64 n]) a0_2847) (Int.toNat (IntKind.i64.wrap (a1_2848.Base + 1))) 0) (.idxSlM (f := (fun n => [V.int .i64 n])) rfl rfl rfl rfl rfl hb2924) ?_
   refine Q0 E_good rfl (v := V.int .i64 (gt a0_2847 (IntKind.i64.wrap (a1_2848.Base + 1)))) (.load rfl rfl (.sptM (f := (fun n => [V.int .i64 n])) hb2924 rfl) rfl) ?_
   refine Q0 E_good rfl (v := V.ptr [5] 0 4) (.fn rfl) ?_
   refine SafeOps.store (z := Obj.box [V.int .i64 a2_2849.Kind, V.int .i64 a2_2849.Pc, V.int .i64 a2_2849.V, V.int .i64 a2_2849.T, V.int .i64 (gt a0_2847 (IntKind.i64.wrap (a1_2848.Base + 1))), V.bool a2_2849.Won, V.int .i64 a2_2849.State]) E_good rfl rfl rfl rfl rfl rfl rfl (.boxM (c := 7) rfl rfl (Nat.le_of_ble_eq_true rfl) rfl) ?_
   refine SafeOps.nil ?_
   repeat (first | refine sq ?_ | refine sk ?_ | with_reducible first | refine tn ?_ | refine bn ?_)
   refine Safe.region ?_
   refine Q0 E_good rfl (v := V.ptr [5] 0 4) (.fn rfl) ?_
   refine Q0 E_good rfl (v := V.int .i64 (gt a0_2847 (IntKind.i64.wrap (a1_2848.Base + 1)))) (.load rfl rfl (.box rfl rfl) rfl) ?_
   refine Q0 E_good rfl (v := V.ptr [5] 0 3) (.fn rfl) ?_
   refine Q0 E_good rfl (v := V.int .i64 a2_2849.T) (.load rfl rfl (.box rfl rfl) rfl) ?_
   refine Q0 E_good rfl (v := V.int .i64 (IntKind.i64.wrap ((gt a0_2847 (IntKind.i64.wrap (a1_2848.Base + 1))) - a2_2849.T))) (.fn rfl) ?_
   refine Q0 E_good rfl (v := V.bool (decide ((IntKind.i64.wrap ((gt a0_2847 (IntKind.i64.wrap (a1_2848.Base + 1))) - a2_2849.T)) < 1))) (.fn rfl) ?_
   refine SafeOps.nil ?_
   repeat (first | refine sq ?_ | refine sk ?_ | with_reducible first | refine tn ?_ | refine bn ?_)
   refine ifG h (fun hc2927 h => ?_) (fun hc2927 h => ?_)
   ·skip
    refine Safe.condK rfl hc2927 ?_
    repeat (first | refine sq ?_ | refine sk ?_ | with_reducible first | refine tn ?_ | refine bn ?_)
    refine Safe.regionD (n := 9) [(7, [7])] [] E_good mixed rfl ?_
    refine DT 0 [[7]] rfl rfl (fun _ hz => (.fn rfl)) ?_
    refine DT 1 [[7]] rfl rfl (v := V.agg [V.int .i64 a2_2849.Kind, V.int .i64 a2_2849.Pc, V.int .i64 a2_2849.V, V.int .i64 a2_2849.T, V.int .i64 (gt a0_2847 (IntKind.i64.wrap (a1_2848.Base + 1))), V.bool a2_2849.Won, V.int .i64 a2_2849.State]) (fun _ hz => (.load rfl rfl (.box (hz _ _ rfl rfl) rfl) rfl)) ?_
    refine letG h ?_
    intro x_2928 he2929 h
    refine DT 2 [[7]] rfl rfl (v := V.agg [V.int .i64 x_2928.Kind, V.int .i64 x_2928.Pc, V.int .i64 x_2928.V, V.int .i64 x_2928.T, V.int .i64 x_2928.B, V.bool x_2928.Won, V.int .i64 x_2928.State]) (fun _ hz => (.callP rfl rfl (go_ravelref07_ended_sc (api_Hand.mk a2_2849.Kind a2_2849.Pc a2_2849.V a2_2849.T (gt a0_2847 (IntKind.i64.wrap (a1_2848.Base + 1))) a2_2849.Won a2_2849.State) 2 _ he2929) rfl)) ?_
    refine DT 3 [[7]] rfl rfl (v := V.ptr [5] 0 4) (fun _ hz => (.fn rfl)) ?_
    refine DT 4 [[7]] rfl rfl (v := V.int .i64 (gt a0_2847 (IntKind.i64.wrap (a1_2848.Base + 1)))) (fun _ hz => (.load rfl rfl (.box (hz _ _ rfl rfl) rfl) rfl)) ?_
    refine DT 5 [[7]] rfl rfl (v := V.bool (go_ravelref07_count (gt a0_2847 (IntKind.i64.wrap (a1_2848.Base + 1))) (-1))) (fun _ hz => (.callP rfl rfl (go_ravelref07_count_sc (gt a0_2847 (IntKind.i64.wrap (a1_2848.Base + 1))) (-1) _ rfl) rfl)) ?_
    refine DT 6 [[7]] rfl rfl (fun _ hz => (.fn rfl)) ?_
    refine DAny.only (i := 7) rfl (by kernel_rfl) (.store (z := Obj.box [V.int .i64 x_2928.Kind, V.int .i64 x_2928.Pc, V.int .i64 x_2928.V, V.int .i64 x_2928.T, V.int .i64 x_2928.B, V.bool x_2928.Won, V.int .i64 x_2928.State]) rfl rfl rfl rfl rfl rfl rfl (.boxM (c := 7) rfl rfl (Nat.le_of_ble_eq_true rfl) rfl) rfl ?_)
    refine DT 8 [[7]] rfl rfl (fun _ hz => (.fn rfl)) ?_
    refine DAny.nil (by kernel_rfl) ?_
    repeat (first | refine sq ?_ | refine sk ?_ | with_reducible first | refine tn ?_ | refine bn ?_)
    refine Safe.ret ?_
    repeat (first | with_reducible refine thenQ.r ?_ | with_reducible refine blockQ.r ?_)
    obtain rfl := Option.some.inj h
    exact retQ.gen (vs := [V.sl 1 (rws (fun n => [V.int .i64 n]) a0_2847), V.agg [V.int .i64 x_2928.Kind, V.int .i64 x_2928.Pc, V.int .i64 x_2928.V, V.int .i64 x_2928.T, V.int .i64 x_2928.B, V.bool x_2928.Won, V.int .i64 x_2928.State], V.bool (go_ravelref07_count (gt a0_2847 (IntKind.i64.wrap (a1_2848.Base + 1))) (-1))]) rfl (.tmp (v := V.sl 1 (rws (fun n => [V.int .i64 n]) a0_2847)) rfl (.cell (v := V.agg [V.int .i64 x_2928.Kind, V.int .i64 x_2928.Pc, V.int .i64 x_2928.V, V.int .i64 x_2928.T, V.int .i64 x_2928.B, V.bool x_2928.Won, V.int .i64 x_2928.State]) rfl rfl (.box rfl rfl) rfl (.tmp (v := V.bool (go_ravelref07_count (gt a0_2847 (IntKind.i64.wrap (a1_2848.Base + 1))) (-1))) rfl .nil))) (.free rfl) (by simp) (.inr rfl)
   ·skip
    refine Safe.condN rfl hc2927 ?_
    repeat (first | refine sq ?_ | refine sk ?_ | with_reducible first | refine tn ?_ | refine bn ?_)
    refine Safe.regionD (n := 9) [(7, [7])] [] E_good mixed rfl ?_
    refine DT 0 [[7]] rfl rfl (fun _ hz => (.fn rfl)) ?_
    refine DT 1 [[7]] rfl rfl (v := V.agg [V.int .i64 a2_2849.Kind, V.int .i64 a2_2849.Pc, V.int .i64 a2_2849.V, V.int .i64 a2_2849.T, V.int .i64 (gt a0_2847 (IntKind.i64.wrap (a1_2848.Base + 1))), V.bool a2_2849.Won, V.int .i64 a2_2849.State]) (fun _ hz => (.load rfl rfl (.box (hz _ _ rfl rfl) rfl) rfl)) ?_
    refine letG h ?_
    intro x_2930 he2931 h
    refine DT 2 [[7]] rfl rfl (v := V.agg [V.int .i64 x_2930.Kind, V.int .i64 x_2930.Pc, V.int .i64 x_2930.V, V.int .i64 x_2930.T, V.int .i64 x_2930.B, V.bool x_2930.Won, V.int .i64 x_2930.State]) (fun _ hz => (.callP rfl rfl (go_ravelref07_at_sc (api_Hand.mk a2_2849.Kind a2_2849.Pc a2_2849.V a2_2849.T (gt a0_2847 (IntKind.i64.wrap (a1_2848.Base + 1))) a2_2849.Won a2_2849.State) 2 _ he2931) rfl)) ?_
    refine DT 3 [[7]] rfl rfl (v := V.ptr [5] 0 4) (fun _ hz => (.fn rfl)) ?_
    refine DT 4 [[7]] rfl rfl (v := V.int .i64 (gt a0_2847 (IntKind.i64.wrap (a1_2848.Base + 1)))) (fun _ hz => (.load rfl rfl (.box (hz _ _ rfl rfl) rfl) rfl)) ?_
    refine DT 5 [[7]] rfl rfl (v := V.bool (go_ravelref07_count (gt a0_2847 (IntKind.i64.wrap (a1_2848.Base + 1))) (-1))) (fun _ hz => (.callP rfl rfl (go_ravelref07_count_sc (gt a0_2847 (IntKind.i64.wrap (a1_2848.Base + 1))) (-1) _ rfl) rfl)) ?_
    refine DT 6 [[7]] rfl rfl (fun _ hz => (.fn rfl)) ?_
    refine DAny.only (i := 7) rfl (by kernel_rfl) (.store (z := Obj.box [V.int .i64 x_2930.Kind, V.int .i64 x_2930.Pc, V.int .i64 x_2930.V, V.int .i64 x_2930.T, V.int .i64 x_2930.B, V.bool x_2930.Won, V.int .i64 x_2930.State]) rfl rfl rfl rfl rfl rfl rfl (.boxM (c := 7) rfl rfl (Nat.le_of_ble_eq_true rfl) rfl) rfl ?_)
    refine DT 8 [[7]] rfl rfl (fun _ hz => (.fn rfl)) ?_
    refine DAny.nil (by kernel_rfl) ?_
    repeat (first | refine sq ?_ | refine sk ?_ | with_reducible first | refine tn ?_ | refine bn ?_)
    refine Safe.ret ?_
    repeat (first | with_reducible refine thenQ.r ?_ | with_reducible refine blockQ.r ?_)
    obtain rfl := Option.some.inj h
    exact retQ.gen (vs := [V.sl 1 (rws (fun n => [V.int .i64 n]) a0_2847), V.agg [V.int .i64 x_2930.Kind, V.int .i64 x_2930.Pc, V.int .i64 x_2930.V, V.int .i64 x_2930.T, V.int .i64 x_2930.B, V.bool x_2930.Won, V.int .i64 x_2930.State], V.bool (go_ravelref07_count (gt a0_2847 (IntKind.i64.wrap (a1_2848.Base + 1))) (-1))]) rfl (.tmp (v := V.sl 1 (rws (fun n => [V.int .i64 n]) a0_2847)) rfl (.cell (v := V.agg [V.int .i64 x_2930.Kind, V.int .i64 x_2930.Pc, V.int .i64 x_2930.V, V.int .i64 x_2930.T, V.int .i64 x_2930.B, V.bool x_2930.Won, V.int .i64 x_2930.State]) rfl rfl (.box rfl rfl) rfl (.tmp (v := V.bool (go_ravelref07_count (gt a0_2847 (IntKind.i64.wrap (a1_2848.Base + 1))) (-1))) rfl .nil))) (.free rfl) (by simp) (.inr rfl)
  ·skip
   refine Safe.condN rfl hc2923 ?_
   repeat (first | refine sq ?_ | refine sk ?_ | with_reducible first | refine tn ?_ | refine bn ?_)
   refine Safe.region ?_
   refine Q0 E_good rfl (v := V.ptr [5] 0 3) (.fn rfl) ?_
   refine Q0 E_good rfl (v := V.int .i64 a2_2849.T) (.load rfl rfl (.box rfl rfl) rfl) ?_
   refine Q0 E_good rfl (v := V.bool (decide (a2_2849.T < 0))) (.fn rfl) ?_
   refine SafeOps.nil ?_
   repeat (first | refine sq ?_ | refine sk ?_ | with_reducible first | refine tn ?_ | refine bn ?_)
   refine ifG h (fun hc2932 h => ?_) (fun hc2932 h => ?_)
   ·skip
    refine Safe.condK rfl hc2932 ?_
    repeat (first | refine sq ?_ | refine sk ?_ | with_reducible first | refine tn ?_ | refine bn ?_)
    refine Safe.regionD (n := 4) [(2, [7])] [] E_good mixed rfl ?_
    refine DT 0 [[7]] rfl rfl (v := V.agg [V.int .i64 a2_2849.Kind, V.int .i64 a2_2849.Pc, V.int .i64 a2_2849.V, V.int .i64 a2_2849.T, V.int .i64 a2_2849.B, V.bool a2_2849.Won, V.int .i64 a2_2849.State]) (fun _ hz => (.load rfl rfl (.box (hz _ _ rfl rfl) rfl) rfl)) ?_
    refine DT 1 [[7]] rfl rfl (fun _ hz => (.fn rfl)) ?_
    refine DAny.only (i := 2) rfl (by kernel_rfl) (.store (z := Obj.box [V.int .i64 a2_2849.Kind, V.int .i64 a2_2849.Pc, V.int .i64 a2_2849.V, V.int .i64 a2_2849.T, V.int .i64 a2_2849.B, V.bool a2_2849.Won, V.int .i64 a2_2849.State]) rfl rfl rfl rfl rfl rfl rfl (.boxM (c := 7) rfl rfl (Nat.le_of_ble_eq_true rfl) rfl) rfl ?_)
    refine DT 3 [[7]] rfl rfl (fun _ hz => (.fn rfl)) ?_
    refine DAny.nil (by kernel_rfl) ?_
    repeat (first | refine sq ?_ | refine sk ?_ | with_reducible first | refine tn ?_ | refine bn ?_)
    refine Safe.see 6 (u := V.sl 1 (rws (fun n => [V.int .i64 n]) [])) rfl (.nils _) ?_
    refine Safe.ret ?_
    repeat (first | with_reducible refine thenQ.r ?_ | with_reducible refine blockQ.r ?_)
    obtain rfl := Option.some.inj h
    exact retQ.gen (vs := [V.sl 1 (rws (fun n => [V.int .i64 n]) []), V.agg [V.int .i64 a2_2849.Kind, V.int .i64 a2_2849.Pc, V.int .i64 a2_2849.V, V.int .i64 a2_2849.T, V.int .i64 a2_2849.B, V.bool a2_2849.Won, V.int .i64 a2_2849.State], V.bool false]) rfl (.tmp (v := V.sl 1 (rws (fun n => [V.int .i64 n]) [])) rfl (.cell (v := V.agg [V.int .i64 a2_2849.Kind, V.int .i64 a2_2849.Pc, V.int .i64 a2_2849.V, V.int .i64 a2_2849.T, V.int .i64 a2_2849.B, V.bool a2_2849.Won, V.int .i64 a2_2849.State]) rfl rfl (.box rfl rfl) rfl (.tmp (v := V.bool false) rfl .nil))) (.free rfl) (by simp) (.inr rfl)
   ·skip
    refine Safe.condN rfl hc2932 ?_
    repeat (first | refine sq ?_ | refine sk ?_ | with_reducible first | refine tn ?_ | refine bn ?_)
    refine Safe.region ?_
    refine Q0 E_good rfl (v := V.ptr [5] 0 1) (.fn rfl) ?_
    refine Q0 E_good rfl (v := V.int .i64 a2_2849.Pc) (.load rfl rfl (.box rfl rfl) rfl) ?_
    refine Q0 E_good rfl (v := V.bool (a2_2849.Pc == 2)) (.fn rfl) ?_
    refine SafeOps.nil ?_
    repeat (first | refine sq ?_ | refine sk ?_ | with_reducible first | refine tn ?_ | refine bn ?_)
    refine ifG h (fun hc2938 h => ?_) (fun hc2938 h => ?_)
    ·skip
     refine Safe.condK rfl hc2938 ?_
     repeat (first | refine sq ?_ | refine sk ?_ | with_reducible first | refine tn ?_ | refine bn ?_)
     refine Safe.region ?_
     refine Qf E_good ?_
     refine Q0 E_good rfl (v := V.agg [V.int .i64 a1_2848.Base, V.int .i64 a1_2848.Cap]) (.load rfl rfl (.box rfl rfl) rfl) ?_
     refine Q0 E_good rfl (v := V.ptr [5] 0 3) (.fn rfl) ?_
     refine Q0 E_good rfl (v := V.int .i64 a2_2849.T) (.load rfl rfl (.box rfl rfl) rfl) ?_
     refine bindG h ?_
     intro x_2939 he2940 h
     refine Q0 E_good rfl (v := V.int .i64 x_2939) (.callP rfl rfl (go_ravelref07_slot_sc a1_2848 a2_2849.T _ he2940) rfl) ?_
     refine okG h (fun hb2941 h => ?_)
     refine Q0 E_good rfl (v := V.spt 1 (rws (fun n => [V.int .i64 n]) a0_2847) (Int.toNat x_2939) 0) (.idxSlM (f := (fun n => [V.int .i64 n])) rfl rfl rfl rfl rfl hb2941) ?_
     refine Q0 E_good rfl (v := V.int .i64 (gt a0_2847 x_2939)) (.load rfl rfl (.sptM (f := (fun n => [V.int .i64 n])) hb2941 rfl) rfl) ?_
     refine Q0 E_good rfl (v := V.ptr [5] 0 2) (.fn rfl) ?_
     refine SafeOps.store (z := Obj.box [V.int .i64 a2_2849.Kind, V.int .i64 a2_2849.Pc, V.int .i64 (gt a0_2847 x_2939), V.int .i64 a2_2849.T, V.int .i64 a2_2849.B, V.bool a2_2849.Won, V.int .i64 a2_2849.State]) E_good rfl rfl rfl rfl rfl rfl rfl (.boxM (c := 7) rfl rfl (Nat.le_of_ble_eq_true rfl) rfl) ?_
     refine SafeOps.nil ?_
     repeat (first | refine sq ?_ | refine sk ?_ | with_reducible first | refine tn ?_ | refine bn ?_)
     refine Safe.region ?_
     refine Qf E_good ?_
     refine Q0 E_good rfl (v := V.agg [V.int .i64 a2_2849.Kind, V.int .i64 a2_2849.Pc, V.int .i64 (gt a0_2847 x_2939), V.int .i64 a2_2849.T, V.int .i64 a2_2849.B, V.bool a2_2849.Won, V.int .i64 a2_2849.State]) (.load rfl rfl (.box rfl rfl) rfl) ?_
     refine letG h ?_
     intro x_2942 he2943 h
     refine Q0 E_good rfl (v := V.agg [V.int .i64 x_2942.Kind, V.int .i64 x_2942.Pc, V.int .i64 x_2942.V, V.int .i64 x_2942.T, V.int .i64 x_2942.B, V.bool x_2942.Won, V.int .i64 x_2942.State]) (.callP rfl rfl (go_ravelref07_at_sc (api_Hand.mk a2_2849.Kind a2_2849.Pc (gt a0_2847 x_2939) a2_2849.T a2_2849.B a2_2849.Won a2_2849.State) 3 _ he2943) rfl) ?_
     refine Qf E_good ?_
     refine SafeOps.store (z := Obj.box [V.int .i64 x_2942.Kind, V.int .i64 x_2942.Pc, V.int .i64 x_2942.V, V.int .i64 x_2942.T, V.int .i64 x_2942.B, V.bool x_2942.Won, V.int .i64 x_2942.State]) E_good rfl rfl rfl rfl rfl rfl rfl (.boxM (c := 7) rfl rfl (Nat.le_of_ble_eq_true rfl) rfl) ?_
     refine Qf E_good ?_
     refine SafeOps.nil ?_
     repeat (first | refine sq ?_ | refine sk ?_ | with_reducible first | refine tn ?_ | refine bn ?_)
     refine Safe.ret ?_
     repeat (first | with_reducible refine thenQ.r ?_ | with_reducible refine blockQ.r ?_)
     obtain rfl := Option.some.inj h
     exact retQ.gen (vs := [V.sl 1 (rws (fun n => [V.int .i64 n]) a0_2847), V.agg [V.int .i64 x_2942.Kind, V.int .i64 x_2942.Pc, V.int .i64 x_2942.V, V.int .i64 x_2942.T, V.int .i64 x_2942.B, V.bool x_2942.Won, V.int .i64 x_2942.State], V.bool true]) rfl (.tmp (v := V.sl 1 (rws (fun n => [V.int .i64 n]) a0_2847)) rfl (.cell (v := V.agg [V.int .i64 x_2942.Kind, V.int .i64 x_2942.Pc, V.int .i64 x_2942.V, V.int .i64 x_2942.T, V.int .i64 x_2942.B, V.bool x_2942.Won, V.int .i64 x_2942.State]) rfl rfl (.box rfl rfl) rfl (.tmp (v := V.bool true) rfl .nil))) (.free rfl) (by simp) (.inr rfl)
    ·skip
     refine Safe.condN rfl hc2938 ?_
     repeat (first | refine sq ?_ | refine sk ?_ | with_reducible first | refine tn ?_ | refine bn ?_)
     refine Safe.regionD (n := 8) [] [] E_good mixed rfl ?_
     refine DT 0 [] rfl rfl (fun _ hz => (.fn rfl)) ?_
     refine DT 1 [] rfl rfl (v := V.ptr [4] 0 0) (fun _ hz => (.fn rfl)) ?_
     refine DT 2 [] rfl rfl (v := V.int .i64 a1_2848.Base) (fun _ hz => (.load rfl rfl (.box (hz _ _ rfl rfl) rfl) rfl)) ?_
     refine okG h (fun hb2944 h => ?_)
     refine DT 3 [] rfl rfl (v := V.spt 1 (rws (fun n => [V.int .i64 n]) a0_2847) (Int.toNat a1_2848.Base) 0) (fun _ hz => (.idxSlM (f := (fun n => [V.int .i64 n])) rfl rfl rfl rfl rfl hb2944)) ?_
     refine DT 4 [] rfl rfl (v := V.int .i64 (gt a0_2847 a1_2848.Base)) (fun _ hz => (.load rfl rfl (.sptM (f := (fun n => [V.int .i64 n])) hb2944 rfl) rfl)) ?_
     refine DT 5 [] rfl rfl (v := V.ptr [5] 0 3) (fun _ hz => (.fn rfl)) ?_
     refine DT 6 [] rfl rfl (v := V.int .i64 a2_2849.T) (fun _ hz => (.load rfl rfl (.box (hz _ _ rfl rfl) rfl) rfl)) ?_
     refine DT 7 [] rfl rfl (v := V.bool ((gt a0_2847 a1_2848.Base) != a2_2849.T)) (fun _ hz => (.fn rfl)) ?_
     refine DAny.nil (by kernel_rfl) ?_
     repeat (first | refine sq ?_ | refine sk ?_ | with_reducible first | refine tn ?_ | refine bn ?_)
     refine ifG h (fun hc2947 h => ?_) (fun hc2947 h => ?_)
     ·skip
      refine Safe.condK rfl hc2947 ?_
      repeat (first | refine sq ?_ | refine sk ?_ | with_reducible first | refine tn ?_ | refine bn ?_)
      refine Safe.region ?_
      refine Qf E_good ?_
      refine Q0 E_good rfl (v := V.agg [V.int .i64 a2_2849.Kind, V.int .i64 a2_2849.Pc, V.int .i64 a2_2849.V, V.int .i64 a2_2849.T, V.int .i64 a2_2849.B, V.bool a2_2849.Won, V.int .i64 a2_2849.State]) (.load rfl rfl (.box rfl rfl) rfl) ?_
      refine letG h ?_
      intro x_2948 he2949 h
      refine Q0 E_good rfl (v := V.agg [V.int .i64 x_2948.Kind, V.int .i64 x_2948.Pc, V.int .i64 x_2948.V, V.int .i64 x_2948.T, V.int .i64 x_2948.B, V.bool x_2948.Won, V.int .i64 x_2948.State]) (.callP rfl rfl (go_ravelref07_ended_sc a2_2849 4 _ he2949) rfl) ?_
      refine Qf E_good ?_
      refine SafeOps.store (z := Obj.box [V.int .i64 x_2948.Kind, V.int .i64 x_2948.Pc, V.int .i64 x_2948.V, V.int .i64 x_2948.T, V.int .i64 x_2948.B, V.bool x_2948.Won, V.int .i64 x_2948.State]) E_good rfl rfl rfl rfl rfl rfl rfl (.boxM (c := 7) rfl rfl (Nat.le_of_ble_eq_true rfl) rfl) ?_
      refine Qf E_good ?_
      refine SafeOps.nil ?_
      repeat (first | refine sq ?_ | refine sk ?_ | with_reducible first | refine tn ?_ | refine bn ?_)
      refine Safe.ret ?_
      repeat (first | with_reducible refine thenQ.r ?_ | with_reducible refine blockQ.r ?_)
      obtain rfl := Option.some.inj h
      exact retQ.gen (vs := [V.sl 1 (rws (fun n => [V.int .i64 n]) a0_2847), V.agg [V.int .i64 x_2948.Kind, V.int .i64 x_2948.Pc, V.int .i64 x_2948.V, V.int .i64 x_2948.T, V.int .i64 x_2948.B, V.bool x_2948.Won, V.int .i64 x_2948.State], V.bool true]) rfl (.tmp (v := V.sl 1 (rws (fun n => [V.int .i64 n]) a0_2847)) rfl (.cell (v := V.agg [V.int .i64 x_2948.Kind, V.int .i64 x_2948.Pc, V.int .i64 x_2948.V, V.int .i64 x_2948.T, V.int .i64 x_2948.B, V.bool x_2948.Won, V.int .i64 x_2948.State]) rfl rfl (.box rfl rfl) rfl (.tmp (v := V.bool true) rfl .nil))) (.free rfl) (by simp) (.inr rfl)
     ·skip
      refine Safe.condN rfl hc2947 ?_
      repeat (first | refine sq ?_ | refine sk ?_ | with_reducible first | refine tn ?_ | refine bn ?_)
      refine Safe.regionD (n := 12) [(10, [7])] [] E_good mixed rfl ?_
      refine DT 0 [[7]] rfl rfl (fun _ hz => (.fn rfl)) ?_
      refine DT 1 [[7]] rfl rfl (v := V.ptr [4] 0 0) (fun _ hz => (.fn rfl)) ?_
      refine DT 2 [[7]] rfl rfl (v := V.int .i64 a1_2848.Base) (fun _ hz => (.load rfl rfl (.box (hz _ _ rfl rfl) rfl) rfl)) ?_
      refine DT 3 [[7]] rfl rfl (v := V.ptr [5] 0 3) (fun _ hz => (.fn rfl)) ?_
      refine DT 4 [[7]] rfl rfl (v := V.int .i64 a2_2849.T) (fun _ hz => (.load rfl rfl (.box (hz _ _ rfl rfl) rfl) rfl)) ?_
      refine DT 5 [[7]] rfl rfl (v := V.int .i64 (IntKind.i64.wrap (a2_2849.T + 1))) (fun _ hz => (.fn rfl)) ?_
      refine DT 7 [[7]] rfl rfl (v := V.agg [V.int .i64 a2_2849.Kind, V.int .i64 a2_2849.Pc, V.int .i64 a2_2849.V, V.int .i64 a2_2849.T, V.int .i64 a2_2849.B, V.bool a2_2849.Won, V.int .i64 a2_2849.State]) (fun _ hz => (.load rfl rfl (.box (hz _ _ rfl rfl) rfl) rfl)) ?_
      refine bindG h ?_
      intro x_2950 he2951 h
      refine DAny.only (i := 6) rfl (by kernel_rfl) (.quiet rfl rfl rfl (v := V.ref [87, 0] 0 (rws (fun n => [V.int .i64 n]) x_2950).length) (.callP rfl rfl (go_ravelref01_With_sc a0_2847 a1_2848.Base (IntKind.i64.wrap (a2_2849.T + 1)) _ he2951) rfl) rfl ?_)
      refine letG h ?_
      intro x_2952 he2953 h
      refine DT 8 [[7]] rfl rfl (v := V.agg [V.int .i64 x_2952.Kind, V.int .i64 x_2952.Pc, V.int .i64 x_2952.V, V.int .i64 x_2952.T, V.int .i64 x_2952.B, V.bool x_2952.Won, V.int .i64 x_2952.State]) (fun _ hz => (.callP rfl rfl (go_ravelref07_ended_sc a2_2849 1 _ he2953) rfl)) ?_
      refine DT 9 [[7]] rfl rfl (fun _ hz => (.fn rfl)) ?_
      refine DAny.only (i := 10) rfl (by kernel_rfl) (.store (z := Obj.box [V.int .i64 x_2952.Kind, V.int .i64 x_2952.Pc, V.int .i64 x_2952.V, V.int .i64 x_2952.T, V.int .i64 x_2952.B, V.bool x_2952.Won, V.int .i64 x_2952.State]) rfl rfl rfl rfl rfl rfl rfl (.boxM (c := 7) rfl rfl (Nat.le_of_ble_eq_true rfl) rfl) rfl ?_)
      refine DT 11 [[7]] rfl rfl (fun _ hz => (.fn rfl)) ?_
      refine DAny.nil (by kernel_rfl) ?_
      repeat (first | refine sq ?_ | refine sk ?_ | with_reducible first | refine tn ?_ | refine bn ?_)
      refine Safe.freeze [87, 0] rfl ?_
      refine Safe.see 6 (u := V.sl 1 (rws (fun n => [V.int .i64 n]) x_2950)) rfl (.full rfl rfl) ?_
      refine Safe.ret ?_
      repeat (first | with_reducible refine thenQ.r ?_ | with_reducible refine blockQ.r ?_)
      obtain rfl := Option.some.inj h
      exact retQ.gen (vs := [V.sl 1 (rws (fun n => [V.int .i64 n]) x_2950), V.agg [V.int .i64 x_2952.Kind, V.int .i64 x_2952.Pc, V.int .i64 x_2952.V, V.int .i64 x_2952.T, V.int .i64 x_2952.B, V.bool x_2952.Won, V.int .i64 x_2952.State], V.bool true]) rfl (.tmp (v := V.sl 1 (rws (fun n => [V.int .i64 n]) x_2950)) rfl (.cell (v := V.agg [V.int .i64 x_2952.Kind, V.int .i64 x_2952.Pc, V.int .i64 x_2952.V, V.int .i64 x_2952.T, V.int .i64 x_2952.B, V.bool x_2952.Won, V.int .i64 x_2952.State]) rfl rfl (.box rfl rfl) rfl (.tmp (v := V.bool true) rfl .nil))) (.free rfl) (by simp) (.inr rfl)

noncomputable def go_ravelref07_Step_j1 (v0_3000 : List Int) (v9_3001 : Bool) (v50_3002 : Int) (v51_3003 : Int) (v52_3004 : Int) (v53_3005 : Int) (v54_3006 : Int) (v55_3007 : Bool) (v56_3008 : Int) : Option ((List Int) × api_Hand × Int) :=
 if (!v9_3001) = true then
  some ([], api_Hand.zero, 9)
 else
  some (v0_3000, (api_Hand.mk v50_3002 v51_3003 v52_3004 v53_3005 v54_3006 v55_3007 v56_3008), 0)

noncomputable def go_ravelref07_Step (a0_2467 : List Int) (a1_2468 : api_Deque) (a2_2469 : api_Hand) : Option ((List Int) × api_Hand × Int) :=
 if (((go_ravelref07_Check a0_2467 a1_2468) != 0) || (!(go_ravelref07_May a2_2469))) = true then
  some ([], api_Hand.zero, 1)
 else
  if (a2_2469.State != 0) = true then
   some ([], api_Hand.zero, 9)
  else
   if few ([] ++ a0_2467).length then
    if (a2_2469.Kind == 1) = true then
     (go_ravelref07_push ([] ++ a0_2467) a1_2468 a2_2469).bind fun (x_3012, x_3013, x_3014) =>
     go_ravelref07_Step_j1 x_3012 x_3014 x_3013.Kind x_3013.Pc x_3013.V x_3013.T x_3013.B x_3013.Won x_3013.State
    else
     if (a2_2469.Kind == 2) = true then
      (go_ravelref07_pop ([] ++ a0_2467) a1_2468 a2_2469).bind fun (x_3017, x_3018, x_3019) =>
      go_ravelref07_Step_j1 x_3017 x_3019 x_3018.Kind x_3018.Pc x_3018.V x_3018.T x_3018.B x_3018.Won x_3018.State
     else
      (go_ravelref07_steal ([] ++ a0_2467) a1_2468 a2_2469).bind fun (x_3021, x_3022, x_3023) =>
      go_ravelref07_Step_j1 x_3021 x_3023 x_3022.Kind x_3022.Pc x_3022.V x_3022.T x_3022.B x_3022.Won x_3022.State
   else none

theorem go_ravelref07_Step_sc (a0_2467 : List Int) (a1_2468 : api_Deque) (a2_2469 : api_Hand) (r : (List Int) × api_Hand × Int) (h : go_ravelref07_Step a0_2467 a1_2468 a2_2469 = some r) : SC Try.prog gl 9 [V.sl 1 (rws (fun n => [V.int .i64 n]) a0_2467), V.agg [V.int .i64 a1_2468.Base, V.int .i64 a1_2468.Cap], V.agg [V.int .i64 a2_2469.Kind, V.int .i64 a2_2469.Pc, V.int .i64 a2_2469.V, V.int .i64 a2_2469.T, V.int .i64 a2_2469.B, V.bool a2_2469.Won, V.int .i64 a2_2469.State]] (V.tup [V.sl 1 (rws (fun n => [V.int .i64 n]) r.1), V.agg [V.int .i64 r.2.1.Kind, V.int .i64 r.2.1.Pc, V.int .i64 r.2.1.V, V.int .i64 r.2.1.T, V.int .i64 r.2.1.B, V.bool r.2.1.Won, V.int .i64 r.2.1.State], V.int .i64 r.2.2]) := by
 rw [go_ravelref07_Step] at h
 refine SC.of E_good Try.func9 rfl (fun _ _ => Try.call9 _ _) rfl ?_
 repeat (first | refine sq ?_ | refine sk ?_ | with_reducible first | refine tn ?_ | refine bn ?_)
 refine Safe.region ?_
 refine SafeOps.quiet1 E_good rfl rfl rfl (.box rfl rfl) rfl ?_
 refine SafeOps.quiet1 E_good rfl rfl rfl (.box rfl rfl) rfl ?_
 refine Qf E_good ?_
 refine SafeOps.quiet1 E_good rfl rfl rfl (.alloc rfl rfl) rfl ?_
 refine Qf E_good ?_
 refine SafeOps.nil ?_
 repeat (first | refine sq ?_ | refine sk ?_ | with_reducible first | refine tn ?_ | refine bn ?_)
 refine Safe.region ?_
 refine Qf E_good ?_
 refine Q0 E_good rfl (v := V.agg [V.int .i64 a1_2468.Base, V.int .i64 a1_2468.Cap]) (.load rfl rfl (.box rfl rfl) rfl) ?_
 refine Q0 E_good rfl (v := V.int .i64 (go_ravelref07_Check a0_2467 a1_2468)) (.callP rfl rfl (go_ravelref07_Check_sc a0_2467 a1_2468 _ rfl) rfl) ?_
 refine Q0 E_good rfl (v := V.bool ((go_ravelref07_Check a0_2467 a1_2468) != 0)) (.fn rfl) ?_
 refine Qf E_good ?_
 refine SafeOps.bjoin 4 18 (b := (((go_ravelref07_Check a0_2467 a1_2468) != 0) || (!(go_ravelref07_May a2_2469)))) (b1 := true) (b0 := (!(go_ravelref07_May a2_2469))) (fun hc2983 K => ?_) (fun hc2983 K => ?_) bj_or ?_
 ·skip
  refine SafeOps.skip (congrArg (fun b => some (!b)) hc2983) rfl rfl ?_
  refine SafeOps.skip (congrArg (fun b => some (!b)) hc2983) rfl rfl ?_
  refine SafeOps.skip (congrArg (fun b => some (!b)) hc2983) rfl rfl ?_
  refine Q0 E_good rfl (v := V.bool true) (.pickK rfl hc2983 rfl) ?_
  exact SafeOps.drop' 4 rfl rfl rfl K
 ·skip
  refine SafeOps.quiet0 E_good (congrArg (fun b => some (!b)) hc2983) rfl rfl (v := V.agg [V.int .i64 a2_2469.Kind, V.int .i64 a2_2469.Pc, V.int .i64 a2_2469.V, V.int .i64 a2_2469.T, V.int .i64 a2_2469.B, V.bool a2_2469.Won, V.int .i64 a2_2469.State]) (.load rfl rfl (.box rfl rfl) rfl) ?_
  refine SafeOps.quiet0 E_good (congrArg (fun b => some (!b)) hc2983) rfl rfl (v := V.bool (go_ravelref07_May a2_2469)) (.callP rfl rfl (go_ravelref07_May_sc a2_2469 _ rfl) rfl) ?_
  refine SafeOps.quiet0 E_good (congrArg (fun b => some (!b)) hc2983) rfl rfl (v := V.bool (!(go_ravelref07_May a2_2469))) (.fn rfl) ?_
  refine Q0 E_good rfl (v := V.bool (!(go_ravelref07_May a2_2469))) (.pickK rfl hc2983 rfl) ?_
  exact SafeOps.drop' 4 rfl rfl rfl K
 refine SafeOps.nil ?_
 repeat (first | refine sq ?_ | refine sk ?_ | with_reducible first | refine tn ?_ | refine bn ?_)
 refine ifG h (fun hc2984 h => ?_) (fun hc2984 h => ?_)
 ·skip
  refine Safe.condK rfl hc2984 ?_
  repeat (first | refine sq ?_ | refine sk ?_ | with_reducible first | refine tn ?_ | refine bn ?_)
  refine Safe.region ?_
  refine Q0 E_good rfl (v := V.agg [V.int .i64 0, V.int .i64 0, V.int .i64 0, V.int .i64 0, V.int .i64 0, V.bool false, V.int .i64 0]) (.fn rfl) ?_
  refine Qf E_good ?_
  refine SafeOps.store (z := Obj.box [V.int .i64 0, V.int .i64 0, V.int .i64 0, V.int .i64 0, V.int .i64 0, V.bool false, V.int .i64 0]) E_good rfl rfl rfl rfl rfl rfl rfl (.boxM (c := 7) rfl rfl (Nat.le_of_ble_eq_true rfl) rfl) ?_
  refine Qf E_good ?_
  refine SafeOps.nil ?_
  repeat (first | refine sq ?_ | refine sk ?_ | with_reducible first | refine tn ?_ | refine bn ?_)
  refine Safe.see 6 (u := V.sl 1 (rws (fun n => [V.int .i64 n]) [])) rfl (.nils _) ?_
  refine Safe.ret ?_
  repeat (first | with_reducible refine thenQ.r ?_ | with_reducible refine blockQ.r ?_)
  obtain rfl := Option.some.inj h
  exact retQ.gen (vs := [V.sl 1 (rws (fun n => [V.int .i64 n]) []), V.agg [V.int .i64 0, V.int .i64 0, V.int .i64 0, V.int .i64 0, V.int .i64 0, V.bool false, V.int .i64 0], V.int .i64 1]) rfl (.tmp (v := V.sl 1 (rws (fun n => [V.int .i64 n]) [])) rfl (.cell (v := V.agg [V.int .i64 0, V.int .i64 0, V.int .i64 0, V.int .i64 0, V.int .i64 0, V.bool false, V.int .i64 0]) rfl rfl (.box rfl rfl) rfl (.tmp (v := V.int .i64 1) rfl .nil))) (.free rfl) (by simp) (.inr rfl)
 ·skip
  refine Safe.condN rfl hc2984 ?_
  repeat (first | refine sq ?_ | refine sk ?_ | with_reducible first | refine tn ?_ | refine bn ?_)
  refine Safe.region ?_
  refine Q0 E_good rfl (v := V.ptr [5] 0 6) (.fn rfl) ?_
  refine Q0 E_good rfl (v := V.int .i64 a2_2469.State) (.load rfl rfl (.box rfl rfl) rfl) ?_
  refine Q0 E_good rfl (v := V.bool (a2_2469.State != 0)) (.fn rfl) ?_
  refine SafeOps.nil ?_
  repeat (first | refine sq ?_ | refine sk ?_ | with_reducible first | refine tn ?_ | refine bn ?_)
  refine ifG h (fun hc2985 h => ?_) (fun hc2985 h => ?_)
  ·skip
   refine Safe.condK rfl hc2985 ?_
   repeat (first | refine sq ?_ | refine sk ?_ | with_reducible first | refine tn ?_ | refine bn ?_)
   refine Safe.region ?_
   refine Q0 E_good rfl (v := V.agg [V.int .i64 0, V.int .i64 0, V.int .i64 0, V.int .i64 0, V.int .i64 0, V.bool false, V.int .i64 0]) (.fn rfl) ?_
   refine Qf E_good ?_
   refine SafeOps.store (z := Obj.box [V.int .i64 0, V.int .i64 0, V.int .i64 0, V.int .i64 0, V.int .i64 0, V.bool false, V.int .i64 0]) E_good rfl rfl rfl rfl rfl rfl rfl (.boxM (c := 7) rfl rfl (Nat.le_of_ble_eq_true rfl) rfl) ?_
   refine Qf E_good ?_
   refine SafeOps.nil ?_
   repeat (first | refine sq ?_ | refine sk ?_ | with_reducible first | refine tn ?_ | refine bn ?_)
   refine Safe.see 6 (u := V.sl 1 (rws (fun n => [V.int .i64 n]) [])) rfl (.nils _) ?_
   refine Safe.ret ?_
   repeat (first | with_reducible refine thenQ.r ?_ | with_reducible refine blockQ.r ?_)
   obtain rfl := Option.some.inj h
   exact retQ.gen (vs := [V.sl 1 (rws (fun n => [V.int .i64 n]) []), V.agg [V.int .i64 0, V.int .i64 0, V.int .i64 0, V.int .i64 0, V.int .i64 0, V.bool false, V.int .i64 0], V.int .i64 9]) rfl (.tmp (v := V.sl 1 (rws (fun n => [V.int .i64 n]) [])) rfl (.cell (v := V.agg [V.int .i64 0, V.int .i64 0, V.int .i64 0, V.int .i64 0, V.int .i64 0, V.bool false, V.int .i64 0]) rfl rfl (.box rfl rfl) rfl (.tmp (v := V.int .i64 9) rfl .nil))) (.free rfl) (by simp) (.inr rfl)
  ·skip
   refine Safe.condN rfl hc2985 ?_
   repeat (first | refine sq ?_ | refine sk ?_ | with_reducible first | refine tn ?_ | refine bn ?_)
   refine Safe.region ?_
   refine Qf E_good ?_
   refine okG h (fun hb2986 h => ?_)
   refine SafeOps.appendM (fun n => [V.int .i64 n]) (xs := []) (ys := a0_2467) E_good rfl rfl rfl rfl rfl rfl rfl rfl rfl .nils (.sl _) (fun _ => rfl) hb2986 ?_
   refine Qf E_good ?_
   refine SafeOps.nil ?_
   repeat (first | refine sq ?_ | refine sk ?_ | with_reducible first | refine tn ?_ | refine bn ?_)
   refine Safe.region ?_
   refine Qf E_good ?_
   refine SafeOps.nil ?_
   repeat (first | refine sq ?_ | refine sk ?_ | with_reducible first | refine tn ?_ | refine bn ?_)
   refine Safe.region ?_
   refine Q0 E_good rfl (v := V.ptr [5] 0 0) (.fn rfl) ?_
   refine Q0 E_good rfl (v := V.int .i64 a2_2469.Kind) (.load rfl rfl (.box rfl rfl) rfl) ?_
   refine Q0 E_good rfl (v := V.bool (a2_2469.Kind == 1)) (.fn rfl) ?_
   refine SafeOps.nil ?_
   repeat (first | refine sq ?_ | refine sk ?_ | with_reducible first | refine tn ?_ | refine bn ?_)
   refine Safe.joinT (fun ((v0_3000, v9_3001, v50_3002, v51_3003, v52_3004, v53_3005, v54_3006, v55_3007, v56_3008) : (List Int) × Bool × Int × Int × Int × Int × Int × Bool × Int) => go_ravelref07_Step_j1 v0_3000 v9_3001 v50_3002 v51_3003 v52_3004 v53_3005 v54_3006 v55_3007 v56_3008 = some r) (fun ((v0_3000, v9_3001, v50_3002, v51_3003, v52_3004, v53_3005, v54_3006, v55_3007, v56_3008) : (List Int) × Bool × Int × Int × Int × Int × Int × Bool × Int) => ⟨Try.f9.ntmps, [(0, V.sl 1 (rws (fun n => [V.int .i64 n]) v0_3000)), (5, V.ptr [5] 0 0), (7, V.ptr [7] 0 0), (9, V.bool v9_3001)], [([5], Obj.box [V.int .i64 v50_3002, V.int .i64 v51_3003, V.int .i64 v52_3004, V.int .i64 v53_3005, V.int .i64 v54_3006, V.bool v55_3007, V.int .i64 v56_3008]), ([7], Obj.box [V.int .i64 0, V.int .i64 0, V.int .i64 0, V.int .i64 0, V.int .i64 0, V.bool false, V.int .i64 0])], [], []⟩) ?_ (fun HJ3009 => ?_)
   ·rintro ⟨v0_3000, v9_3001, v50_3002, v51_3003, v52_3004, v53_3005, v54_3006, v55_3007, v56_3008⟩ h
    replace h : go_ravelref07_Step_j1 v0_3000 v9_3001 v50_3002 v51_3003 v52_3004 v53_3005 v54_3006 v55_3007 v56_3008 = some r := h
    rw [go_ravelref07_Step_j1] at h
    repeat (first | refine sq ?_ | refine sk ?_ | with_reducible first | refine tn ?_ | refine bn ?_)
    refine Safe.region ?_
    refine Qf E_good ?_
    refine Q0 E_good rfl (v := V.bool (!v9_3001)) (.fn rfl) ?_
    refine SafeOps.nil ?_
    repeat (first | refine sq ?_ | refine sk ?_ | with_reducible first | refine tn ?_ | refine bn ?_)
    refine ifG h (fun hc3010 h => ?_) (fun hc3010 h => ?_)
    ·skip
     refine Safe.condK rfl hc3010 ?_
     repeat (first | refine sq ?_ | refine sk ?_ | with_reducible first | refine tn ?_ | refine bn ?_)
     refine Safe.region ?_
     refine Q0 E_good rfl (v := V.agg [V.int .i64 0, V.int .i64 0, V.int .i64 0, V.int .i64 0, V.int .i64 0, V.bool false, V.int .i64 0]) (.fn rfl) ?_
     refine Qf E_good ?_
     refine SafeOps.store (z := Obj.box [V.int .i64 0, V.int .i64 0, V.int .i64 0, V.int .i64 0, V.int .i64 0, V.bool false, V.int .i64 0]) E_good rfl rfl rfl rfl rfl rfl rfl (.boxM (c := 7) rfl rfl (Nat.le_of_ble_eq_true rfl) rfl) ?_
     refine Qf E_good ?_
     refine SafeOps.nil ?_
     repeat (first | refine sq ?_ | refine sk ?_ | with_reducible first | refine tn ?_ | refine bn ?_)
     refine Safe.see 6 (u := V.sl 1 (rws (fun n => [V.int .i64 n]) [])) rfl (.nils _) ?_
     refine Safe.ret ?_
     repeat (first | with_reducible refine thenQ.r ?_ | with_reducible refine blockQ.r ?_)
     obtain rfl := Option.some.inj h
     exact retQ.gen (vs := [V.sl 1 (rws (fun n => [V.int .i64 n]) []), V.agg [V.int .i64 0, V.int .i64 0, V.int .i64 0, V.int .i64 0, V.int .i64 0, V.bool false, V.int .i64 0], V.int .i64 9]) rfl (.tmp (v := V.sl 1 (rws (fun n => [V.int .i64 n]) [])) rfl (.cell (v := V.agg [V.int .i64 0, V.int .i64 0, V.int .i64 0, V.int .i64 0, V.int .i64 0, V.bool false, V.int .i64 0]) rfl rfl (.box rfl rfl) rfl (.tmp (v := V.int .i64 9) rfl .nil))) (.free rfl) (by simp) (.inr rfl)
    ·skip
     refine Safe.condN rfl hc3010 ?_
     repeat (first | refine sq ?_ | refine sk ?_ | with_reducible first | refine tn ?_ | refine bn ?_)
     refine Safe.regionD (n := 5) [(3, [7])] [] E_good mixed rfl ?_
     refine DT 0 [[7]] rfl rfl (fun _ hz => (.fn rfl)) ?_
     refine DT 1 [[7]] rfl rfl (v := V.agg [V.int .i64 v50_3002, V.int .i64 v51_3003, V.int .i64 v52_3004, V.int .i64 v53_3005, V.int .i64 v54_3006, V.bool v55_3007, V.int .i64 v56_3008]) (fun _ hz => (.load rfl rfl (.box (hz _ _ rfl rfl) rfl) rfl)) ?_
     refine DT 2 [[7]] rfl rfl (fun _ hz => (.fn rfl)) ?_
     refine DAny.only (i := 3) rfl (by kernel_rfl) (.store (z := Obj.box [V.int .i64 v50_3002, V.int .i64 v51_3003, V.int .i64 v52_3004, V.int .i64 v53_3005, V.int .i64 v54_3006, V.bool v55_3007, V.int .i64 v56_3008]) rfl rfl rfl rfl rfl rfl rfl (.boxM (c := 7) rfl rfl (Nat.le_of_ble_eq_true rfl) rfl) rfl ?_)
     refine DT 4 [[7]] rfl rfl (fun _ hz => (.fn rfl)) ?_
     refine DAny.nil (by kernel_rfl) ?_
     repeat (first | refine sq ?_ | refine sk ?_ | with_reducible first | refine tn ?_ | refine bn ?_)
     refine Safe.ret ?_
     repeat (first | with_reducible refine thenQ.r ?_ | with_reducible refine blockQ.r ?_)
     obtain rfl := Option.some.inj h
     exact retQ.gen (vs := [V.sl 1 (rws (fun n => [V.int .i64 n]) v0_3000), V.agg [V.int .i64 v50_3002, V.int .i64 v51_3003, V.int .i64 v52_3004, V.int .i64 v53_3005, V.int .i64 v54_3006, V.bool v55_3007, V.int .i64 v56_3008], V.int .i64 0]) rfl (.tmp (v := V.sl 1 (rws (fun n => [V.int .i64 n]) v0_3000)) rfl (.cell (v := V.agg [V.int .i64 v50_3002, V.int .i64 v51_3003, V.int .i64 v52_3004, V.int .i64 v53_3005, V.int .i64 v54_3006, V.bool v55_3007, V.int .i64 v56_3008]) rfl rfl (.box rfl rfl) rfl (.tmp (v := V.int .i64 0) rfl .nil))) (.free rfl) (by simp) (.inr rfl)
   ·skip
    refine ifG h (fun hc3011 h => ?_) (fun hc3011 h => ?_)
    ·skip
     refine Safe.condK rfl hc3011 ?_
     repeat (first | refine sq ?_ | refine sk ?_ | with_reducible first | refine tn ?_ | refine bn ?_)
     refine Safe.region ?_
     refine Qf E_good ?_
     refine Q0 E_good rfl (v := V.agg [V.int .i64 a1_2468.Base, V.int .i64 a1_2468.Cap]) (.load rfl rfl (.box rfl rfl) rfl) ?_
     refine Q0 E_good rfl (v := V.agg [V.int .i64 a2_2469.Kind, V.int .i64 a2_2469.Pc, V.int .i64 a2_2469.V, V.int .i64 a2_2469.T, V.int .i64 a2_2469.B, V.bool a2_2469.Won, V.int .i64 a2_2469.State]) (.load rfl rfl (.box rfl rfl) rfl) ?_
     refine SafeOps.freeze [25] rfl ?_
     refine SafeOps.see 30 (u := V.sl 1 (rws (fun n => [V.int .i64 n]) ([] ++ a0_2467))) rfl (.full rfl rfl) ?_
     refine bindG h ?_
     rintro ⟨x_3012, x_3013, x_3014⟩ he3015 h
     refine Q0 E_good rfl (v := V.tup [V.sl 1 (rws (fun n => [V.int .i64 n]) x_3012), V.agg [V.int .i64 x_3013.Kind, V.int .i64 x_3013.Pc, V.int .i64 x_3013.V, V.int .i64 x_3013.T, V.int .i64 x_3013.B, V.bool x_3013.Won, V.int .i64 x_3013.State], V.bool x_3014]) (.callP rfl rfl (go_ravelref07_push_sc ([] ++ a0_2467) a1_2468 a2_2469 _ he3015) rfl) ?_
     refine Qf E_good ?_
     refine Qf E_good ?_
     refine Qf E_good ?_
     refine Qf E_good ?_
     refine Qf E_good ?_
     refine SafeOps.store (z := Obj.box [V.int .i64 x_3013.Kind, V.int .i64 x_3013.Pc, V.int .i64 x_3013.V, V.int .i64 x_3013.T, V.int .i64 x_3013.B, V.bool x_3013.Won, V.int .i64 x_3013.State]) E_good rfl rfl rfl rfl rfl rfl rfl (.boxM (c := 7) rfl rfl (Nat.le_of_ble_eq_true rfl) rfl) ?_
     refine Qf E_good ?_
     refine SafeOps.nil ?_
     repeat (first | refine Safe.skip ?_ | with_reducible refine thenQ.n ?_ | with_reducible refine blockQ.n ?_)
     exact Safe.got (HJ3009 (x_3012, x_3014, x_3013.Kind, x_3013.Pc, x_3013.V, x_3013.T, x_3013.B, x_3013.Won, x_3013.State) h) (.cov ⟨rfl, rfl, (ut (ut (ut (ut upT_nil)))), (uo (uo upOb_nil)), upOut_nil, rfl⟩)
    ·skip
     refine Safe.condN rfl hc3011 ?_
     repeat (first | refine sq ?_ | refine sk ?_ | with_reducible first | refine tn ?_ | refine bn ?_)
     refine Safe.region ?_
     refine Q0 E_good rfl (v := V.ptr [5] 0 0) (.fn rfl) ?_
     refine Q0 E_good rfl (v := V.int .i64 a2_2469.Kind) (.load rfl rfl (.box rfl rfl) rfl) ?_
     refine Q0 E_good rfl (v := V.bool (a2_2469.Kind == 2)) (.fn rfl) ?_
     refine SafeOps.nil ?_
     repeat (first | refine sq ?_ | refine sk ?_ | with_reducible first | refine tn ?_ | refine bn ?_)
     refine ifG h (fun hc3016 h => ?_) (fun hc3016 h => ?_)
     ·skip
      refine Safe.condK rfl hc3016 ?_
      repeat (first | refine sq ?_ | refine sk ?_ | with_reducible first | refine tn ?_ | refine bn ?_)
      refine Safe.region ?_
      refine Qf E_good ?_
      refine Q0 E_good rfl (v := V.agg [V.int .i64 a1_2468.Base, V.int .i64 a1_2468.Cap]) (.load rfl rfl (.box rfl rfl) rfl) ?_
      refine Q0 E_good rfl (v := V.agg [V.int .i64 a2_2469.Kind, V.int .i64 a2_2469.Pc, V.int .i64 a2_2469.V, V.int .i64 a2_2469.T, V.int .i64 a2_2469.B, V.bool a2_2469.Won, V.int .i64 a2_2469.State]) (.load rfl rfl (.box rfl rfl) rfl) ?_
      refine SafeOps.freeze [25] rfl ?_
      refine SafeOps.see 41 (u := V.sl 1 (rws (fun n => [V.int .i64 n]) ([] ++ a0_2467))) rfl (.full rfl rfl) ?_
      refine bindG h ?_
      rintro ⟨x_3017, x_3018, x_3019⟩ he3020 h
      refine Q0 E_good rfl (v := V.tup [V.sl 1 (rws (fun n => [V.int .i64 n]) x_3017), V.agg [V.int .i64 x_3018.Kind, V.int .i64 x_3018.Pc, V.int .i64 x_3018.V, V.int .i64 x_3018.T, V.int .i64 x_3018.B, V.bool x_3018.Won, V.int .i64 x_3018.State], V.bool x_3019]) (.callP rfl rfl (go_ravelref07_pop_sc ([] ++ a0_2467) a1_2468 a2_2469 _ he3020) rfl) ?_
      refine Qf E_good ?_
      refine Qf E_good ?_
      refine Qf E_good ?_
      refine Qf E_good ?_
      refine Qf E_good ?_
      refine SafeOps.store (z := Obj.box [V.int .i64 x_3018.Kind, V.int .i64 x_3018.Pc, V.int .i64 x_3018.V, V.int .i64 x_3018.T, V.int .i64 x_3018.B, V.bool x_3018.Won, V.int .i64 x_3018.State]) E_good rfl rfl rfl rfl rfl rfl rfl (.boxM (c := 7) rfl rfl (Nat.le_of_ble_eq_true rfl) rfl) ?_
      refine Qf E_good ?_
      refine SafeOps.nil ?_
      repeat (first | refine Safe.skip ?_ | with_reducible refine thenQ.n ?_ | with_reducible refine blockQ.n ?_)
      exact Safe.got (HJ3009 (x_3017, x_3019, x_3018.Kind, x_3018.Pc, x_3018.V, x_3018.T, x_3018.B, x_3018.Won, x_3018.State) h) (.cov ⟨rfl, rfl, (ut (ut (ut (ut upT_nil)))), (uo (uo upOb_nil)), upOut_nil, rfl⟩)
     ·skip
      refine Safe.condN rfl hc3016 ?_
      repeat (first | refine sq ?_ | refine sk ?_ | with_reducible first | refine tn ?_ | refine bn ?_)
      refine Safe.region ?_
      refine Qf E_good ?_
      refine Q0 E_good rfl (v := V.agg [V.int .i64 a1_2468.Base, V.int .i64 a1_2468.Cap]) (.load rfl rfl (.box rfl rfl) rfl) ?_
      refine Q0 E_good rfl (v := V.agg [V.int .i64 a2_2469.Kind, V.int .i64 a2_2469.Pc, V.int .i64 a2_2469.V, V.int .i64 a2_2469.T, V.int .i64 a2_2469.B, V.bool a2_2469.Won, V.int .i64 a2_2469.State]) (.load rfl rfl (.box rfl rfl) rfl) ?_
      refine SafeOps.freeze [25] rfl ?_
      refine SafeOps.see 49 (u := V.sl 1 (rws (fun n => [V.int .i64 n]) ([] ++ a0_2467))) rfl (.full rfl rfl) ?_
      refine bindG h ?_
      rintro ⟨x_3021, x_3022, x_3023⟩ he3024 h
      refine Q0 E_good rfl (v := V.tup [V.sl 1 (rws (fun n => [V.int .i64 n]) x_3021), V.agg [V.int .i64 x_3022.Kind, V.int .i64 x_3022.Pc, V.int .i64 x_3022.V, V.int .i64 x_3022.T, V.int .i64 x_3022.B, V.bool x_3022.Won, V.int .i64 x_3022.State], V.bool x_3023]) (.callP rfl rfl (go_ravelref07_steal_sc ([] ++ a0_2467) a1_2468 a2_2469 _ he3024) rfl) ?_
      refine Qf E_good ?_
      refine Qf E_good ?_
      refine Qf E_good ?_
      refine Qf E_good ?_
      refine Qf E_good ?_
      refine SafeOps.store (z := Obj.box [V.int .i64 x_3022.Kind, V.int .i64 x_3022.Pc, V.int .i64 x_3022.V, V.int .i64 x_3022.T, V.int .i64 x_3022.B, V.bool x_3022.Won, V.int .i64 x_3022.State]) E_good rfl rfl rfl rfl rfl rfl rfl (.boxM (c := 7) rfl rfl (Nat.le_of_ble_eq_true rfl) rfl) ?_
      refine Qf E_good ?_
      refine SafeOps.nil ?_
      repeat (first | refine Safe.skip ?_ | with_reducible refine thenQ.n ?_ | with_reducible refine blockQ.n ?_)
      exact Safe.got (HJ3009 (x_3021, x_3023, x_3022.Kind, x_3022.Pc, x_3022.V, x_3022.T, x_3022.B, x_3022.Won, x_3022.State) h) (.cov ⟨rfl, rfl, (ut (ut (ut (ut upT_nil)))), (uo (uo upOb_nil)), upOut_nil, rfl⟩)

noncomputable def go_ravelref07_Solo_s2 (a1_3034 : api_Deque) : ((List Int) × Int × Int × Int × Int × Int × Bool × Int) → Option (((List Int) × Int × Int × Int × Int × Int × Bool × Int) ⊕ ((List Int) × api_Hand × Int))
 | (v0_3172, v50_3173, v51_3174, v52_3175, v53_3176, v54_3177, v55_3178, v56_3179) =>
  if (v56_3179 == 0) = true then
   (go_ravelref07_Step v0_3172 a1_3034 (api_Hand.mk v50_3173 v51_3174 v52_3175 v53_3176 v54_3177 v55_3178 v56_3179)).bind fun (x_3182, x_3183, x_3184) =>
   if (x_3184 != 0) = true then
    inrO (
     some ([], api_Hand.zero, x_3184))
   else
    nextO (x_3182, x_3183.Kind, x_3183.Pc, x_3183.V, x_3183.T, x_3183.B, x_3183.Won, x_3183.State)
  else
   inrO (
    some (v0_3172, (api_Hand.mk v50_3173 v51_3174 v52_3175 v53_3176 v54_3177 v55_3178 v56_3179), 0))

noncomputable def go_ravelref07_Solo (a0_3033 : List Int) (a1_3034 : api_Deque) (a2_3035 : api_Hand) : Option ((List Int) × api_Hand × Int) :=
 if (((go_ravelref07_Check a0_3033 a1_3034) != 0) || (!(go_ravelref07_May a2_3035))) = true then
  some ([], api_Hand.zero, 1)
 else
  if few ([] ++ a0_3033).length then
   whileO (go_ravelref07_Solo_s2 a1_3034) ([] ++ a0_3033, a2_3035.Kind, a2_3035.Pc, a2_3035.V, a2_3035.T, a2_3035.B, a2_3035.Won, a2_3035.State)
  else none

theorem go_ravelref07_Solo_sc (a0_3033 : List Int) (a1_3034 : api_Deque) (a2_3035 : api_Hand) (r : (List Int) × api_Hand × Int) (h : go_ravelref07_Solo a0_3033 a1_3034 a2_3035 = some r) : SC Try.prog gl 11 [V.sl 1 (rws (fun n => [V.int .i64 n]) a0_3033), V.agg [V.int .i64 a1_3034.Base, V.int .i64 a1_3034.Cap], V.agg [V.int .i64 a2_3035.Kind, V.int .i64 a2_3035.Pc, V.int .i64 a2_3035.V, V.int .i64 a2_3035.T, V.int .i64 a2_3035.B, V.bool a2_3035.Won, V.int .i64 a2_3035.State]] (V.tup [V.sl 1 (rws (fun n => [V.int .i64 n]) r.1), V.agg [V.int .i64 r.2.1.Kind, V.int .i64 r.2.1.Pc, V.int .i64 r.2.1.V, V.int .i64 r.2.1.T, V.int .i64 r.2.1.B, V.bool r.2.1.Won, V.int .i64 r.2.1.State], V.int .i64 r.2.2]) := by
 rw [go_ravelref07_Solo] at h
 refine SC.of E_good Try.func11 rfl (fun _ _ => Try.call11 _ _) rfl ?_
 repeat (first | refine sq ?_ | refine sk ?_ | with_reducible first | refine tn ?_ | refine bn ?_)
 refine Safe.region ?_
 refine SafeOps.quiet1 E_good rfl rfl rfl (.box rfl rfl) rfl ?_
 refine SafeOps.quiet1 E_good rfl rfl rfl (.box rfl rfl) rfl ?_
 refine Qf E_good ?_
 refine SafeOps.quiet1 E_good rfl rfl rfl (.alloc rfl rfl) rfl ?_
 refine Qf E_good ?_
 refine SafeOps.nil ?_
 repeat (first | refine sq ?_ | refine sk ?_ | with_reducible first | refine tn ?_ | refine bn ?_)
 refine Safe.region ?_
 refine Qf E_good ?_
 refine Q0 E_good rfl (v := V.agg [V.int .i64 a1_3034.Base, V.int .i64 a1_3034.Cap]) (.load rfl rfl (.box rfl rfl) rfl) ?_
 refine Q0 E_good rfl (v := V.int .i64 (go_ravelref07_Check a0_3033 a1_3034)) (.callP rfl rfl (go_ravelref07_Check_sc a0_3033 a1_3034 _ rfl) rfl) ?_
 refine Q0 E_good rfl (v := V.bool ((go_ravelref07_Check a0_3033 a1_3034) != 0)) (.fn rfl) ?_
 refine Qf E_good ?_
 refine SafeOps.bjoin 4 20 (b := (((go_ravelref07_Check a0_3033 a1_3034) != 0) || (!(go_ravelref07_May a2_3035)))) (b1 := true) (b0 := (!(go_ravelref07_May a2_3035))) (fun hc3114 K => ?_) (fun hc3114 K => ?_) bj_or ?_
 ·skip
  refine SafeOps.skip (congrArg (fun b => some (!b)) hc3114) rfl rfl ?_
  refine SafeOps.skip (congrArg (fun b => some (!b)) hc3114) rfl rfl ?_
  refine SafeOps.skip (congrArg (fun b => some (!b)) hc3114) rfl rfl ?_
  refine Q0 E_good rfl (v := V.bool true) (.pickK rfl hc3114 rfl) ?_
  exact SafeOps.drop' 4 rfl rfl rfl K
 ·skip
  refine SafeOps.quiet0 E_good (congrArg (fun b => some (!b)) hc3114) rfl rfl (v := V.agg [V.int .i64 a2_3035.Kind, V.int .i64 a2_3035.Pc, V.int .i64 a2_3035.V, V.int .i64 a2_3035.T, V.int .i64 a2_3035.B, V.bool a2_3035.Won, V.int .i64 a2_3035.State]) (.load rfl rfl (.box rfl rfl) rfl) ?_
  refine SafeOps.quiet0 E_good (congrArg (fun b => some (!b)) hc3114) rfl rfl (v := V.bool (go_ravelref07_May a2_3035)) (.callP rfl rfl (go_ravelref07_May_sc a2_3035 _ rfl) rfl) ?_
  refine SafeOps.quiet0 E_good (congrArg (fun b => some (!b)) hc3114) rfl rfl (v := V.bool (!(go_ravelref07_May a2_3035))) (.fn rfl) ?_
  refine Q0 E_good rfl (v := V.bool (!(go_ravelref07_May a2_3035))) (.pickK rfl hc3114 rfl) ?_
  exact SafeOps.drop' 4 rfl rfl rfl K
 refine SafeOps.nil ?_
 repeat (first | refine sq ?_ | refine sk ?_ | with_reducible first | refine tn ?_ | refine bn ?_)
 refine ifG h (fun hc3115 h => ?_) (fun hc3115 h => ?_)
 ·skip
  refine Safe.condK rfl hc3115 ?_
  repeat (first | refine sq ?_ | refine sk ?_ | with_reducible first | refine tn ?_ | refine bn ?_)
  refine Safe.region ?_
  refine Q0 E_good rfl (v := V.agg [V.int .i64 0, V.int .i64 0, V.int .i64 0, V.int .i64 0, V.int .i64 0, V.bool false, V.int .i64 0]) (.fn rfl) ?_
  refine Qf E_good ?_
  refine SafeOps.store (z := Obj.box [V.int .i64 0, V.int .i64 0, V.int .i64 0, V.int .i64 0, V.int .i64 0, V.bool false, V.int .i64 0]) E_good rfl rfl rfl rfl rfl rfl rfl (.boxM (c := 7) rfl rfl (Nat.le_of_ble_eq_true rfl) rfl) ?_
  refine Qf E_good ?_
  refine SafeOps.nil ?_
  repeat (first | refine sq ?_ | refine sk ?_ | with_reducible first | refine tn ?_ | refine bn ?_)
  refine Safe.see 6 (u := V.sl 1 (rws (fun n => [V.int .i64 n]) [])) rfl (.nils _) ?_
  refine Safe.ret ?_
  repeat (first | with_reducible refine thenQ.r ?_ | with_reducible refine blockQ.r ?_)
  obtain rfl := Option.some.inj h
  exact retQ.gen (vs := [V.sl 1 (rws (fun n => [V.int .i64 n]) []), V.agg [V.int .i64 0, V.int .i64 0, V.int .i64 0, V.int .i64 0, V.int .i64 0, V.bool false, V.int .i64 0], V.int .i64 1]) rfl (.tmp (v := V.sl 1 (rws (fun n => [V.int .i64 n]) [])) rfl (.cell (v := V.agg [V.int .i64 0, V.int .i64 0, V.int .i64 0, V.int .i64 0, V.int .i64 0, V.bool false, V.int .i64 0]) rfl rfl (.box rfl rfl) rfl (.tmp (v := V.int .i64 1) rfl .nil))) (.free rfl) (by simp) (.inr rfl)
 ·skip
  refine Safe.condN rfl hc3115 ?_
  repeat (first | refine sq ?_ | refine sk ?_ | with_reducible first | refine tn ?_ | refine bn ?_)
  refine Safe.region ?_
  refine Qf E_good ?_
  refine okG h (fun hb3116 h => ?_)
  refine SafeOps.appendM (fun n => [V.int .i64 n]) (xs := []) (ys := a0_3033) E_good rfl rfl rfl rfl rfl rfl rfl rfl rfl .nils (.sl _) (fun _ => rfl) hb3116 ?_
  refine Qf E_good ?_
  refine SafeOps.nil ?_
  repeat (first | refine sq ?_ | refine sk ?_ | with_reducible first | refine tn ?_ | refine bn ?_)
  refine Safe.block ?_
  repeat (first | refine sq ?_ | refine sk ?_ | with_reducible first | refine tn ?_ | refine bn ?_)
  refine Safe.loopW (fun ((v0_3172, v50_3173, v51_3174, v52_3175, v53_3176, v54_3177, v55_3178, v56_3179) : (List Int) × Int × Int × Int × Int × Int × Bool × Int) => ⟨Try.f11.ntmps, [(0, V.sl 1 (rws (fun n => [V.int .i64 n]) v0_3172)), (4, V.ptr [4] 0 0), (5, V.ptr [5] 0 0), (7, V.ptr [7] 0 0)], [([4], Obj.box [V.int .i64 a1_3034.Base, V.int .i64 a1_3034.Cap]), ([5], Obj.box [V.int .i64 v50_3173, V.int .i64 v51_3174, V.int .i64 v52_3175, V.int .i64 v53_3176, V.int .i64 v54_3177, V.bool v55_3178, V.int .i64 v56_3179]), ([7], Obj.box [V.int .i64 0, V.int .i64 0, V.int .i64 0, V.int .i64 0, V.int .i64 0, V.bool false, V.int .i64 0])], [], []⟩) h (.freeze [23] rfl (.cov ⟨rfl, rfl, (upT_cons (.full rfl rfl) (ut (ut (ut upT_nil)))), (uo (uo (uo upOb_nil))), upOut_nil, rfl⟩)) ?_
  rintro ⟨v0_3172, v50_3173, v51_3174, v52_3175, v53_3176, v54_3177, v55_3178, v56_3179⟩ ohr3180 h hr3180
  replace h : go_ravelref07_Solo_s2 a1_3034 (v0_3172, v50_3173, v51_3174, v52_3175, v53_3176, v54_3177, v55_3178, v56_3179) = some ohr3180 := h
  rw [go_ravelref07_Solo_s2] at h
  repeat (first | refine sq ?_ | refine sk ?_ | with_reducible first | refine tn ?_ | refine bn ?_)
  refine Safe.region ?_
  refine Q0 E_good rfl (v := V.ptr [5] 0 6) (.fn rfl) ?_
  refine Q0 E_good rfl (v := V.int .i64 v56_3179) (.load rfl rfl (.box rfl rfl) rfl) ?_
  refine Q0 E_good rfl (v := V.bool (v56_3179 == 0)) (.fn rfl) ?_
  refine SafeOps.nil ?_
  repeat (first | refine sq ?_ | refine sk ?_ | with_reducible first | refine tn ?_ | refine bn ?_)
  refine ifG h (fun hc3181 h => ?_) (fun hc3181 h => ?_)
  ·skip
   refine Safe.condK rfl hc3181 ?_
   repeat (first | refine sq ?_ | refine sk ?_ | with_reducible first | refine tn ?_ | refine bn ?_)
   refine Safe.block ?_
   repeat (first | refine sq ?_ | refine sk ?_ | with_reducible first | refine tn ?_ | refine bn ?_)
   refine Safe.region ?_
   refine Qf E_good ?_
   refine Q0 E_good rfl (v := V.agg [V.int .i64 a1_3034.Base, V.int .i64 a1_3034.Cap]) (.load rfl rfl (.box rfl rfl) rfl) ?_
   refine Q0 E_good rfl (v := V.agg [V.int .i64 v50_3173, V.int .i64 v51_3174, V.int .i64 v52_3175, V.int .i64 v53_3176, V.int .i64 v54_3177, V.bool v55_3178, V.int .i64 v56_3179]) (.load rfl rfl (.box rfl rfl) rfl) ?_
   refine bindG h ?_
   rintro ⟨x_3182, x_3183, x_3184⟩ he3185 h
   refine Q0 E_good rfl (v := V.tup [V.sl 1 (rws (fun n => [V.int .i64 n]) x_3182), V.agg [V.int .i64 x_3183.Kind, V.int .i64 x_3183.Pc, V.int .i64 x_3183.V, V.int .i64 x_3183.T, V.int .i64 x_3183.B, V.bool x_3183.Won, V.int .i64 x_3183.State], V.int .i64 x_3184]) (.callP rfl rfl (go_ravelref07_Step_sc v0_3172 a1_3034 (api_Hand.mk v50_3173 v51_3174 v52_3175 v53_3176 v54_3177 v55_3178 v56_3179) _ he3185) rfl) ?_
   refine Qf E_good ?_
   refine Qf E_good ?_
   refine Qf E_good ?_
   refine Qf E_good ?_
   refine SafeOps.quiet1 E_good rfl rfl rfl (.alloc rfl rfl) rfl ?_
   refine Qf E_good ?_
   refine SafeOps.store (z := Obj.box [V.int .i64 x_3183.Kind, V.int .i64 x_3183.Pc, V.int .i64 x_3183.V, V.int .i64 x_3183.T, V.int .i64 x_3183.B, V.bool x_3183.Won, V.int .i64 x_3183.State]) E_good rfl rfl rfl rfl rfl rfl rfl (.boxM (c := 7) rfl rfl (Nat.le_of_ble_eq_true rfl) rfl) ?_
   refine Qf E_good ?_
   refine SafeOps.nil ?_
   repeat (first | refine sq ?_ | refine sk ?_ | with_reducible first | refine tn ?_ | refine bn ?_)
   refine Safe.region ?_
   refine Qf E_good ?_
   refine Q0 E_good rfl (v := V.bool (x_3184 != 0)) (.fn rfl) ?_
   refine SafeOps.nil ?_
   repeat (first | refine sq ?_ | refine sk ?_ | with_reducible first | refine tn ?_ | refine bn ?_)
   refine ifG h (fun hc3186 h => ?_) (fun hc3186 h => ?_)
   ·skip
    refine Safe.condK rfl hc3186 ?_
    repeat (first | refine sq ?_ | refine sk ?_ | with_reducible first | refine tn ?_ | refine bn ?_)
    refine Safe.region ?_
    refine Q0 E_good rfl (v := V.agg [V.int .i64 0, V.int .i64 0, V.int .i64 0, V.int .i64 0, V.int .i64 0, V.bool false, V.int .i64 0]) (.fn rfl) ?_
    refine Qf E_good ?_
    refine Qf E_good ?_
    refine SafeOps.store (z := Obj.box [V.int .i64 0, V.int .i64 0, V.int .i64 0, V.int .i64 0, V.int .i64 0, V.bool false, V.int .i64 0]) E_good rfl rfl rfl rfl rfl rfl rfl (.boxM (c := 7) rfl rfl (Nat.le_of_ble_eq_true rfl) rfl) ?_
    refine Qf E_good ?_
    refine SafeOps.nil ?_
    repeat (first | refine sq ?_ | refine sk ?_ | with_reducible first | refine tn ?_ | refine bn ?_)
    refine Safe.see 6 (u := V.sl 1 (rws (fun n => [V.int .i64 n]) [])) rfl (.nils _) ?_
    refine Safe.ret ?_
    repeat (first | with_reducible refine thenQ.r ?_ | with_reducible refine blockQ.r ?_)
    replace h := inr_out h hr3180
    obtain rfl := Option.some.inj h
    exact retQ.gen (vs := [V.sl 1 (rws (fun n => [V.int .i64 n]) []), V.agg [V.int .i64 0, V.int .i64 0, V.int .i64 0, V.int .i64 0, V.int .i64 0, V.bool false, V.int .i64 0], V.int .i64 x_3184]) rfl (.tmp (v := V.sl 1 (rws (fun n => [V.int .i64 n]) [])) rfl (.cell (v := V.agg [V.int .i64 0, V.int .i64 0, V.int .i64 0, V.int .i64 0, V.int .i64 0, V.bool false, V.int .i64 0]) rfl rfl (.box rfl rfl) rfl (.tmp (v := V.int .i64 x_3184) rfl .nil))) (.free rfl) (by simp) (.inr rfl)
   ·skip
    refine Safe.condN rfl hc3186 ?_
    repeat (first | refine sq ?_ | refine sk ?_ | with_reducible first | refine tn ?_ | refine bn ?_)
    refine Safe.region ?_
    refine Qf E_good ?_
    refine Qf E_good ?_
    refine SafeOps.nil ?_
    repeat (first | refine sq ?_ | refine sk ?_ | with_reducible first | refine tn ?_ | refine bn ?_)
    refine Safe.region ?_
    refine Q0 E_good rfl (v := V.agg [V.int .i64 x_3183.Kind, V.int .i64 x_3183.Pc, V.int .i64 x_3183.V, V.int .i64 x_3183.T, V.int .i64 x_3183.B, V.bool x_3183.Won, V.int .i64 x_3183.State]) (.load rfl rfl (.box rfl rfl) rfl) ?_
    refine SafeOps.store (z := Obj.box [V.int .i64 x_3183.Kind, V.int .i64 x_3183.Pc, V.int .i64 x_3183.V, V.int .i64 x_3183.T, V.int .i64 x_3183.B, V.bool x_3183.Won, V.int .i64 x_3183.State]) E_good rfl rfl rfl rfl rfl rfl rfl (.boxM (c := 7) rfl rfl (Nat.le_of_ble_eq_true rfl) rfl) ?_
    refine SafeOps.nil ?_
    repeat (first | refine sq ?_ | refine sk ?_ | with_reducible first | refine tn ?_ | refine bn ?_)
    exact ⟨_, next_out h, (.cov ⟨rfl, rfl, (ut (ut (ut (ut upT_nil)))), (uo (uo (uo upOb_nil))), upOut_nil, rfl⟩)⟩
  ·skip
   refine Safe.condN rfl hc3181 ?_
   repeat (first | refine sq ?_ | refine sk ?_ | with_reducible first | refine tn ?_ | refine bn ?_)
   refine Safe.exit ?_
   repeat (first | with_reducible refine thenQ.e ?_ | with_reducible refine blockQ.x rfl ?_ | with_reducible refine blockQ.y rfl ?_)
   replace h := inr_out h hr3180
   repeat (first | refine sq ?_ | refine sk ?_ | with_reducible first | refine tn ?_ | refine bn ?_)
   refine Safe.regionD (n := 5) [(3, [7])] [] E_good mixed rfl ?_
   refine DT 0 [[7]] rfl rfl (fun _ hz => (.fn rfl)) ?_
   refine DT 1 [[7]] rfl rfl (v := V.agg [V.int .i64 v50_3173, V.int .i64 v51_3174, V.int .i64 v52_3175, V.int .i64 v53_3176, V.int .i64 v54_3177, V.bool v55_3178, V.int .i64 v56_3179]) (fun _ hz => (.load rfl rfl (.box (hz _ _ rfl rfl) rfl) rfl)) ?_
   refine DT 2 [[7]] rfl rfl (fun _ hz => (.fn rfl)) ?_
   refine DAny.only (i := 3) rfl (by kernel_rfl) (.store (z := Obj.box [V.int .i64 v50_3173, V.int .i64 v51_3174, V.int .i64 v52_3175, V.int .i64 v53_3176, V.int .i64 v54_3177, V.bool v55_3178, V.int .i64 v56_3179]) rfl rfl rfl rfl rfl rfl rfl (.boxM (c := 7) rfl rfl (Nat.le_of_ble_eq_true rfl) rfl) rfl ?_)
   refine DT 4 [[7]] rfl rfl (fun _ hz => (.fn rfl)) ?_
   refine DAny.nil (by kernel_rfl) ?_
   repeat (first | refine sq ?_ | refine sk ?_ | with_reducible first | refine tn ?_ | refine bn ?_)
   refine Safe.ret ?_
   repeat (first | with_reducible refine thenQ.r ?_ | with_reducible refine blockQ.r ?_)
   obtain rfl := Option.some.inj h
   exact retQ.gen (vs := [V.sl 1 (rws (fun n => [V.int .i64 n]) v0_3172), V.agg [V.int .i64 v50_3173, V.int .i64 v51_3174, V.int .i64 v52_3175, V.int .i64 v53_3176, V.int .i64 v54_3177, V.bool v55_3178, V.int .i64 v56_3179], V.int .i64 0]) rfl (.tmp (v := V.sl 1 (rws (fun n => [V.int .i64 n]) v0_3172)) rfl (.cell (v := V.agg [V.int .i64 v50_3173, V.int .i64 v51_3174, V.int .i64 v52_3175, V.int .i64 v53_3176, V.int .i64 v54_3177, V.bool v55_3178, V.int .i64 v56_3179]) rfl rfl (.box rfl rfl) rfl (.tmp (v := V.int .i64 0) rfl .nil))) (.free rfl) (by simp) (.inr rfl)

def go_ravelref07_Start (a0_3194 : Int) (a1_3195 : Int) : api_Hand × Int :=
 if ((go_ravelref07_pcs a0_3194) == 0) = true then
  (api_Hand.zero, 1)
 else
  ((api_Hand.mk a0_3194 0 a1_3195 0 0 false 0), 0)

theorem go_ravelref07_Start_sc (a0_3194 : Int) (a1_3195 : Int) (r : api_Hand × Int) (h : go_ravelref07_Start a0_3194 a1_3195 = r) : SC Try.prog gl 13 [V.int .i64 a0_3194, V.int .i64 a1_3195] (V.tup [V.agg [V.int .i64 r.1.Kind, V.int .i64 r.1.Pc, V.int .i64 r.1.V, V.int .i64 r.1.T, V.int .i64 r.1.B, V.bool r.1.Won, V.int .i64 r.1.State], V.int .i64 r.2]) := by
 rw [go_ravelref07_Start] at h
 refine SC.of E_good Try.func13 rfl (fun _ _ => Try.call13 _ _) rfl ?_
 repeat (first | refine sq ?_ | refine sk ?_ | with_reducible first | refine tn ?_ | refine bn ?_)
 refine Safe.region ?_
 refine SafeOps.quiet1 E_good rfl rfl rfl (.alloc rfl rfl) rfl ?_
 refine Qf E_good ?_
 refine SafeOps.nil ?_
 repeat (first | refine sq ?_ | refine sk ?_ | with_reducible first | refine tn ?_ | refine bn ?_)
 refine Safe.region ?_
 refine Qf E_good ?_
 refine Q0 E_good rfl (v := V.int .i64 (go_ravelref07_pcs a0_3194)) (.callP rfl rfl (go_ravelref07_pcs_sc a0_3194 _ rfl) rfl) ?_
 refine Q0 E_good rfl (v := V.bool ((go_ravelref07_pcs a0_3194) == 0)) (.fn rfl) ?_
 refine SafeOps.nil ?_
 repeat (first | refine sq ?_ | refine sk ?_ | with_reducible first | refine tn ?_ | refine bn ?_)
 refine ifG h (fun hc3197 h => ?_) (fun hc3197 h => ?_)
 ·skip
  refine Safe.condK rfl hc3197 ?_
  repeat (first | refine sq ?_ | refine sk ?_ | with_reducible first | refine tn ?_ | refine bn ?_)
  refine Safe.region ?_
  refine Q0 E_good rfl (v := V.agg [V.int .i64 0, V.int .i64 0, V.int .i64 0, V.int .i64 0, V.int .i64 0, V.bool false, V.int .i64 0]) (.fn rfl) ?_
  refine SafeOps.store (z := Obj.box [V.int .i64 0, V.int .i64 0, V.int .i64 0, V.int .i64 0, V.int .i64 0, V.bool false, V.int .i64 0]) E_good rfl rfl rfl rfl rfl rfl rfl (.boxM (c := 7) rfl rfl (Nat.le_of_ble_eq_true rfl) rfl) ?_
  refine Qf E_good ?_
  refine SafeOps.nil ?_
  repeat (first | refine sq ?_ | refine sk ?_ | with_reducible first | refine tn ?_ | refine bn ?_)
  refine Safe.ret ?_
  repeat (first | with_reducible refine thenQ.r ?_ | with_reducible refine blockQ.r ?_)
  obtain rfl := h
  exact retQ.gen (vs := [V.agg [V.int .i64 0, V.int .i64 0, V.int .i64 0, V.int .i64 0, V.int .i64 0, V.bool false, V.int .i64 0], V.int .i64 1]) rfl (.cell (v := V.agg [V.int .i64 0, V.int .i64 0, V.int .i64 0, V.int .i64 0, V.int .i64 0, V.bool false, V.int .i64 0]) rfl rfl (.box rfl rfl) rfl (.tmp (v := V.int .i64 1) rfl .nil)) (.free rfl) (by simp) (.inr rfl)
 ·skip
  refine Safe.condN rfl hc3197 ?_
  repeat (first | refine sq ?_ | refine sk ?_ | with_reducible first | refine tn ?_ | refine bn ?_)
  refine Safe.region ?_
  refine Qf E_good ?_
  refine Qf E_good ?_
  refine Q0 E_good rfl (v := V.agg [V.int .i64 a0_3194, V.int .i64 0, V.int .i64 a1_3195, V.int .i64 0, V.int .i64 0, V.bool false, V.int .i64 0]) (.fn rfl) ?_
  refine SafeOps.store (z := Obj.box [V.int .i64 a0_3194, V.int .i64 0, V.int .i64 a1_3195, V.int .i64 0, V.int .i64 0, V.bool false, V.int .i64 0]) E_good rfl rfl rfl rfl rfl rfl rfl (.boxM (c := 7) rfl rfl (Nat.le_of_ble_eq_true rfl) rfl) ?_
  refine Qf E_good ?_
  refine SafeOps.nil ?_
  repeat (first | refine sq ?_ | refine sk ?_ | with_reducible first | refine tn ?_ | refine bn ?_)
  refine Safe.ret ?_
  repeat (first | with_reducible refine thenQ.r ?_ | with_reducible refine blockQ.r ?_)
  obtain rfl := h
  exact retQ.gen (vs := [V.agg [V.int .i64 a0_3194, V.int .i64 0, V.int .i64 a1_3195, V.int .i64 0, V.int .i64 0, V.bool false, V.int .i64 0], V.int .i64 0]) rfl (.cell (v := V.agg [V.int .i64 a0_3194, V.int .i64 0, V.int .i64 a1_3195, V.int .i64 0, V.int .i64 0, V.bool false, V.int .i64 0]) rfl rfl (.box rfl rfl) rfl (.tmp (v := V.int .i64 0) rfl .nil)) (.free rfl) (by simp) (.inr rfl)

theorem okT27 : (eqOk Try.prog E 20 27 && !Try.prog.eqGuardType Try.prog.depth 27) = true := by kernel_rfl

noncomputable def go_ravellaw07_RingSteps_s3 (a0_2453 : List Int) (x_3250 : Bool) (x_3255 : List Int) (x_3264 : api_Hand) (x_3265 : Int) (x_3268 : api_Hand) (x_3269 : Int) (x_3271 : api_Hand) (x_3272 : Int) (x_3274 : api_Hand) (x_3275 : Int) (b_3284 : Bool) : ((List Int) × Int) → Option (((List Int) × Int) ⊕ (Bool))
 | (v13_3312, v124_3313) =>
  if (decide (v124_3313 < (x_3255.length : Int))) = true then
   if 0 ≤ v124_3313 ∧ v124_3313 < (v13_3312.length : Int) then
    if 0 ≤ v124_3313 ∧ v124_3313 < (v13_3312.length : Int) then
     nextO (st v13_3312 v124_3313 (IntKind.i64.wrap ((gt v13_3312 v124_3313) + 1)), IntKind.i64.wrap (v124_3313 + 1))
    else none
   else none
  else
   inrO (
    if (x_3250 && ((((b_3284 && (api_Hand.beq x_3264 x_3268)) && (x_3265 == x_3269)) && (api_Hand.beq x_3271 x_3274)) && (x_3272 == x_3275))) = true then
     (go_ravelref01_Same a0_2453 ([] ++ a0_2453)).bind fun x_3322 =>
     some x_3322
    else
     some false)

noncomputable def go_ravellaw07_RingSteps_j1 (a0_2453 : List Int) (x_3250 : Bool) (x_3255 : List Int) (x_3264 : api_Hand) (x_3265 : Int) (x_3268 : api_Hand) (x_3269 : Int) (x_3271 : api_Hand) (x_3272 : Int) (x_3274 : api_Hand) (x_3275 : Int) (b_3284 : Bool) : Option Bool :=
 whileO (go_ravellaw07_RingSteps_s3 a0_2453 x_3250 x_3255 x_3264 x_3265 x_3268 x_3269 x_3271 x_3272 x_3274 x_3275 b_3284) (x_3255, 0)

noncomputable def go_ravellaw07_RingSteps (a0_2453 : List Int) (a1_2454 : api_Deque) (a2_2455 : api_Hand) (a3_2456 : Int) (a4_2457 : Int) : Option Bool :=
 (go_ravellaw07_live).bind fun x_3250 =>
 if (!x_3250) = true then
  some false
 else
  if (decide ((a0_2453.length : Int) > 200)) = true then
   some x_3250
  else
   if few ([] ++ a0_2453).length then
    (go_ring_Step a0_2453 a1_2454 a2_2455).bind fun (x_3255, x_3256, x_3257) =>
    (go_ravelref07_Step a0_2453 a1_2454 a2_2455).bind fun (x_3259, x_3260, x_3261) =>
    (go_ring_Solo a0_2453 a1_2454 a2_2455).bind fun (x_3263, x_3264, x_3265) =>
    (go_ravelref07_Solo a0_2453 a1_2454 a2_2455).bind fun (x_3267, x_3268, x_3269) =>
    letO (go_ring_Start a3_2456 a4_2457) fun (x_3271, x_3272) =>
    letO (go_ravelref07_Start a3_2456 a4_2457) fun (x_3274, x_3275) =>
    (go_ravelref01_Same x_3255 x_3259).bind fun x_3277 =>
    if ((x_3277 && (api_Hand.beq x_3256 x_3260)) && (x_3257 == x_3261)) = true then
     (go_ravelref01_Same x_3263 x_3267).bind fun x_3324 =>
     go_ravellaw07_RingSteps_j1 a0_2453 x_3250 x_3255 x_3264 x_3265 x_3268 x_3269 x_3271 x_3272 x_3274 x_3275 x_3324
    else
     go_ravellaw07_RingSteps_j1 a0_2453 x_3250 x_3255 x_3264 x_3265 x_3268 x_3269 x_3271 x_3272 x_3274 x_3275 false
   else none

theorem go_ravellaw07_RingSteps_sc (a0_2453 : List Int) (a1_2454 : api_Deque) (a2_2455 : api_Hand) (a3_2456 : Int) (a4_2457 : Int) (r : Bool) (h : go_ravellaw07_RingSteps a0_2453 a1_2454 a2_2455 a3_2456 a4_2457 = some r) : SC Try.prog gl 3 [V.sl 1 (rws (fun n => [V.int .i64 n]) a0_2453), V.agg [V.int .i64 a1_2454.Base, V.int .i64 a1_2454.Cap], V.agg [V.int .i64 a2_2455.Kind, V.int .i64 a2_2455.Pc, V.int .i64 a2_2455.V, V.int .i64 a2_2455.T, V.int .i64 a2_2455.B, V.bool a2_2455.Won, V.int .i64 a2_2455.State], V.int .i64 a3_2456, V.int .i64 a4_2457] (V.bool r) := by
 rw [go_ravellaw07_RingSteps] at h
 refine SC.of E_good Try.func3 rfl (fun _ _ => Try.call3 _ _) rfl ?_
 repeat (first | refine sq ?_ | refine sk ?_ | with_reducible first | refine tn ?_ | refine bn ?_)
 refine Safe.region ?_
 refine SafeOps.quiet1 E_good rfl rfl rfl (.box rfl rfl) rfl ?_
 refine SafeOps.quiet1 E_good rfl rfl rfl (.box rfl rfl) rfl ?_
 refine Qf E_good ?_
 refine SafeOps.nil ?_
 repeat (first | refine sq ?_ | refine sk ?_ | with_reducible first | refine tn ?_ | refine bn ?_)
 refine Safe.region ?_
 refine bindG h ?_
 intro x_3250 he3251 h
 refine Q0 E_good rfl (v := V.bool x_3250) (.callP rfl rfl (go_ravellaw07_live_sc  _ he3251) rfl) ?_
 refine Qf E_good ?_
 refine SafeOps.nil ?_
 repeat (first | refine sq ?_ | refine sk ?_ | with_reducible first | refine tn ?_ | refine bn ?_)
 refine Safe.region ?_
 refine Qf E_good ?_
 refine Q0 E_good rfl (v := V.bool (!x_3250)) (.fn rfl) ?_
 refine SafeOps.nil ?_
 repeat (first | refine sq ?_ | refine sk ?_ | with_reducible first | refine tn ?_ | refine bn ?_)
 refine ifG h (fun hc3252 h => ?_) (fun hc3252 h => ?_)
 ·skip
  refine Safe.condK rfl hc3252 ?_
  repeat (first | refine sq ?_ | refine sk ?_ | with_reducible first | refine tn ?_ | refine bn ?_)
  refine Safe.region ?_
  refine Qf E_good ?_
  refine SafeOps.nil ?_
  repeat (first | refine sq ?_ | refine sk ?_ | with_reducible first | refine tn ?_ | refine bn ?_)
  refine Safe.ret ?_
  repeat (first | with_reducible refine thenQ.r ?_ | with_reducible refine blockQ.r ?_)
  obtain rfl := Option.some.inj h
  exact retQ.gen (vs := [V.bool false]) rfl (.tmp (v := V.bool false) rfl .nil) (.free rfl) (by simp) (.inr rfl)
 ·skip
  refine Safe.condN rfl hc3252 ?_
  repeat (first | refine sq ?_ | refine sk ?_ | with_reducible first | refine tn ?_ | refine bn ?_)
  refine Safe.region ?_
  refine Qf E_good ?_
  refine Q0 E_good rfl (v := V.int .i64 (a0_2453.length : Int)) (.fnE rfl lenE) ?_
  refine Q0 E_good rfl (v := V.bool (decide ((a0_2453.length : Int) > 200))) (.fn rfl) ?_
  refine SafeOps.nil ?_
  repeat (first | refine sq ?_ | refine sk ?_ | with_reducible first | refine tn ?_ | refine bn ?_)
  refine ifG h (fun hc3253 h => ?_) (fun hc3253 h => ?_)
  ·skip
   refine Safe.condK rfl hc3253 ?_
   repeat (first | refine sq ?_ | refine sk ?_ | with_reducible first | refine tn ?_ | refine bn ?_)
   refine Safe.region ?_
   refine Qf E_good ?_
   refine Qf E_good ?_
   refine SafeOps.nil ?_
   repeat (first | refine sq ?_ | refine sk ?_ | with_reducible first | refine tn ?_ | refine bn ?_)
   refine Safe.ret ?_
   repeat (first | with_reducible refine thenQ.r ?_ | with_reducible refine blockQ.r ?_)
   obtain rfl := Option.some.inj h
   exact retQ.gen (vs := [V.bool x_3250]) rfl (.tmp (v := V.bool x_3250) rfl .nil) (.free rfl) (by simp) (.inr rfl)
  ·skip
   refine Safe.condN rfl hc3253 ?_
   repeat (first | refine sq ?_ | refine sk ?_ | with_reducible first | refine tn ?_ | refine bn ?_)
   refine Safe.region ?_
   refine Qf E_good ?_
   refine okG h (fun hb3254 h => ?_)
   refine SafeOps.appendM (fun n => [V.int .i64 n]) (xs := []) (ys := a0_2453) E_good rfl rfl rfl rfl rfl rfl rfl rfl rfl .nils (.sl _) (fun _ => rfl) hb3254 ?_
   refine Qf E_good ?_
   refine SafeOps.nil ?_
   repeat (first | refine sq ?_ | refine sk ?_ | with_reducible first | refine tn ?_ | refine bn ?_)
   refine Safe.region ?_
   refine Qf E_good ?_
   refine Q0 E_good rfl (v := V.agg [V.int .i64 a1_2454.Base, V.int .i64 a1_2454.Cap]) (.load rfl rfl (.box rfl rfl) rfl) ?_
   refine Q0 E_good rfl (v := V.agg [V.int .i64 a2_2455.Kind, V.int .i64 a2_2455.Pc, V.int .i64 a2_2455.V, V.int .i64 a2_2455.T, V.int .i64 a2_2455.B, V.bool a2_2455.Won, V.int .i64 a2_2455.State]) (.load rfl rfl (.box rfl rfl) rfl) ?_
   refine bindG h ?_
   rintro ⟨x_3255, x_3256, x_3257⟩ he3258 h
   refine SafeOps.quiet E_good rfl rfl rfl (v := V.tup [V.ref [44, 0] 0 (rws (fun n => [V.int .i64 n]) x_3255).length, V.agg [V.int .i64 x_3256.Kind, V.int .i64 x_3256.Pc, V.int .i64 x_3256.V, V.int .i64 x_3256.T, V.int .i64 x_3256.B, V.bool x_3256.Won, V.int .i64 x_3256.State], V.int .i64 x_3257]) (.callP rfl rfl (go_ring_Step_sc a0_2453 a1_2454 a2_2455 _ he3258) rfl) rfl ?_
   refine Qf E_good ?_
   refine Qf E_good ?_
   refine Qf E_good ?_
   refine Qf E_good ?_
   refine SafeOps.quiet1 E_good rfl rfl rfl (.alloc rfl rfl) rfl ?_
   refine Qf E_good ?_
   refine SafeOps.store (z := Obj.box [V.int .i64 x_3256.Kind, V.int .i64 x_3256.Pc, V.int .i64 x_3256.V, V.int .i64 x_3256.T, V.int .i64 x_3256.B, V.bool x_3256.Won, V.int .i64 x_3256.State]) E_good rfl rfl rfl rfl rfl rfl rfl (.boxM (c := 7) rfl rfl (Nat.le_of_ble_eq_true rfl) rfl) ?_
   refine Qf E_good ?_
   refine SafeOps.nil ?_
   repeat (first | refine sq ?_ | refine sk ?_ | with_reducible first | refine tn ?_ | refine bn ?_)
   refine Safe.region ?_
   refine Qf E_good ?_
   refine Q0 E_good rfl (v := V.agg [V.int .i64 a1_2454.Base, V.int .i64 a1_2454.Cap]) (.load rfl rfl (.box rfl rfl) rfl) ?_
   refine Q0 E_good rfl (v := V.agg [V.int .i64 a2_2455.Kind, V.int .i64 a2_2455.Pc, V.int .i64 a2_2455.V, V.int .i64 a2_2455.T, V.int .i64 a2_2455.B, V.bool a2_2455.Won, V.int .i64 a2_2455.State]) (.load rfl rfl (.box rfl rfl) rfl) ?_
   refine bindG h ?_
   rintro ⟨x_3259, x_3260, x_3261⟩ he3262 h
   refine Q0 E_good rfl (v := V.tup [V.sl 1 (rws (fun n => [V.int .i64 n]) x_3259), V.agg [V.int .i64 x_3260.Kind, V.int .i64 x_3260.Pc, V.int .i64 x_3260.V, V.int .i64 x_3260.T, V.int .i64 x_3260.B, V.bool x_3260.Won, V.int .i64 x_3260.State], V.int .i64 x_3261]) (.callP rfl rfl (go_ravelref07_Step_sc a0_2453 a1_2454 a2_2455 _ he3262) rfl) ?_
   refine Qf E_good ?_
   refine Qf E_good ?_
   refine Qf E_good ?_
   refine Qf E_good ?_
   refine SafeOps.quiet1 E_good rfl rfl rfl (.alloc rfl rfl) rfl ?_
   refine Qf E_good ?_
   refine SafeOps.store (z := Obj.box [V.int .i64 x_3260.Kind, V.int .i64 x_3260.Pc, V.int .i64 x_3260.V, V.int .i64 x_3260.T, V.int .i64 x_3260.B, V.bool x_3260.Won, V.int .i64 x_3260.State]) E_good rfl rfl rfl rfl rfl rfl rfl (.boxM (c := 7) rfl rfl (Nat.le_of_ble_eq_true rfl) rfl) ?_
   refine Qf E_good ?_
   refine SafeOps.nil ?_
   repeat (first | refine sq ?_ | refine sk ?_ | with_reducible first | refine tn ?_ | refine bn ?_)
   refine Safe.region ?_
   refine Qf E_good ?_
   refine Q0 E_good rfl (v := V.agg [V.int .i64 a1_2454.Base, V.int .i64 a1_2454.Cap]) (.load rfl rfl (.box rfl rfl) rfl) ?_
   refine Q0 E_good rfl (v := V.agg [V.int .i64 a2_2455.Kind, V.int .i64 a2_2455.Pc, V.int .i64 a2_2455.V, V.int .i64 a2_2455.T, V.int .i64 a2_2455.B, V.bool a2_2455.Won, V.int .i64 a2_2455.State]) (.load rfl rfl (.box rfl rfl) rfl) ?_
   refine bindG h ?_
   rintro ⟨x_3263, x_3264, x_3265⟩ he3266 h
   refine SafeOps.quiet E_good rfl rfl rfl (v := V.tup [V.ref [60, 0] 0 (rws (fun n => [V.int .i64 n]) x_3263).length, V.agg [V.int .i64 x_3264.Kind, V.int .i64 x_3264.Pc, V.int .i64 x_3264.V, V.int .i64 x_3264.T, V.int .i64 x_3264.B, V.bool x_3264.Won, V.int .i64 x_3264.State], V.int .i64 x_3265]) (.callP rfl rfl (go_ring_Solo_sc a0_2453 a1_2454 a2_2455 _ he3266) rfl) rfl ?_
   refine Qf E_good ?_
   refine Qf E_good ?_
   refine Qf E_good ?_
   refine Qf E_good ?_
   refine SafeOps.quiet1 E_good rfl rfl rfl (.alloc rfl rfl) rfl ?_
   refine Qf E_good ?_
   refine SafeOps.store (z := Obj.box [V.int .i64 x_3264.Kind, V.int .i64 x_3264.Pc, V.int .i64 x_3264.V, V.int .i64 x_3264.T, V.int .i64 x_3264.B, V.bool x_3264.Won, V.int .i64 x_3264.State]) E_good rfl rfl rfl rfl rfl rfl rfl (.boxM (c := 7) rfl rfl (Nat.le_of_ble_eq_true rfl) rfl) ?_
   refine Qf E_good ?_
   refine SafeOps.nil ?_
   repeat (first | refine sq ?_ | refine sk ?_ | with_reducible first | refine tn ?_ | refine bn ?_)
   refine Safe.region ?_
   refine Qf E_good ?_
   refine Q0 E_good rfl (v := V.agg [V.int .i64 a1_2454.Base, V.int .i64 a1_2454.Cap]) (.load rfl rfl (.box rfl rfl) rfl) ?_
   refine Q0 E_good rfl (v := V.agg [V.int .i64 a2_2455.Kind, V.int .i64 a2_2455.Pc, V.int .i64 a2_2455.V, V.int .i64 a2_2455.T, V.int .i64 a2_2455.B, V.bool a2_2455.Won, V.int .i64 a2_2455.State]) (.load rfl rfl (.box rfl rfl) rfl) ?_
   refine bindG h ?_
   rintro ⟨x_3267, x_3268, x_3269⟩ he3270 h
   refine Q0 E_good rfl (v := V.tup [V.sl 1 (rws (fun n => [V.int .i64 n]) x_3267), V.agg [V.int .i64 x_3268.Kind, V.int .i64 x_3268.Pc, V.int .i64 x_3268.V, V.int .i64 x_3268.T, V.int .i64 x_3268.B, V.bool x_3268.Won, V.int .i64 x_3268.State], V.int .i64 x_3269]) (.callP rfl rfl (go_ravelref07_Solo_sc a0_2453 a1_2454 a2_2455 _ he3270) rfl) ?_
   refine Qf E_good ?_
   refine Qf E_good ?_
   refine Qf E_good ?_
   refine Qf E_good ?_
   refine SafeOps.quiet1 E_good rfl rfl rfl (.alloc rfl rfl) rfl ?_
   refine Qf E_good ?_
   refine SafeOps.store (z := Obj.box [V.int .i64 x_3268.Kind, V.int .i64 x_3268.Pc, V.int .i64 x_3268.V, V.int .i64 x_3268.T, V.int .i64 x_3268.B, V.bool x_3268.Won, V.int .i64 x_3268.State]) E_good rfl rfl rfl rfl rfl rfl rfl (.boxM (c := 7) rfl rfl (Nat.le_of_ble_eq_true rfl) rfl) ?_
   refine Qf E_good ?_
   refine SafeOps.nil ?_
   repeat (first | refine sq ?_ | refine sk ?_ | with_reducible first | refine tn ?_ | refine bn ?_)
   refine Safe.region ?_
   refine Qf E_good ?_
   refine Qf E_good ?_
   refine letG h ?_
   rintro ⟨x_3271, x_3272⟩ he3273 h
   refine Q0 E_good rfl (v := V.tup [V.agg [V.int .i64 x_3271.Kind, V.int .i64 x_3271.Pc, V.int .i64 x_3271.V, V.int .i64 x_3271.T, V.int .i64 x_3271.B, V.bool x_3271.Won, V.int .i64 x_3271.State], V.int .i64 x_3272]) (.callP rfl rfl (go_ring_Start_sc a3_2456 a4_2457 _ he3273) rfl) ?_
   refine Qf E_good ?_
   refine Qf E_good ?_
   refine Qf E_good ?_
   refine SafeOps.quiet1 E_good rfl rfl rfl (.alloc rfl rfl) rfl ?_
   refine SafeOps.store (z := Obj.box [V.int .i64 x_3271.Kind, V.int .i64 x_3271.Pc, V.int .i64 x_3271.V, V.int .i64 x_3271.T, V.int .i64 x_3271.B, V.bool x_3271.Won, V.int .i64 x_3271.State]) E_good rfl rfl rfl rfl rfl rfl rfl (.boxM (c := 7) rfl rfl (Nat.le_of_ble_eq_true rfl) rfl) ?_
   refine Qf E_good ?_
   refine SafeOps.nil ?_
   repeat (first | refine sq ?_ | refine sk ?_ | with_reducible first | refine tn ?_ | refine bn ?_)
   refine Safe.region ?_
   refine Qf E_good ?_
   refine Qf E_good ?_
   refine letG h ?_
   rintro ⟨x_3274, x_3275⟩ he3276 h
   refine Q0 E_good rfl (v := V.tup [V.agg [V.int .i64 x_3274.Kind, V.int .i64 x_3274.Pc, V.int .i64 x_3274.V, V.int .i64 x_3274.T, V.int .i64 x_3274.B, V.bool x_3274.Won, V.int .i64 x_3274.State], V.int .i64 x_3275]) (.callP rfl rfl (go_ravelref07_Start_sc a3_2456 a4_2457 _ he3276) rfl) ?_
   refine Qf E_good ?_
   refine Qf E_good ?_
   refine Qf E_good ?_
   refine SafeOps.quiet1 E_good rfl rfl rfl (.alloc rfl rfl) rfl ?_
   refine SafeOps.store (z := Obj.box [V.int .i64 x_3274.Kind, V.int .i64 x_3274.Pc, V.int .i64 x_3274.V, V.int .i64 x_3274.T, V.int .i64 x_3274.B, V.bool x_3274.Won, V.int .i64 x_3274.State]) E_good rfl rfl rfl rfl rfl rfl rfl (.boxM (c := 7) rfl rfl (Nat.le_of_ble_eq_true rfl) rfl) ?_
   refine Qf E_good ?_
   refine SafeOps.nil ?_
   repeat (first | refine sq ?_ | refine sk ?_ | with_reducible first | refine tn ?_ | refine bn ?_)
   refine Safe.region ?_
   refine Qf E_good ?_
   refine Qf E_good ?_
   refine bindG h ?_
   intro x_3277 he3278 h
   refine Q0 E_good rfl (v := V.bool x_3277) (.callS rfl (.cons (.full rfl rfl) (.cons (.free rfl) .nil)) (go_ravelref01_Same_sc x_3255 x_3259 _ he3278) (.plain rfl) rfl) ?_
   refine Qf E_good ?_
   refine SafeOps.bjoin 4 91 (b := (x_3277 && (api_Hand.beq x_3256 x_3260))) (b1 := api_Hand.beq x_3256 x_3260) (b0 := false) (fun hc3279 K => ?_) (fun hc3279 K => ?_) bj_and ?_
   ·skip
    refine SafeOps.quiet0 E_good (congrArg some hc3279) rfl rfl (v := V.agg [V.int .i64 x_3256.Kind, V.int .i64 x_3256.Pc, V.int .i64 x_3256.V, V.int .i64 x_3256.T, V.int .i64 x_3256.B, V.bool x_3256.Won, V.int .i64 x_3256.State]) (.load rfl rfl (.box rfl rfl) rfl) ?_
    refine SafeOps.quiet0 E_good (congrArg some hc3279) rfl rfl (v := V.agg [V.int .i64 x_3260.Kind, V.int .i64 x_3260.Pc, V.int .i64 x_3260.V, V.int .i64 x_3260.T, V.int .i64 x_3260.B, V.bool x_3260.Won, V.int .i64 x_3260.State]) (.load rfl rfl (.box rfl rfl) rfl) ?_
    refine SafeOps.quiet0 E_good (congrArg some hc3279) rfl rfl (v := V.bool (api_Hand.beq x_3256 x_3260)) (.eqA rfl rfl rfl rfl okT27 rfl) ?_
    refine Q0 E_good rfl (v := V.bool (api_Hand.beq x_3256 x_3260)) (.pickK rfl hc3279 rfl) ?_
    exact SafeOps.drop' 4 rfl rfl rfl K
   ·skip
    refine SafeOps.skip (congrArg some hc3279) rfl rfl ?_
    refine SafeOps.skip (congrArg some hc3279) rfl rfl ?_
    refine SafeOps.skip (congrArg some hc3279) rfl rfl ?_
    refine Q0 E_good rfl (v := V.bool false) (.pickK rfl hc3279 rfl) ?_
    exact SafeOps.drop' 4 rfl rfl rfl K
   refine Qf E_good ?_
   refine SafeOps.bjoin 4 96 (b := ((x_3277 && (api_Hand.beq x_3256 x_3260)) && (x_3257 == x_3261))) (b1 := (x_3257 == x_3261)) (b0 := false) (fun hc3280 K => ?_) (fun hc3280 K => ?_) bj_and ?_
   ·skip
    refine SafeOps.quiet0 E_good (congrArg some hc3280) rfl rfl (.fn rfl) ?_
    refine SafeOps.quiet0 E_good (congrArg some hc3280) rfl rfl (.fn rfl) ?_
    refine SafeOps.quiet0 E_good (congrArg some hc3280) rfl rfl (v := V.bool (x_3257 == x_3261)) (.fn rfl) ?_
    refine Q0 E_good rfl (v := V.bool (x_3257 == x_3261)) (.pickK rfl hc3280 rfl) ?_
    exact SafeOps.drop' 4 rfl rfl rfl K
   ·skip
    refine SafeOps.skip (congrArg some hc3280) rfl rfl ?_
    refine SafeOps.skip (congrArg some hc3280) rfl rfl ?_
    refine SafeOps.skip (congrArg some hc3280) rfl rfl ?_
    refine Q0 E_good rfl (v := V.bool false) (.pickK rfl hc3280 rfl) ?_
    exact SafeOps.drop' 4 rfl rfl rfl K
   refine Qf E_good ?_
   refine SafeOps.bsplit 4 101 (fun b_3284 => go_ravellaw07_RingSteps_j1 a0_2453 x_3250 x_3255 x_3264 x_3265 x_3268 x_3269 x_3271 x_3272 x_3274 x_3275 b_3284 = some r) (fun HJ3285 => ?_) (fun b_3284 h => ?_)
   ·refine ifG h (fun hc3281 h => ?_) (fun hc3281 h => ?_)
    ·skip
     refine SafeOps.quiet0 E_good (congrArg some hc3281) rfl rfl (.fn rfl) ?_
     refine SafeOps.quiet0 E_good (congrArg some hc3281) rfl rfl (.fn rfl) ?_
     refine bindG h ?_
     intro x_3324 he3325 h
     refine SafeOps.quiet0 E_good (congrArg some hc3281) rfl rfl (v := V.bool x_3324) (.callS rfl (.cons (.full rfl rfl) (.cons (.free rfl) .nil)) (go_ravelref01_Same_sc x_3263 x_3267 _ he3325) (.plain rfl) rfl) ?_
     refine Q0 E_good rfl (v := V.bool x_3324) (.pickK rfl hc3281 rfl) ?_
     exact SafeOps.drop' 4 rfl rfl rfl (HJ3285 _ h)
    ·skip
     refine SafeOps.skip (congrArg some hc3281) rfl rfl ?_
     refine SafeOps.skip (congrArg some hc3281) rfl rfl ?_
     refine SafeOps.skip (congrArg some hc3281) rfl rfl ?_
     refine Q0 E_good rfl (v := V.bool false) (.pickK rfl hc3281 rfl) ?_
     exact SafeOps.drop' 4 rfl rfl rfl (HJ3285 _ h)
   ·replace h : go_ravellaw07_RingSteps_j1 a0_2453 x_3250 x_3255 x_3264 x_3265 x_3268 x_3269 x_3271 x_3272 x_3274 x_3275 b_3284 = some r := h
    rw [go_ravellaw07_RingSteps_j1] at h
    refine Qf E_good ?_
    refine SafeOps.bjoin 4 106 (b := (b_3284 && (api_Hand.beq x_3264 x_3268))) (b1 := api_Hand.beq x_3264 x_3268) (b0 := false) (fun hc3286 K => ?_) (fun hc3286 K => ?_) bj_and ?_
    ·skip
     refine SafeOps.quiet0 E_good (congrArg some hc3286) rfl rfl (v := V.agg [V.int .i64 x_3264.Kind, V.int .i64 x_3264.Pc, V.int .i64 x_3264.V, V.int .i64 x_3264.T, V.int .i64 x_3264.B, V.bool x_3264.Won, V.int .i64 x_3264.State]) (.load rfl rfl (.box rfl rfl) rfl) ?_
     refine SafeOps.quiet0 E_good (congrArg some hc3286) rfl rfl (v := V.agg [V.int .i64 x_3268.Kind, V.int .i64 x_3268.Pc, V.int .i64 x_3268.V, V.int .i64 x_3268.T, V.int .i64 x_3268.B, V.bool x_3268.Won, V.int .i64 x_3268.State]) (.load rfl rfl (.box rfl rfl) rfl) ?_
     refine SafeOps.quiet0 E_good (congrArg some hc3286) rfl rfl (v := V.bool (api_Hand.beq x_3264 x_3268)) (.eqA rfl rfl rfl rfl okT27 rfl) ?_
     refine Q0 E_good rfl (v := V.bool (api_Hand.beq x_3264 x_3268)) (.pickK rfl hc3286 rfl) ?_
     exact SafeOps.drop' 4 rfl rfl rfl K
    ·skip
     refine SafeOps.skip (congrArg some hc3286) rfl rfl ?_
     refine SafeOps.skip (congrArg some hc3286) rfl rfl ?_
     refine SafeOps.skip (congrArg some hc3286) rfl rfl ?_
     refine Q0 E_good rfl (v := V.bool false) (.pickK rfl hc3286 rfl) ?_
     exact SafeOps.drop' 4 rfl rfl rfl K
    refine Qf E_good ?_
    refine SafeOps.bjoin 4 111 (b := ((b_3284 && (api_Hand.beq x_3264 x_3268)) && (x_3265 == x_3269))) (b1 := (x_3265 == x_3269)) (b0 := false) (fun hc3287 K => ?_) (fun hc3287 K => ?_) bj_and ?_
    ·skip
     refine SafeOps.quiet0 E_good (congrArg some hc3287) rfl rfl (.fn rfl) ?_
     refine SafeOps.quiet0 E_good (congrArg some hc3287) rfl rfl (.fn rfl) ?_
     refine SafeOps.quiet0 E_good (congrArg some hc3287) rfl rfl (v := V.bool (x_3265 == x_3269)) (.fn rfl) ?_
     refine Q0 E_good rfl (v := V.bool (x_3265 == x_3269)) (.pickK rfl hc3287 rfl) ?_
     exact SafeOps.drop' 4 rfl rfl rfl K
    ·skip
     refine SafeOps.skip (congrArg some hc3287) rfl rfl ?_
     refine SafeOps.skip (congrArg some hc3287) rfl rfl ?_
     refine SafeOps.skip (congrArg some hc3287) rfl rfl ?_
     refine Q0 E_good rfl (v := V.bool false) (.pickK rfl hc3287 rfl) ?_
     exact SafeOps.drop' 4 rfl rfl rfl K
    refine Qf E_good ?_
    refine SafeOps.bjoin 4 116 (b := (((b_3284 && (api_Hand.beq x_3264 x_3268)) && (x_3265 == x_3269)) && (api_Hand.beq x_3271 x_3274))) (b1 := api_Hand.beq x_3271 x_3274) (b0 := false) (fun hc3288 K => ?_) (fun hc3288 K => ?_) bj_and ?_
    ·skip
     refine SafeOps.quiet0 E_good (congrArg some hc3288) rfl rfl (v := V.agg [V.int .i64 x_3271.Kind, V.int .i64 x_3271.Pc, V.int .i64 x_3271.V, V.int .i64 x_3271.T, V.int .i64 x_3271.B, V.bool x_3271.Won, V.int .i64 x_3271.State]) (.load rfl rfl (.box rfl rfl) rfl) ?_
     refine SafeOps.quiet0 E_good (congrArg some hc3288) rfl rfl (v := V.agg [V.int .i64 x_3274.Kind, V.int .i64 x_3274.Pc, V.int .i64 x_3274.V, V.int .i64 x_3274.T, V.int .i64 x_3274.B, V.bool x_3274.Won, V.int .i64 x_3274.State]) (.load rfl rfl (.box rfl rfl) rfl) ?_
     refine SafeOps.quiet0 E_good (congrArg some hc3288) rfl rfl (v := V.bool (api_Hand.beq x_3271 x_3274)) (.eqA rfl rfl rfl rfl okT27 rfl) ?_
     refine Q0 E_good rfl (v := V.bool (api_Hand.beq x_3271 x_3274)) (.pickK rfl hc3288 rfl) ?_
     exact SafeOps.drop' 4 rfl rfl rfl K
    ·skip
     refine SafeOps.skip (congrArg some hc3288) rfl rfl ?_
     refine SafeOps.skip (congrArg some hc3288) rfl rfl ?_
     refine SafeOps.skip (congrArg some hc3288) rfl rfl ?_
     refine Q0 E_good rfl (v := V.bool false) (.pickK rfl hc3288 rfl) ?_
     exact SafeOps.drop' 4 rfl rfl rfl K
    refine Qf E_good ?_
    refine SafeOps.bjoin 4 121 (b := ((((b_3284 && (api_Hand.beq x_3264 x_3268)) && (x_3265 == x_3269)) && (api_Hand.beq x_3271 x_3274)) && (x_3272 == x_3275))) (b1 := (x_3272 == x_3275)) (b0 := false) (fun hc3289 K => ?_) (fun hc3289 K => ?_) bj_and ?_
    ·skip
     refine SafeOps.quiet0 E_good (congrArg some hc3289) rfl rfl (.fn rfl) ?_
     refine SafeOps.quiet0 E_good (congrArg some hc3289) rfl rfl (.fn rfl) ?_
     refine SafeOps.quiet0 E_good (congrArg some hc3289) rfl rfl (v := V.bool (x_3272 == x_3275)) (.fn rfl) ?_
     refine Q0 E_good rfl (v := V.bool (x_3272 == x_3275)) (.pickK rfl hc3289 rfl) ?_
     exact SafeOps.drop' 4 rfl rfl rfl K
    ·skip
     refine SafeOps.skip (congrArg some hc3289) rfl rfl ?_
     refine SafeOps.skip (congrArg some hc3289) rfl rfl ?_
     refine SafeOps.skip (congrArg some hc3289) rfl rfl ?_
     refine Q0 E_good rfl (v := V.bool false) (.pickK rfl hc3289 rfl) ?_
     exact SafeOps.drop' 4 rfl rfl rfl K
    refine Qf E_good ?_
    refine SafeOps.nil ?_
    repeat (first | refine sq ?_ | refine sk ?_ | with_reducible first | refine tn ?_ | refine bn ?_)
    refine Safe.region ?_
    refine Qf E_good ?_
    refine Q0 E_good rfl (v := V.int .i64 (x_3255.length : Int)) (.fnE rfl lenE) ?_
    refine Qf E_good ?_
    refine SafeOps.nil ?_
    repeat (first | refine sq ?_ | refine sk ?_ | with_reducible first | refine tn ?_ | refine bn ?_)
    refine Safe.block ?_
    repeat (first | refine sq ?_ | refine sk ?_ | with_reducible first | refine tn ?_ | refine bn ?_)
    refine Safe.loopW (fun ((v13_3312, v124_3313) : (List Int) × Int) => ⟨Try.f3.ntmps, [(0, V.sl 1 (rws (fun n => [V.int .i64 n]) a0_2453)), (11, V.bool x_3250), (12, V.ref [39] 0 (rws (fun n => [V.int .i64 n]) ([] ++ a0_2453)).length), (13, V.ref [44, 0] 0 (rws (fun n => [V.int .i64 n]) v13_3312).length), (29, V.bool ((((b_3284 && (api_Hand.beq x_3264 x_3268)) && (x_3265 == x_3269)) && (api_Hand.beq x_3271 x_3274)) && (x_3272 == x_3275))), (123, V.int .i64 (x_3255.length : Int)), (124, V.int .i64 v124_3313)], [([39], Obj.rows 1 (rws (fun n => [V.int .i64 n]) ([] ++ a0_2453)) false), ([44, 0], Obj.rows 1 (rws (fun n => [V.int .i64 n]) v13_3312) false)], [], []⟩) h (.cov ⟨rfl, rfl, (ut (ut (ut (ut (ut (ut (ut upT_nil))))))), (uo (uo upOb_nil)), upOut_nil, rfl⟩) ?_
    rintro ⟨v13_3312, v124_3313⟩ ohr3314 h hr3314
    replace h : go_ravellaw07_RingSteps_s3 a0_2453 x_3250 x_3255 x_3264 x_3265 x_3268 x_3269 x_3271 x_3272 x_3274 x_3275 b_3284 (v13_3312, v124_3313) = some ohr3314 := h
    rw [go_ravellaw07_RingSteps_s3] at h
    repeat (first | refine sq ?_ | refine sk ?_ | with_reducible first | refine tn ?_ | refine bn ?_)
    refine Safe.region ?_
    refine Q0 E_good rfl (v := V.bool (decide (v124_3313 < (x_3255.length : Int)))) (.fn rfl) ?_
    refine SafeOps.nil ?_
    repeat (first | refine sq ?_ | refine sk ?_ | with_reducible first | refine tn ?_ | refine bn ?_)
    refine ifG h (fun hc3315 h => ?_) (fun hc3315 h => ?_)
    ·skip
     refine Safe.condK rfl hc3315 ?_
     repeat (first | refine sq ?_ | refine sk ?_ | with_reducible first | refine tn ?_ | refine bn ?_)
     refine Safe.block ?_
     repeat (first | refine sq ?_ | refine sk ?_ | with_reducible first | refine tn ?_ | refine bn ?_)
     refine Safe.region ?_
     refine Qf E_good ?_
     refine Qf E_good ?_
     refine SafeOps.nil ?_
     repeat (first | refine sq ?_ | refine sk ?_ | with_reducible first | refine tn ?_ | refine bn ?_)
     refine Safe.region ?_
     refine Qf E_good ?_
     refine Qf E_good ?_
     refine okG h (fun hb3316 h => ?_)
     refine Q0 E_good rfl (v := V.ptr [44, 0] (0 + Int.toNat v124_3313) 0) (.idxRefM (f := (fun n => [V.int .i64 n])) (xs := v13_3312) rfl rfl rfl rfl rfl rfl hb3316) ?_
     refine Q0 E_good rfl (v := V.int .i64 (gt v13_3312 v124_3313)) (.load rfl rfl (.rowsM (f := (fun n => [V.int .i64 n])) (xs := v13_3312) hb3316 rfl rfl) rfl) ?_
     refine Q0 E_good rfl (v := V.int .i64 (IntKind.i64.wrap ((gt v13_3312 v124_3313) + 1))) (.fn rfl) ?_
     refine okG h (fun hb3317 h => ?_)
     refine Q0 E_good rfl (v := V.ptr [44, 0] (0 + Int.toNat v124_3313) 0) (.idxRefM (f := (fun n => [V.int .i64 n])) (xs := v13_3312) rfl rfl rfl rfl rfl rfl hb3317) ?_
     refine SafeOps.store (z := Obj.rows 1 (rws (fun n => [V.int .i64 n]) (st v13_3312 v124_3313 (IntKind.i64.wrap ((gt v13_3312 v124_3313) + 1)))) false) E_good rfl rfl rfl rfl rfl rfl rfl (.rowsM (f := (fun n => [V.int .i64 n])) (xs := v13_3312) (y := IntKind.i64.wrap ((gt v13_3312 v124_3313) + 1)) hb3317 rfl rfl rfl rfl) ?_
     refine SafeOps.see 13 (u := V.ref [44, 0] 0 (rws (fun n => [V.int .i64 n]) (st v13_3312 v124_3313 (IntKind.i64.wrap ((gt v13_3312 v124_3313) + 1)))).length) rfl (.len (by simp [rws, st])) ?_
     refine SafeOps.see 127 (u := V.ref [44, 0] 0 (rws (fun n => [V.int .i64 n]) (st v13_3312 v124_3313 (IntKind.i64.wrap ((gt v13_3312 v124_3313) + 1)))).length) rfl (.len (by simp [rws, st])) ?_
     refine SafeOps.nil ?_
     repeat (first | refine sq ?_ | refine sk ?_ | with_reducible first | refine tn ?_ | refine bn ?_)
     refine Safe.region ?_
     refine Q0 E_good rfl (v := V.int .i64 (IntKind.i64.wrap (v124_3313 + 1))) (.fn rfl) ?_
     refine Qf E_good ?_
     refine SafeOps.nil ?_
     repeat (first | refine sq ?_ | refine sk ?_ | with_reducible first | refine tn ?_ | refine bn ?_)
     exact ⟨_, next_out h, (.cov ⟨rfl, rfl, (ut (ut (ut (ut (ut (ut (ut upT_nil))))))), (uo (uo upOb_nil)), upOut_nil, rfl⟩)⟩
    ·skip
     refine Safe.condN rfl hc3315 ?_
     repeat (first | refine sq ?_ | refine sk ?_ | with_reducible first | refine tn ?_ | refine bn ?_)
     refine Safe.exit ?_
     repeat (first | with_reducible refine thenQ.e ?_ | with_reducible refine blockQ.x rfl ?_ | with_reducible refine blockQ.y rfl ?_)
     replace h := inr_out h hr3314
     repeat (first | refine sq ?_ | refine sk ?_ | with_reducible first | refine tn ?_ | refine bn ?_)
     refine Safe.region ?_
     refine Qf E_good ?_
     refine Qf E_good ?_
     refine SafeOps.bjoin 2 137 (b := (x_3250 && ((((b_3284 && (api_Hand.beq x_3264 x_3268)) && (x_3265 == x_3269)) && (api_Hand.beq x_3271 x_3274)) && (x_3272 == x_3275)))) (b1 := ((((b_3284 && (api_Hand.beq x_3264 x_3268)) && (x_3265 == x_3269)) && (api_Hand.beq x_3271 x_3274)) && (x_3272 == x_3275))) (b0 := false) (fun hc3318 K => ?_) (fun hc3318 K => ?_) bj_and ?_
     ·skip
      refine SafeOps.quiet0 E_good (congrArg some hc3318) rfl rfl (.fn rfl) ?_
      refine Q0 E_good rfl (v := V.bool ((((b_3284 && (api_Hand.beq x_3264 x_3268)) && (x_3265 == x_3269)) && (api_Hand.beq x_3271 x_3274)) && (x_3272 == x_3275))) (.pickK rfl hc3318 rfl) ?_
      exact SafeOps.drop' 2 rfl rfl rfl K
     ·skip
      refine SafeOps.skip (congrArg some hc3318) rfl rfl ?_
      refine Q0 E_good rfl (v := V.bool false) (.pickK rfl hc3318 rfl) ?_
      exact SafeOps.drop' 2 rfl rfl rfl K
     refine Qf E_good ?_
     refine ifG h (fun hc3319 h => ?_) (fun hc3319 h => ?_)
     ·skip
      refine SafeOps.quiet0 E_good (congrArg some hc3319) rfl rfl (.fn rfl) ?_
      refine SafeOps.quiet0 E_good (congrArg some hc3319) rfl rfl (.fn rfl) ?_
      refine bindG h ?_
      intro x_3322 he3323 h
      refine SafeOps.quiet0 E_good (congrArg some hc3319) rfl rfl (v := V.bool x_3322) (.callS rfl (.cons (.free rfl) (.cons (.full rfl rfl) .nil)) (go_ravelref01_Same_sc a0_2453 ([] ++ a0_2453) _ he3323) (.plain rfl) rfl) ?_
      refine Q0 E_good rfl (v := V.bool x_3322) (.pickK rfl hc3319 rfl) ?_
      refine Qf E_good ?_
      refine SafeOps.nil ?_
      repeat (first | refine sq ?_ | refine sk ?_ | with_reducible first | refine tn ?_ | refine bn ?_)
      refine Safe.ret ?_
      repeat (first | with_reducible refine thenQ.r ?_ | with_reducible refine blockQ.r ?_)
      obtain rfl := Option.some.inj h
      exact retQ.gen (vs := [V.bool x_3322]) rfl (.tmp (v := V.bool x_3322) rfl .nil) (.free rfl) (by simp) (.inr rfl)
     ·skip
      refine SafeOps.skip (congrArg some hc3319) rfl rfl ?_
      refine SafeOps.skip (congrArg some hc3319) rfl rfl ?_
      refine SafeOps.skip (congrArg some hc3319) rfl rfl ?_
      refine Q0 E_good rfl (v := V.bool false) (.pickK rfl hc3319 rfl) ?_
      refine Qf E_good ?_
      refine SafeOps.nil ?_
      repeat (first | refine sq ?_ | refine sk ?_ | with_reducible first | refine tn ?_ | refine bn ?_)
      refine Safe.ret ?_
      repeat (first | with_reducible refine thenQ.r ?_ | with_reducible refine blockQ.r ?_)
      obtain rfl := Option.some.inj h
      exact retQ.gen (vs := [V.bool false]) rfl (.tmp (v := V.bool false) rfl .nil) (.free rfl) (by simp) (.inr rfl)
end Go.Proofs.Ytoapmmcoaggekaa
