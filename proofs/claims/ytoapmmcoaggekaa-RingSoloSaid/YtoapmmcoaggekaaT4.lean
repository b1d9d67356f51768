/- Helper lemmas for the claim's theorem: an abstract machine over the model, proved sound; no condition beyond each lemma's own. -/
import Derived.Test.YtoapmmcoaggekaaT3
set_option linter.unusedVariables false
set_option linter.unusedSimpArgs false
set_option linter.unnecessarySimpa false
set_option linter.unusedSectionVars false
namespace Go.Proofs.Ytoapmmcoaggekaa
open Go Go.AM
set_option maxRecDepth 100000
set_option maxHeartbeats 1000000
set_option linter.unusedVariables false
set_option linter.unusedSimpArgs false
variable {gl : List (Nat × List V)}
noncomputable def go_ravellaw07_RingSolo_j8 (a0_3326 : Int) (v58_3631 : Int) (x_3639 : List Int) (v10_3656 : List Int) (b_3670 : Bool) : Option (((List Int) × (List Int) × Int) ⊕ (Bool)) :=
 if b_3670 = true then
  inrO (
   some false)
 else
  if 0 ≤ (IntKind.i64.wrap (a0_3326 + 3)) ∧ (IntKind.i64.wrap (a0_3326 + 3)) < (x_3639.length : Int) then
   if ((gt x_3639 (IntKind.i64.wrap (a0_3326 + 3))) != 0) = true then
    inrO (
     some false)
   else
    nextO (x_3639, v10_3656, IntKind.i64.wrap (v58_3631 + 1))
  else none

noncomputable def go_ravellaw07_RingSolo_j7 (a0_3326 : Int) (v58_3631 : Int) (x_3639 : List Int) (v10_3656 : List Int) (b_3666 : Bool) : Option (((List Int) × (List Int) × Int) ⊕ (Bool)) :=
 if b_3666 = true then
  go_ravellaw07_RingSolo_j8 a0_3326 v58_3631 x_3639 v10_3656 true
 else
  if 0 ≤ (0 : Int) ∧ (0 : Int) < (x_3639.length : Int) then
   go_ravellaw07_RingSolo_j8 a0_3326 v58_3631 x_3639 v10_3656 ((gt x_3639 0) != 0)
  else none

noncomputable def go_ravellaw07_RingSolo_j6 (a0_3326 : Int) (v58_3631 : Int) (x_3639 : List Int) (x_3640 : api_Hand) (v10_3656 : List Int) (v19_3657 : Int) : Option (((List Int) × (List Int) × Int) ⊕ (Bool)) :=
 (go_ring_List x_3639 (api_Deque.mk 1 a0_3326)).bind fun (x_3659, x_3660) =>
 if ((x_3640.State != v19_3657) || (x_3660 != 0)) = true then
  go_ravellaw07_RingSolo_j7 a0_3326 v58_3631 x_3639 v10_3656 true
 else
  (go_ravelref01_Same x_3659 v10_3656).bind fun x_3677 =>
  go_ravellaw07_RingSolo_j7 a0_3326 v58_3631 x_3639 v10_3656 (!x_3677)

noncomputable def go_ravellaw07_RingSolo_j5 (a0_3326 : Int) (v9_3629 : List Int) (v10_3630 : List Int) (v58_3631 : Int) (v14_3637 : Int) : Option (((List Int) × (List Int) × Int) ⊕ (Bool)) :=
 (go_ravellaw07_done v9_3629 (api_Deque.mk 1 a0_3326) v14_3637 (IntKind.i64.wrap (v58_3631 + 100))).bind fun (x_3639, x_3640, x_3641) =>
 if (!x_3641) = true then
  inrO (
   some false)
 else
  if ((v14_3637 == 1) && ((v10_3630.length : Int) == a0_3326)) = true then
   go_ravellaw07_RingSolo_j6 a0_3326 v58_3631 x_3639 x_3640 v10_3630 3
  else
   if (v14_3637 == 1) = true then
    if few (v10_3630 ++ [IntKind.i64.wrap (v58_3631 + 100)]).length then
     go_ravellaw07_RingSolo_j6 a0_3326 v58_3631 x_3639 x_3640 (v10_3630 ++ [IntKind.i64.wrap (v58_3631 + 100)]) 1
    else none
   else
    if ((v10_3630.length : Int) == 0) = true then
     go_ravellaw07_RingSolo_j6 a0_3326 v58_3631 x_3639 x_3640 v10_3630 2
    else
     if (v14_3637 == 2) = true then
      if 0 ≤ (IntKind.i64.wrap ((v10_3630.length : Int) - 1)) ∧ (IntKind.i64.wrap ((v10_3630.length : Int) - 1)) < (v10_3630.length : Int) then
       if (x_3640.V != (gt v10_3630 (IntKind.i64.wrap ((v10_3630.length : Int) - 1)))) = true then
        inrO (
         some false)
       else
        if 0 ≤ (IntKind.i64.wrap ((v10_3630.length : Int) - 1)) ∧ (IntKind.i64.wrap ((v10_3630.length : Int) - 1)) ≤ (v10_3630.length : Int) then
         go_ravellaw07_RingSolo_j6 a0_3326 v58_3631 x_3639 x_3640 (sub v10_3630 0 (IntKind.i64.wrap ((v10_3630.length : Int) - 1))) 1
        else none
      else none
     else
      if 0 ≤ (0 : Int) ∧ (0 : Int) < (v10_3630.length : Int) then
       if (x_3640.V != (gt v10_3630 0)) = true then
        inrO (
         some false)
       else
        if 0 ≤ (1 : Int) ∧ (1 : Int) ≤ (v10_3630.length : Int) then
         go_ravellaw07_RingSolo_j6 a0_3326 v58_3631 x_3639 x_3640 (sub v10_3630 1 (v10_3630.length : Int)) 1
        else none
      else none

noncomputable def go_ravellaw07_RingSolo_j4 (a0_3326 : Int) (a2_3328 : List Int) (v9_3629 : List Int) (v10_3630 : List Int) (v58_3631 : Int) (v14_3635 : Int) : Option (((List Int) × (List Int) × Int) ⊕ (Bool)) :=
 if (decide ((gt a2_3328 v58_3631) < (-64))) = true then
  go_ravellaw07_RingSolo_j5 a0_3326 v9_3629 v10_3630 v58_3631 3
 else
  go_ravellaw07_RingSolo_j5 a0_3326 v9_3629 v10_3630 v58_3631 v14_3635

noncomputable def go_ravellaw07_RingSolo_s3 (a0_3326 : Int) (a2_3328 : List Int) (x_3511 : Bool) : ((List Int) × (List Int) × Int) → Option (((List Int) × (List Int) × Int) ⊕ (Bool))
 | (v9_3629, v10_3630, v58_3631) =>
  if (decide (v58_3631 < (a2_3328.length : Int))) = true then
   if 0 ≤ v58_3631 ∧ v58_3631 < (a2_3328.length : Int) then
    if (decide ((gt a2_3328 v58_3631) < 0)) = true then
     go_ravellaw07_RingSolo_j4 a0_3326 a2_3328 v9_3629 v10_3630 v58_3631 2
    else
     go_ravellaw07_RingSolo_j4 a0_3326 a2_3328 v9_3629 v10_3630 v58_3631 1
   else none
  else
   inrO (
    some x_3511)

noncomputable def go_ravellaw07_RingSolo (a0_3326 : Int) (a1_3327 : Int) (a2_3328 : List Int) : Option Bool :=
 (go_ravellaw07_live).bind fun x_3511 =>
 if (!x_3511) = true then
  some false
 else
  if (((((decide (a0_3326 < 1)) || (decide (a0_3326 > 8))) || (decide (a1_3327 < 0))) || (decide (a1_3327 > 1073741824))) || (decide ((a2_3328.length : Int) > 100))) = true then
   some x_3511
  else
   if 0 ≤ (IntKind.i64.wrap (a0_3326 + 4)) ∧ (IntKind.i64.wrap (a0_3326 + 4)) ≤ (IntKind.i64.wrap (a0_3326 + 4)) ∧ (IntKind.i64.wrap (a0_3326 + 4)) ≤ 549755813888 then
    if 0 ≤ (1 : Int) ∧ (1 : Int) < ((List.replicate (Int.toNat (IntKind.i64.wrap (a0_3326 + 4))) (0 : Int)).length : Int) then
     if 0 ≤ (2 : Int) ∧ (2 : Int) < ((st (List.replicate (Int.toNat (IntKind.i64.wrap (a0_3326 + 4))) (0 : Int)) 1 a1_3327).length : Int) then
      whileO (go_ravellaw07_RingSolo_s3 a0_3326 a2_3328 x_3511) (st (st (List.replicate (Int.toNat (IntKind.i64.wrap (a0_3326 + 4))) (0 : Int)) 1 a1_3327) 2 a1_3327, [], 0)
     else none
    else none
   else none

theorem go_ravellaw07_RingSolo_sc (a0_3326 : Int) (a1_3327 : Int) (a2_3328 : List Int) (r : Bool) (h : go_ravellaw07_RingSolo a0_3326 a1_3327 a2_3328 = some r) : SC Try.prog gl 5 [V.int .i64 a0_3326, V.int .i64 a1_3327, V.sl 1 (rws (fun n => [V.int .i8 n]) a2_3328)] (V.bool r) := by
 rw [go_ravellaw07_RingSolo] at h
 refine SC.of E_good Try.func5 rfl (fun _ _ => Try.call5 _ _) rfl ?_
 repeat (first | refine sq ?_ | refine sk ?_ | with_reducible first | refine tn ?_ | refine bn ?_)
 refine Safe.region ?_
 refine Qf E_good ?_
 refine SafeOps.nil ?_
 repeat (first | refine sq ?_ | refine sk ?_ | with_reducible first | refine tn ?_ | refine bn ?_)
 refine Safe.region ?_
 refine bindG h ?_
 intro x_3511 he3512 h
 refine Q0 E_good rfl (v := V.bool x_3511) (.callP rfl rfl (go_ravellaw07_live_sc  _ he3512) rfl) ?_
 refine Qf E_good ?_
 refine SafeOps.nil ?_
 repeat (first | refine sq ?_ | refine sk ?_ | with_reducible first | refine tn ?_ | refine bn ?_)
 refine Safe.region ?_
 refine Qf E_good ?_
 refine Q0 E_good rfl (v := V.bool (!x_3511)) (.fn rfl) ?_
 refine SafeOps.nil ?_
 repeat (first | refine sq ?_ | refine sk ?_ | with_reducible first | refine tn ?_ | refine bn ?_)
 refine ifG h (fun hc3513 h => ?_) (fun hc3513 h => ?_)
 ·skip
  refine Safe.condK rfl hc3513 ?_
  repeat (first | refine sq ?_ | refine sk ?_ | with_reducible first | refine tn ?_ | refine bn ?_)
  refine Safe.region ?_
  refine Qf E_good ?_
  refine SafeOps.nil ?_
  repeat (first | refine sq ?_ | refine sk ?_ | with_reducible first | refine tn ?_ | refine bn ?_)
  refine Safe.ret ?_
  repeat (first | with_reducible refine thenQ.r ?_ | with_reducible refine blockQ.r ?_)
  obtain rfl := Option.some.inj h
  exact retQ.gen (vs := [V.bool false]) rfl (.tmp (v := V.bool false) rfl .nil) (.free rfl) (by simp) (.inr rfl)
 ·skip
  refine Safe.condN rfl hc3513 ?_
  repeat (first | refine sq ?_ | refine sk ?_ | with_reducible first | refine tn ?_ | refine bn ?_)
  refine Safe.region ?_
  refine Qf E_good ?_
  refine Q0 E_good rfl (v := V.bool (decide (a0_3326 < 1))) (.fn rfl) ?_
  refine Qf E_good ?_
  refine SafeOps.bjoin 3 30 (b := ((decide (a0_3326 < 1)) || (decide (a0_3326 > 8)))) (b1 := true) (b0 := decide (a0_3326 > 8)) (fun hc3514 K => ?_) (fun hc3514 K => ?_) bj_or ?_
  ·skip
   refine SafeOps.skip (congrArg (fun b => some (!b)) hc3514) rfl rfl ?_
   refine SafeOps.skip (congrArg (fun b => some (!b)) hc3514) rfl rfl ?_
   refine Q0 E_good rfl (v := V.bool true) (.pickK rfl hc3514 rfl) ?_
   exact SafeOps.drop' 3 rfl rfl rfl K
  ·skip
   refine SafeOps.quiet0 E_good (congrArg (fun b => some (!b)) hc3514) rfl rfl (.fn rfl) ?_
   refine SafeOps.quiet0 E_good (congrArg (fun b => some (!b)) hc3514) rfl rfl (v := V.bool (decide (a0_3326 > 8))) (.fn rfl) ?_
   refine Q0 E_good rfl (v := V.bool (decide (a0_3326 > 8))) (.pickK rfl hc3514 rfl) ?_
   exact SafeOps.drop' 3 rfl rfl rfl K
  refine Qf E_good ?_
  refine SafeOps.bjoin 3 34 (b := (((decide (a0_3326 < 1)) || (decide (a0_3326 > 8))) || (decide (a1_3327 < 0)))) (b1 := true) (b0 := decide (a1_3327 < 0)) (fun hc3515 K => ?_) (fun hc3515 K => ?_) bj_or ?_
  ·skip
   refine SafeOps.skip (congrArg (fun b => some (!b)) hc3515) rfl rfl ?_
   refine SafeOps.skip (congrArg (fun b => some (!b)) hc3515) rfl rfl ?_
   refine Q0 E_good rfl (v := V.bool true) (.pickK rfl hc3515 rfl) ?_
   exact SafeOps.drop' 3 rfl rfl rfl K
  ·skip
   refine SafeOps.quiet0 E_good (congrArg (fun b => some (!b)) hc3515) rfl rfl (.fn rfl) ?_
   refine SafeOps.quiet0 E_good (congrArg (fun b => some (!b)) hc3515) rfl rfl (v := V.bool (decide (a1_3327 < 0))) (.fn rfl) ?_
   refine Q0 E_good rfl (v := V.bool (decide (a1_3327 < 0))) (.pickK rfl hc3515 rfl) ?_
   exact SafeOps.drop' 3 rfl rfl rfl K
  refine Qf E_good ?_
  refine SafeOps.bjoin 3 38 (b := ((((decide (a0_3326 < 1)) || (decide (a0_3326 > 8))) || (decide (a1_3327 < 0))) || (decide (a1_3327 > 1073741824)))) (b1 := true) (b0 := decide (a1_3327 > 1073741824)) (fun hc3516 K => ?_) (fun hc3516 K => ?_) bj_or ?_
  ·skip
   refine SafeOps.skip (congrArg (fun b => some (!b)) hc3516) rfl rfl ?_
   refine SafeOps.skip (congrArg (fun b => some (!b)) hc3516) rfl rfl ?_
   refine Q0 E_good rfl (v := V.bool true) (.pickK rfl hc3516 rfl) ?_
   exact SafeOps.drop' 3 rfl rfl rfl K
  ·skip
   refine SafeOps.quiet0 E_good (congrArg (fun b => some (!b)) hc3516) rfl rfl (.fn rfl) ?_
   refine SafeOps.quiet0 E_good (congrArg (fun b => some (!b)) hc3516) rfl rfl (v := V.bool (decide (a1_3327 > 1073741824))) (.fn rfl) ?_
   refine Q0 E_good rfl (v := V.bool (decide (a1_3327 > 1073741824))) (.pickK rfl hc3516 rfl) ?_
   exact SafeOps.drop' 3 rfl rfl rfl K
  refine Qf E_good ?_
  refine SafeOps.bjoin 4 43 (b := (((((decide (a0_3326 < 1)) || (decide (a0_3326 > 8))) || (decide (a1_3327 < 0))) || (decide (a1_3327 > 1073741824))) || (decide ((a2_3328.length : Int) > 100)))) (b1 := true) (b0 := decide ((a2_3328.length : Int) > 100)) (fun hc3517 K => ?_) (fun hc3517 K => ?_) bj_or ?_
  ·skip
   refine SafeOps.skip (congrArg (fun b => some (!b)) hc3517) rfl rfl ?_
   refine SafeOps.skip (congrArg (fun b => some (!b)) hc3517) rfl rfl ?_
   refine SafeOps.skip (congrArg (fun b => some (!b)) hc3517) rfl rfl ?_
   refine Q0 E_good rfl (v := V.bool true) (.pickK rfl hc3517 rfl) ?_
   exact SafeOps.drop' 4 rfl rfl rfl K
  ·skip
   refine SafeOps.quiet0 E_good (congrArg (fun b => some (!b)) hc3517) rfl rfl (.fn rfl) ?_
   refine SafeOps.quiet0 E_good (congrArg (fun b => some (!b)) hc3517) rfl rfl (v := V.int .i64 (a2_3328.length : Int)) (.fnE rfl lenE) ?_
   refine SafeOps.quiet0 E_good (congrArg (fun b => some (!b)) hc3517) rfl rfl (v := V.bool (decide ((a2_3328.length : Int) > 100))) (.fn rfl) ?_
   refine Q0 E_good rfl (v := V.bool (decide ((a2_3328.length : Int) > 100))) (.pickK rfl hc3517 rfl) ?_
   exact SafeOps.drop' 4 rfl rfl rfl K
  refine SafeOps.nil ?_
  repeat (first | refine sq ?_ | refine sk ?_ | with_reducible first | refine tn ?_ | refine bn ?_)
  refine ifG h (fun hc3518 h => ?_) (fun hc3518 h => ?_)
  ·skip
   refine Safe.condK rfl hc3518 ?_
   repeat (first | refine sq ?_ | refine sk ?_ | with_reducible first | refine tn ?_ | refine bn ?_)
   refine Safe.region ?_
   refine Qf E_good ?_
   refine Qf E_good ?_
   refine SafeOps.nil ?_
   repeat (first | refine sq ?_ | refine sk ?_ | with_reducible first | refine tn ?_ | refine bn ?_)
   refine Safe.ret ?_
   repeat (first | with_reducible refine thenQ.r ?_ | with_reducible refine blockQ.r ?_)
   obtain rfl := Option.some.inj h
   exact retQ.gen (vs := [V.bool x_3511]) rfl (.tmp (v := V.bool x_3511) rfl .nil) (.free rfl) (by simp) (.inr rfl)
  ·skip
   refine Safe.condN rfl hc3518 ?_
   repeat (first | refine sq ?_ | refine sk ?_ | with_reducible first | refine tn ?_ | refine bn ?_)
   refine Safe.region ?_
   refine Qf E_good ?_
   refine Q0 E_good rfl (v := V.agg [V.int .i64 1, V.int .i64 a0_3326]) (.fn rfl) ?_
   refine SafeOps.quiet1 E_good rfl rfl rfl (.alloc rfl rfl) rfl ?_
   refine SafeOps.store (z := Obj.box [V.int .i64 1, V.int .i64 a0_3326]) E_good rfl rfl rfl rfl rfl rfl rfl (.boxM (c := 2) rfl rfl (Nat.le_of_ble_eq_true rfl) rfl) ?_
   refine SafeOps.nil ?_
   repeat (first | refine sq ?_ | refine sk ?_ | with_reducible first | refine tn ?_ | refine bn ?_)
   refine Safe.region ?_
   refine Qf E_good ?_
   refine Q0 E_good rfl (v := V.int .i64 (IntKind.i64.wrap (a0_3326 + 4))) (.fn rfl) ?_
   refine okG h (fun hb3519 h => ?_)
   refine SafeOps.quiet1 E_good rfl rfl rfl (.makeM (f := (fun n => [V.int .i64 n])) (d := (0 : Int)) rfl rfl rfl rfl hb3519 rfl rfl rfl) rfl ?_
   refine Qf E_good ?_
   refine SafeOps.nil ?_
   repeat (first | refine sq ?_ | refine sk ?_ | with_reducible first | refine tn ?_ | refine bn ?_)
   refine Safe.region ?_
   refine Qf E_good ?_
   refine Qf E_good ?_
   refine okG h (fun hb3520 h => ?_)
   refine Q0 E_good rfl (v := V.ptr [49] (0 + Int.toNat 1) 0) (.idxRefM (f := (fun n => [V.int .i64 n])) (xs := List.replicate (Int.toNat (IntKind.i64.wrap (a0_3326 + 4))) (0 : Int)) rfl rfl rfl rfl rfl rfl hb3520) ?_
   refine SafeOps.store (z := Obj.rows 1 (rws (fun n => [V.int .i64 n]) (st (List.replicate (Int.toNat (IntKind.i64.wrap (a0_3326 + 4))) (0 : Int)) 1 a1_3327)) false) E_good rfl rfl rfl rfl rfl rfl rfl (.rowsM (f := (fun n => [V.int .i64 n])) (xs := List.replicate (Int.toNat (IntKind.i64.wrap (a0_3326 + 4))) (0 : Int)) (y := a1_3327) hb3520 rfl rfl rfl rfl) ?_
   refine SafeOps.see 49 (u := V.ref [49] 0 (rws (fun n => [V.int .i64 n]) (st (List.replicate (Int.toNat (IntKind.i64.wrap (a0_3326 + 4))) (0 : Int)) 1 a1_3327)).length) rfl (.len (by simp [rws, st])) ?_
   refine SafeOps.see 9 (u := V.ref [49] 0 (rws (fun n => [V.int .i64 n]) (st (List.replicate (Int.toNat (IntKind.i64.wrap (a0_3326 + 4))) (0 : Int)) 1 a1_3327)).length) rfl (.len (by simp [rws, st])) ?_
   refine SafeOps.see 50 (u := V.ref [49] 0 (rws (fun n => [V.int .i64 n]) (st (List.replicate (Int.toNat (IntKind.i64.wrap (a0_3326 + 4))) (0 : Int)) 1 a1_3327)).length) rfl (.len (by simp [rws, st])) ?_
   refine SafeOps.nil ?_
   repeat (first | refine sq ?_ | refine sk ?_ | with_reducible first | refine tn ?_ | refine bn ?_)
   refine Safe.region ?_
   refine Qf E_good ?_
   refine Qf E_good ?_
   refine okG h (fun hb3521 h => ?_)
   refine Q0 E_good rfl (v := V.ptr [49] (0 + Int.toNat 2) 0) (.idxRefM (f := (fun n => [V.int .i64 n])) (xs := st (List.replicate (Int.toNat (IntKind.i64.wrap (a0_3326 + 4))) (0 : Int)) 1 a1_3327) rfl rfl rfl rfl rfl rfl hb3521) ?_
   refine SafeOps.store (z := Obj.rows 1 (rws (fun n => [V.int .i64 n]) (st (st (List.replicate (Int.toNat (IntKind.i64.wrap (a0_3326 + 4))) (0 : Int)) 1 a1_3327) 2 a1_3327)) false) E_good rfl rfl rfl rfl rfl rfl rfl (.rowsM (f := (fun n => [V.int .i64 n])) (xs := st (List.replicate (Int.toNat (IntKind.i64.wrap (a0_3326 + 4))) (0 : Int)) 1 a1_3327) (y := a1_3327) hb3521 rfl rfl rfl rfl) ?_
   refine SafeOps.see 49 (u := V.ref [49] 0 (rws (fun n => [V.int .i64 n]) (st (st (List.replicate (Int.toNat (IntKind.i64.wrap (a0_3326 + 4))) (0 : Int)) 1 a1_3327) 2 a1_3327)).length) rfl (.len (by simp [rws, st])) ?_
   refine SafeOps.see 9 (u := V.ref [49] 0 (rws (fun n => [V.int .i64 n]) (st (st (List.replicate (Int.toNat (IntKind.i64.wrap (a0_3326 + 4))) (0 : Int)) 1 a1_3327) 2 a1_3327)).length) rfl (.len (by simp [rws, st])) ?_
   refine SafeOps.see 50 (u := V.ref [49] 0 (rws (fun n => [V.int .i64 n]) (st (st (List.replicate (Int.toNat (IntKind.i64.wrap (a0_3326 + 4))) (0 : Int)) 1 a1_3327) 2 a1_3327)).length) rfl (.len (by simp [rws, st])) ?_
   refine SafeOps.see 53 (u := V.ref [49] 0 (rws (fun n => [V.int .i64 n]) (st (st (List.replicate (Int.toNat (IntKind.i64.wrap (a0_3326 + 4))) (0 : Int)) 1 a1_3327) 2 a1_3327)).length) rfl (.len (by simp [rws, st])) ?_
   refine SafeOps.nil ?_
   repeat (first | refine sq ?_ | refine sk ?_ | with_reducible first | refine tn ?_ | refine bn ?_)
   refine Safe.region ?_
   refine Qf E_good ?_
   refine SafeOps.nil ?_
   repeat (first | refine sq ?_ | refine sk ?_ | with_reducible first | refine tn ?_ | refine bn ?_)
   refine Safe.region ?_
   refine Qf E_good ?_
   refine Q0 E_good rfl (v := V.int .i64 (a2_3328.length : Int)) (.fnE rfl lenE) ?_
   refine Qf E_good ?_
   refine SafeOps.nil ?_
   repeat (first | refine sq ?_ | refine sk ?_ | with_reducible first | refine tn ?_ | refine bn ?_)
   refine Safe.block ?_
   repeat (first | refine sq ?_ | refine sk ?_ | with_reducible first | refine tn ?_ | refine bn ?_)
   refine Safe.loopW (fun ((v9_3629, v10_3630, v58_3631) : (List Int) × (List Int) × Int) => ⟨Try.f5.ntmps, [(0, V.int .i64 a0_3326), (7, V.bool x_3511), (8, V.ptr [8] 0 0), (9, V.ref [7000, 118, 9] 0 (rws (fun n => [V.int .i64 n]) v9_3629).length), (10, V.ref [7000, 118, 10] 0 (rws (fun n => [V.int .i64 n]) v10_3630).length), (56, V.sl 1 (rws (fun n => [V.int .i8 n]) a2_3328)), (57, V.int .i64 (a2_3328.length : Int)), (58, V.int .i64 v58_3631)], [([8], Obj.box [V.int .i64 1, V.int .i64 a0_3326]), ([7000, 118, 9], Obj.rows 1 (rws (fun n => [V.int .i64 n]) v9_3629) false), ([7000, 118, 10], Obj.rows 1 (rws (fun n => [V.int .i64 n]) v10_3630) false)], [], []⟩) h (.ren [49] [7000, 118, 9] (.empty [7000, 118, 10] 1 rfl (.cov ⟨rfl, rfl, (ut (ut (ut (ut (upT_cons (.nilref _) (ut (ut (ut upT_nil)))))))), (uo (uo (uo upOb_nil))), upOut_nil, rfl⟩))) ?_
   rintro ⟨v9_3629, v10_3630, v58_3631⟩ ohr3632 h hr3632
   replace h : go_ravellaw07_RingSolo_s3 a0_3326 a2_3328 x_3511 (v9_3629, v10_3630, v58_3631) = some ohr3632 := h
   rw [go_ravellaw07_RingSolo_s3] at h
   repeat (first | refine sq ?_ | refine sk ?_ | with_reducible first | refine tn ?_ | refine bn ?_)
   refine Safe.region ?_
   refine Q0 E_good rfl (v := V.bool (decide (v58_3631 < (a2_3328.length : Int)))) (.fn rfl) ?_
   refine SafeOps.nil ?_
   repeat (first | refine sq ?_ | refine sk ?_ | with_reducible first | refine tn ?_ | refine bn ?_)
   refine ifG h (fun hc3633 h => ?_) (fun hc3633 h => ?_)
   ·skip
    refine Safe.condK rfl hc3633 ?_
    repeat (first | refine sq ?_ | refine sk ?_ | with_reducible first | refine tn ?_ | refine bn ?_)
    refine Safe.block ?_
    repeat (first | refine sq ?_ | refine sk ?_ | with_reducible first | refine tn ?_ | refine bn ?_)
    refine Safe.region ?_
    refine Qf E_good ?_
    refine okG h (fun hb3634 h => ?_)
    refine Q0 E_good rfl (v := V.spt 1 (rws (fun n => [V.int .i8 n]) a2_3328) (Int.toNat v58_3631) 0) (.idxSlM (f := (fun n => [V.int .i8 n])) rfl rfl rfl rfl rfl hb3634) ?_
    refine Q0 E_good rfl (v := V.int .i8 (gt a2_3328 v58_3631)) (.load rfl rfl (.sptM (f := (fun n => [V.int .i8 n])) hb3634 rfl) rfl) ?_
    refine Qf E_good ?_
    refine Qf E_good ?_
    refine SafeOps.nil ?_
    repeat (first | refine sq ?_ | refine sk ?_ | with_reducible first | refine tn ?_ | refine bn ?_)
    refine Safe.region ?_
    refine Qf E_good ?_
    refine Q0 E_good rfl (v := V.int .i64 (IntKind.i64.wrap (v58_3631 + 100))) (.fn rfl) ?_
    refine Qf E_good ?_
    refine SafeOps.nil ?_
    repeat (first | refine sq ?_ | refine sk ?_ | with_reducible first | refine tn ?_ | refine bn ?_)
    refine Safe.region ?_
    refine Qf E_good ?_
    refine SafeOps.nil ?_
    repeat (first | refine sq ?_ | refine sk ?_ | with_reducible first | refine tn ?_ | refine bn ?_)
    refine Safe.region ?_
    refine Qf E_good ?_
    refine Q0 E_good rfl (v := V.bool (decide ((gt a2_3328 v58_3631) < 0))) (.fn rfl) ?_
    refine SafeOps.nil ?_
    repeat (first | refine sq ?_ | refine sk ?_ | with_reducible first | refine tn ?_ | refine bn ?_)
    refine Safe.joinT (fun (v14_3635 : Int) => go_ravellaw07_RingSolo_j4 a0_3326 a2_3328 v9_3629 v10_3630 v58_3631 v14_3635 = some ohr3632) (fun (v14_3635 : Int) => ⟨Try.f5.ntmps, [(0, V.int .i64 a0_3326), (7, V.bool x_3511), (8, V.ptr [8] 0 0), (9, V.ref [7000, 118, 9] 0 (rws (fun n => [V.int .i64 n]) v9_3629).length), (10, V.ref [7000, 118, 10] 0 (rws (fun n => [V.int .i64 n]) v10_3630).length), (12, V.int .i8 (gt a2_3328 v58_3631)), (13, V.int .i64 (IntKind.i64.wrap (v58_3631 + 100))), (14, V.int .i64 v14_3635), (56, V.sl 1 (rws (fun n => [V.int .i8 n]) a2_3328)), (57, V.int .i64 (a2_3328.length : Int)), (58, V.int .i64 v58_3631)], [([8], Obj.box [V.int .i64 1, V.int .i64 a0_3326]), ([7000, 118, 9], Obj.rows 1 (rws (fun n => [V.int .i64 n]) v9_3629) false), ([7000, 118, 10], Obj.rows 1 (rws (fun n => [V.int .i64 n]) v10_3630) false)], [], []⟩) ?_ (fun HJ3636 => ?_)
    ·intro v14_3635 h
     replace h : go_ravellaw07_RingSolo_j4 a0_3326 a2_3328 v9_3629 v10_3630 v58_3631 v14_3635 = some ohr3632 := h
     rw [go_ravellaw07_RingSolo_j4] at h
     repeat (first | refine sq ?_ | refine sk ?_ | with_reducible first | refine tn ?_ | refine bn ?_)
     refine Safe.region ?_
     refine Qf E_good ?_
     refine Q0 E_good rfl (v := V.bool (decide ((gt a2_3328 v58_3631) < (-64)))) (.fn rfl) ?_
     refine SafeOps.nil ?_
     repeat (first | refine sq ?_ | refine sk ?_ | with_reducible first | refine tn ?_ | refine bn ?_)
     refine Safe.joinT (fun (v14_3637 : Int) => go_ravellaw07_RingSolo_j5 a0_3326 v9_3629 v10_3630 v58_3631 v14_3637 = some ohr3632) (fun (v14_3637 : Int) => ⟨Try.f5.ntmps, [(0, V.int .i64 a0_3326), (7, V.bool x_3511), (8, V.ptr [8] 0 0), (9, V.ref [7000, 118, 9] 0 (rws (fun n => [V.int .i64 n]) v9_3629).length), (10, V.ref [7000, 118, 10] 0 (rws (fun n => [V.int .i64 n]) v10_3630).length), (13, V.int .i64 (IntKind.i64.wrap (v58_3631 + 100))), (14, V.int .i64 v14_3637), (56, V.sl 1 (rws (fun n => [V.int .i8 n]) a2_3328)), (57, V.int .i64 (a2_3328.length : Int)), (58, V.int .i64 v58_3631)], [([8], Obj.box [V.int .i64 1, V.int .i64 a0_3326]), ([7000, 118, 9], Obj.rows 1 (rws (fun n => [V.int .i64 n]) v9_3629) false), ([7000, 118, 10], Obj.rows 1 (rws (fun n => [V.int .i64 n]) v10_3630) false)], [], []⟩) ?_ (fun HJ3638 => ?_)
     ·intro v14_3637 h
      replace h : go_ravellaw07_RingSolo_j5 a0_3326 v9_3629 v10_3630 v58_3631 v14_3637 = some ohr3632 := h
      rw [go_ravellaw07_RingSolo_j5] at h
      repeat (first | refine sq ?_ | refine sk ?_ | with_reducible first | refine tn ?_ | refine bn ?_)
      refine Safe.region ?_
      refine Qf E_good ?_
      refine Q0 E_good rfl (v := V.agg [V.int .i64 1, V.int .i64 a0_3326]) (.load rfl rfl (.box rfl rfl) rfl) ?_
      refine Qf E_good ?_
      refine Qf E_good ?_
      refine bindG h ?_
      rintro ⟨x_3639, x_3640, x_3641⟩ he3642 h
      refine SafeOps.quiet E_good rfl rfl rfl (v := V.tup [V.ref [74, 0] 0 (rws (fun n => [V.int .i64 n]) x_3639).length, V.agg [V.int .i64 x_3640.Kind, V.int .i64 x_3640.Pc, V.int .i64 x_3640.V, V.int .i64 x_3640.T, V.int .i64 x_3640.B, V.bool x_3640.Won, V.int .i64 x_3640.State], V.bool x_3641]) (.callS rfl (.cons (.full rfl rfl) (.cons (.free rfl) (.cons (.free rfl) (.cons (.free rfl) .nil)))) (go_ravellaw07_done_sc v9_3629 (api_Deque.mk 1 a0_3326) v14_3637 (IntKind.i64.wrap (v58_3631 + 100)) _ he3642) (.tupL (.cons (.ownM (fun _ => rfl)) (.cons (.aggL (.cons (.plain rfl) (.cons (.plain rfl) (.cons (.plain rfl) (.cons (.plain rfl) (.cons (.plain rfl) (.cons (.plain rfl) (.cons (.plain rfl) .nil)))))))) (.cons (.plain rfl) .nil)))) rfl) rfl ?_
      refine Qf E_good ?_
      refine Qf E_good ?_
      refine Qf E_good ?_
      refine Qf E_good ?_
      refine SafeOps.quiet1 E_good rfl rfl rfl (.alloc rfl rfl) rfl ?_
      refine Qf E_good ?_
      refine SafeOps.store (z := Obj.box [V.int .i64 x_3640.Kind, V.int .i64 x_3640.Pc, V.int .i64 x_3640.V, V.int .i64 x_3640.T, V.int .i64 x_3640.B, V.bool x_3640.Won, V.int .i64 x_3640.State]) E_good rfl rfl rfl rfl rfl rfl rfl (.boxM (c := 7) rfl rfl (Nat.le_of_ble_eq_true rfl) rfl) ?_
      refine Qf E_good ?_
      refine SafeOps.nil ?_
      repeat (first | refine sq ?_ | refine sk ?_ | with_reducible first | refine tn ?_ | refine bn ?_)
      refine Safe.region ?_
      refine Qf E_good ?_
      refine Q0 E_good rfl (v := V.bool (!x_3641)) (.fn rfl) ?_
      refine SafeOps.nil ?_
      repeat (first | refine sq ?_ | refine sk ?_ | with_reducible first | refine tn ?_ | refine bn ?_)
      refine ifG h (fun hc3643 h => ?_) (fun hc3643 h => ?_)
      ·skip
       refine Safe.condK rfl hc3643 ?_
       repeat (first | refine sq ?_ | refine sk ?_ | with_reducible first | refine tn ?_ | refine bn ?_)
       refine Safe.region ?_
       refine Qf E_good ?_
       refine SafeOps.nil ?_
       repeat (first | refine sq ?_ | refine sk ?_ | with_reducible first | refine tn ?_ | refine bn ?_)
       refine Safe.ret ?_
       repeat (first | with_reducible refine thenQ.r ?_ | with_reducible refine blockQ.r ?_)
       replace h := inr_out h hr3632
       obtain rfl := Option.some.inj h
       exact retQ.gen (vs := [V.bool false]) rfl (.tmp (v := V.bool false) rfl .nil) (.free rfl) (by simp) (.inr rfl)
      ·skip
       refine Safe.condN rfl hc3643 ?_
       repeat (first | refine sq ?_ | refine sk ?_ | with_reducible first | refine tn ?_ | refine bn ?_)
       refine Safe.region ?_
       refine Qf E_good ?_
       refine Q0 E_good rfl (v := V.int .i64 (v10_3630.length : Int)) (.fnE rfl lenE) ?_
       refine Qf E_good ?_
       refine SafeOps.nil ?_
       repeat (first | refine sq ?_ | refine sk ?_ | with_reducible first | refine tn ?_ | refine bn ?_)
       refine Safe.region ?_
       refine Qf E_good ?_
       refine SafeOps.nil ?_
       repeat (first | refine sq ?_ | refine sk ?_ | with_reducible first | refine tn ?_ | refine bn ?_)
       refine Safe.joinT (fun ((v10_3656, v19_3657) : (List Int) × Int) => go_ravellaw07_RingSolo_j6 a0_3326 v58_3631 x_3639 x_3640 v10_3656 v19_3657 = some ohr3632) (fun ((v10_3656, v19_3657) : (List Int) × Int) => ⟨Try.f5.ntmps, [(0, V.int .i64 a0_3326), (7, V.bool x_3511), (8, V.ptr [8] 0 0), (10, V.ref [7000, 118, 10] 0 (rws (fun n => [V.int .i64 n]) v10_3656).length), (15, V.ref [74, 0] 0 (rws (fun n => [V.int .i64 n]) x_3639).length), (16, V.ptr [16] 0 0), (19, V.int .i64 v19_3657), (56, V.sl 1 (rws (fun n => [V.int .i8 n]) a2_3328)), (57, V.int .i64 (a2_3328.length : Int)), (58, V.int .i64 v58_3631)], [([8], Obj.box [V.int .i64 1, V.int .i64 a0_3326]), ([16], Obj.box [V.int .i64 x_3640.Kind, V.int .i64 x_3640.Pc, V.int .i64 x_3640.V, V.int .i64 x_3640.T, V.int .i64 x_3640.B, V.bool x_3640.Won, V.int .i64 x_3640.State]), ([74, 0], Obj.rows 1 (rws (fun n => [V.int .i64 n]) x_3639) false), ([7000, 118, 10], Obj.rows 1 (rws (fun n => [V.int .i64 n]) v10_3656) false)], [], []⟩) ?_ (fun HJ3658 => ?_)
       ·rintro ⟨v10_3656, v19_3657⟩ h
        replace h : go_ravellaw07_RingSolo_j6 a0_3326 v58_3631 x_3639 x_3640 v10_3656 v19_3657 = some ohr3632 := h
        rw [go_ravellaw07_RingSolo_j6] at h
        repeat (first | refine sq ?_ | refine sk ?_ | with_reducible first | refine tn ?_ | refine bn ?_)
        refine Safe.region ?_
        refine Qf E_good ?_
        refine Qf E_good ?_
        refine SafeOps.nil ?_
        repeat (first | refine sq ?_ | refine sk ?_ | with_reducible first | refine tn ?_ | refine bn ?_)
        refine Safe.region ?_
        refine Qf E_good ?_
        refine Q0 E_good rfl (v := V.agg [V.int .i64 1, V.int .i64 a0_3326]) (.load rfl rfl (.box rfl rfl) rfl) ?_
        refine bindG h ?_
        rintro ⟨x_3659, x_3660⟩ he3661 h
        refine SafeOps.quiet E_good rfl rfl rfl (v := V.tup [V.ref [127, 0] 0 (rws (fun n => [V.int .i64 n]) x_3659).length, V.int .i64 x_3660]) (.callS rfl (.cons (.full rfl rfl) (.cons (.free rfl) .nil)) (go_ring_List_sc x_3639 (api_Deque.mk 1 a0_3326) _ he3661) (.tupL (.cons (.ownM (fun _ => rfl)) (.cons (.plain rfl) .nil))) rfl) rfl ?_
        refine Qf E_good ?_
        refine Qf E_good ?_
        refine Qf E_good ?_
        refine Qf E_good ?_
        refine Qf E_good ?_
        refine SafeOps.nil ?_
        repeat (first | refine sq ?_ | refine sk ?_ | with_reducible first | refine tn ?_ | refine bn ?_)
        refine Safe.region ?_
        refine Q0 E_good rfl (v := V.ptr [16] 0 6) (.fn rfl) ?_
        refine Q0 E_good rfl (v := V.int .i64 x_3640.State) (.load rfl rfl (.box rfl rfl) rfl) ?_
        refine Qf E_good ?_
        refine Q0 E_good rfl (v := V.bool (x_3640.State != v19_3657)) (.fn rfl) ?_
        refine Qf E_good ?_
        refine SafeOps.bjoin 3 137 (b := ((x_3640.State != v19_3657) || (x_3660 != 0))) (b1 := true) (b0 := (x_3660 != 0)) (fun hc3662 K => ?_) (fun hc3662 K => ?_) bj_or ?_
        ·skip
         refine SafeOps.skip (congrArg (fun b => some (!b)) hc3662) rfl rfl ?_
         refine SafeOps.skip (congrArg (fun b => some (!b)) hc3662) rfl rfl ?_
         refine Q0 E_good rfl (v := V.bool true) (.pickK rfl hc3662 rfl) ?_
         exact SafeOps.drop' 3 rfl rfl rfl K
        ·skip
         refine SafeOps.quiet0 E_good (congrArg (fun b => some (!b)) hc3662) rfl rfl (.fn rfl) ?_
         refine SafeOps.quiet0 E_good (congrArg (fun b => some (!b)) hc3662) rfl rfl (v := V.bool (x_3660 != 0)) (.fn rfl) ?_
         refine Q0 E_good rfl (v := V.bool (x_3660 != 0)) (.pickK rfl hc3662 rfl) ?_
         exact SafeOps.drop' 3 rfl rfl rfl K
        refine Qf E_good ?_
        refine SafeOps.bsplit 5 143 (fun b_3666 => go_ravellaw07_RingSolo_j7 a0_3326 v58_3631 x_3639 v10_3656 b_3666 = some ohr3632) (fun HJ3667 => ?_) (fun b_3666 h => ?_)
        ·refine ifG h (fun hc3663 h => ?_) (fun hc3663 h => ?_)
         ·skip
          refine SafeOps.skip (congrArg (fun b => some (!b)) hc3663) rfl rfl ?_
          refine SafeOps.skip (congrArg (fun b => some (!b)) hc3663) rfl rfl ?_
          refine SafeOps.skip (congrArg (fun b => some (!b)) hc3663) rfl rfl ?_
          refine SafeOps.skip (congrArg (fun b => some (!b)) hc3663) rfl rfl ?_
          refine Q0 E_good rfl (v := V.bool true) (.pickK rfl hc3663 rfl) ?_
          exact SafeOps.drop' 5 rfl rfl rfl (HJ3667 _ h)
         ·skip
          refine SafeOps.quiet0 E_good (congrArg (fun b => some (!b)) hc3663) rfl rfl (.fn rfl) ?_
          refine SafeOps.quiet0 E_good (congrArg (fun b => some (!b)) hc3663) rfl rfl (.fn rfl) ?_
          refine bindG h ?_
          intro x_3677 he3678 h
          refine SafeOps.quiet0 E_good (congrArg (fun b => some (!b)) hc3663) rfl rfl (v := V.bool x_3677) (.callS rfl (.cons (.full rfl rfl) (.cons (.full rfl rfl) .nil)) (go_ravelref01_Same_sc x_3659 v10_3656 _ he3678) (.plain rfl) rfl) ?_
          refine SafeOps.quiet0 E_good (congrArg (fun b => some (!b)) hc3663) rfl rfl (v := V.bool (!x_3677)) (.fn rfl) ?_
          refine Q0 E_good rfl (v := V.bool (!x_3677)) (.pickK rfl hc3663 rfl) ?_
          exact SafeOps.drop' 5 rfl rfl rfl (HJ3667 _ h)
        ·replace h : go_ravellaw07_RingSolo_j7 a0_3326 v58_3631 x_3639 v10_3656 b_3666 = some ohr3632 := h
         rw [go_ravellaw07_RingSolo_j7] at h
         refine Qf E_good ?_
         refine SafeOps.bsplit 5 149 (fun b_3670 => go_ravellaw07_RingSolo_j8 a0_3326 v58_3631 x_3639 v10_3656 b_3670 = some ohr3632) (fun HJ3671 => ?_) (fun b_3670 h => ?_)
         ·refine ifG h (fun hc3668 h => ?_) (fun hc3668 h => ?_)
          ·skip
           refine SafeOps.skip (congrArg (fun b => some (!b)) hc3668) rfl rfl ?_
           refine SafeOps.skip (congrArg (fun b => some (!b)) hc3668) rfl rfl ?_
           refine SafeOps.skip (congrArg (fun b => some (!b)) hc3668) rfl rfl ?_
           refine SafeOps.skip (congrArg (fun b => some (!b)) hc3668) rfl rfl ?_
           refine Q0 E_good rfl (v := V.bool true) (.pickK rfl hc3668 rfl) ?_
           exact SafeOps.drop' 5 rfl rfl rfl (HJ3671 _ h)
          ·skip
           refine SafeOps.quiet0 E_good (congrArg (fun b => some (!b)) hc3668) rfl rfl (.fn rfl) ?_
           refine okG h (fun hb3676 h => ?_)
           refine SafeOps.quiet0 E_good (congrArg (fun b => some (!b)) hc3668) rfl rfl (v := V.ptr [74, 0] (0 + Int.toNat 0) 0) (.idxRefM (f := (fun n => [V.int .i64 n])) (xs := x_3639) rfl rfl rfl rfl rfl rfl hb3676) ?_
           refine SafeOps.quiet0 E_good (congrArg (fun b => some (!b)) hc3668) rfl rfl (v := V.int .i64 (gt x_3639 0)) (.load rfl rfl (.rowsM (f := (fun n => [V.int .i64 n])) (xs := x_3639) hb3676 rfl rfl) rfl) ?_
           refine SafeOps.quiet0 E_good (congrArg (fun b => some (!b)) hc3668) rfl rfl (v := V.bool ((gt x_3639 0) != 0)) (.fn rfl) ?_
           refine Q0 E_good rfl (v := V.bool ((gt x_3639 0) != 0)) (.pickK rfl hc3668 rfl) ?_
           exact SafeOps.drop' 5 rfl rfl rfl (HJ3671 _ h)
         ·replace h : go_ravellaw07_RingSolo_j8 a0_3326 v58_3631 x_3639 v10_3656 b_3670 = some ohr3632 := h
          rw [go_ravellaw07_RingSolo_j8] at h
          refine Qf E_good ?_
          refine ifG h (fun hc3672 h => ?_) (fun hc3672 h => ?_)
          ·skip
           refine SafeOps.skip (congrArg (fun b => some (!b)) hc3672) rfl rfl ?_
           refine SafeOps.skip (congrArg (fun b => some (!b)) hc3672) rfl rfl ?_
           refine SafeOps.skip (congrArg (fun b => some (!b)) hc3672) rfl rfl ?_
           refine SafeOps.skip (congrArg (fun b => some (!b)) hc3672) rfl rfl ?_
           refine SafeOps.skip (congrArg (fun b => some (!b)) hc3672) rfl rfl ?_
           refine SafeOps.skip (congrArg (fun b => some (!b)) hc3672) rfl rfl ?_
           refine Q0 E_good rfl (v := V.bool true) (.pickK rfl hc3672 rfl) ?_
           refine SafeOps.nil ?_
           repeat (first | refine sq ?_ | refine sk ?_ | with_reducible first | refine tn ?_ | refine bn ?_)
           refine Safe.condK rfl rfl ?_
           repeat (first | refine sq ?_ | refine sk ?_ | with_reducible first | refine tn ?_ | refine bn ?_)
           refine Safe.region ?_
           refine Qf E_good ?_
           refine SafeOps.nil ?_
           repeat (first | refine sq ?_ | refine sk ?_ | with_reducible first | refine tn ?_ | refine bn ?_)
           refine Safe.ret ?_
           repeat (first | with_reducible refine thenQ.r ?_ | with_reducible refine blockQ.r ?_)
           replace h := inr_out h hr3632
           obtain rfl := Option.some.inj h
           exact retQ.gen (vs := [V.bool false]) rfl (.tmp (v := V.bool false) rfl .nil) (.free rfl) (by simp) (.inr rfl)
          ·skip
           refine SafeOps.quiet0 E_good (congrArg (fun b => some (!b)) hc3672) rfl rfl (.fn rfl) ?_
           refine SafeOps.quiet0 E_good (congrArg (fun b => some (!b)) hc3672) rfl rfl (.fn rfl) ?_
           refine SafeOps.quiet0 E_good (congrArg (fun b => some (!b)) hc3672) rfl rfl (v := V.int .i64 (IntKind.i64.wrap (a0_3326 + 3))) (.fn rfl) ?_
           refine okG h (fun hb3674 h => ?_)
           refine SafeOps.quiet0 E_good (congrArg (fun b => some (!b)) hc3672) rfl rfl (v := V.ptr [74, 0] (0 + Int.toNat (IntKind.i64.wrap (a0_3326 + 3))) 0) (.idxRefM (f := (fun n => [V.int .i64 n])) (xs := x_3639) rfl rfl rfl rfl rfl rfl hb3674) ?_
           refine SafeOps.quiet0 E_good (congrArg (fun b => some (!b)) hc3672) rfl rfl (v := V.int .i64 (gt x_3639 (IntKind.i64.wrap (a0_3326 + 3)))) (.load rfl rfl (.rowsM (f := (fun n => [V.int .i64 n])) (xs := x_3639) hb3674 rfl rfl) rfl) ?_
           refine SafeOps.quiet0 E_good (congrArg (fun b => some (!b)) hc3672) rfl rfl (v := V.bool ((gt x_3639 (IntKind.i64.wrap (a0_3326 + 3))) != 0)) (.fn rfl) ?_
           refine Q0 E_good rfl (v := V.bool ((gt x_3639 (IntKind.i64.wrap (a0_3326 + 3))) != 0)) (.pickK rfl hc3672 rfl) ?_
           refine SafeOps.nil ?_
           repeat (first | refine sq ?_ | refine sk ?_ | with_reducible first | refine tn ?_ | refine bn ?_)
           refine ifG h (fun hc3675 h => ?_) (fun hc3675 h => ?_)
           ·skip
            refine Safe.condK rfl hc3675 ?_
            repeat (first | refine sq ?_ | refine sk ?_ | with_reducible first | refine tn ?_ | refine bn ?_)
            refine Safe.region ?_
            refine Qf E_good ?_
            refine SafeOps.nil ?_
            repeat (first | refine sq ?_ | refine sk ?_ | with_reducible first | refine tn ?_ | refine bn ?_)
            refine Safe.ret ?_
            repeat (first | with_reducible refine thenQ.r ?_ | with_reducible refine blockQ.r ?_)
            replace h := inr_out h hr3632
            obtain rfl := Option.some.inj h
            exact retQ.gen (vs := [V.bool false]) rfl (.tmp (v := V.bool false) rfl .nil) (.free rfl) (by simp) (.inr rfl)
           ·skip
            refine Safe.condN rfl hc3675 ?_
            repeat (first | refine sq ?_ | refine sk ?_ | with_reducible first | refine tn ?_ | refine bn ?_)
            refine Safe.region ?_
            refine Q0 E_good rfl (v := V.int .i64 (IntKind.i64.wrap (v58_3631 + 1))) (.fn rfl) ?_
            refine Qf E_good ?_
            refine SafeOps.nil ?_
            repeat (first | refine sq ?_ | refine sk ?_ | with_reducible first | refine tn ?_ | refine bn ?_)
            exact ⟨_, next_out h, (.ren [74, 0] [7000, 118, 9] (.cov ⟨rfl, rfl, (ut (ut (ut (ut (ut (ut (ut (ut upT_nil)))))))), (uo (uo (uo upOb_nil))), upOut_nil, rfl⟩))⟩
       ·skip
        refine Safe.block ?_
        repeat (first | refine sq ?_ | refine sk ?_ | with_reducible first | refine tn ?_ | refine bn ?_)
        refine Safe.region ?_
        refine Qf E_good ?_
        refine Q0 E_good rfl (v := V.bool (v14_3637 == 1)) (.fn rfl) ?_
        refine Qf E_good ?_
        refine SafeOps.bjoin 4 97 (b := ((v14_3637 == 1) && ((v10_3630.length : Int) == a0_3326))) (b1 := ((v10_3630.length : Int) == a0_3326)) (b0 := false) (fun hc3679 K => ?_) (fun hc3679 K => ?_) bj_and ?_
        ·skip
         refine SafeOps.quiet0 E_good (congrArg some hc3679) rfl rfl (.fn rfl) ?_
         refine SafeOps.quiet0 E_good (congrArg some hc3679) rfl rfl (.fn rfl) ?_
         refine SafeOps.quiet0 E_good (congrArg some hc3679) rfl rfl (v := V.bool ((v10_3630.length : Int) == a0_3326)) (.fn rfl) ?_
         refine Q0 E_good rfl (v := V.bool ((v10_3630.length : Int) == a0_3326)) (.pickK rfl hc3679 rfl) ?_
         exact SafeOps.drop' 4 rfl rfl rfl K
        ·skip
         refine SafeOps.skip (congrArg some hc3679) rfl rfl ?_
         refine SafeOps.skip (congrArg some hc3679) rfl rfl ?_
         refine SafeOps.skip (congrArg some hc3679) rfl rfl ?_
         refine Q0 E_good rfl (v := V.bool false) (.pickK rfl hc3679 rfl) ?_
         exact SafeOps.drop' 4 rfl rfl rfl K
        refine Qf E_good ?_
        refine SafeOps.nil ?_
        repeat (first | refine sq ?_ | refine sk ?_ | with_reducible first | refine tn ?_ | refine bn ?_)
        refine ifG h (fun hc3680 h => ?_) (fun hc3680 h => ?_)
        ·skip
         refine Safe.condK rfl hc3680 ?_
         repeat (first | refine sq ?_ | refine sk ?_ | with_reducible first | refine tn ?_ | refine bn ?_)
         refine Safe.region ?_
         refine Qf E_good ?_
         refine SafeOps.nil ?_
         repeat (first | refine Safe.skip ?_ | with_reducible refine thenQ.n ?_ | with_reducible refine blockQ.n ?_)
         exact Safe.got (HJ3658 (v10_3630, 3) h) (.cov ⟨rfl, rfl, (ut (ut (ut (ut (ut (ut (ut (ut (ut (ut upT_nil)))))))))), (uo (uo (uo (uo upOb_nil)))), upOut_nil, rfl⟩)
        ·skip
         refine Safe.condN rfl hc3680 ?_
         repeat (first | refine sq ?_ | refine sk ?_ | with_reducible first | refine tn ?_ | refine bn ?_)
         refine Safe.region ?_
         refine Qf E_good ?_
         refine Q0 E_good rfl (v := V.bool (v14_3637 == 1)) (.fn rfl) ?_
         refine Qf E_good ?_
         refine SafeOps.nil ?_
         repeat (first | refine sq ?_ | refine sk ?_ | with_reducible first | refine tn ?_ | refine bn ?_)
         refine ifG h (fun hc3681 h => ?_) (fun hc3681 h => ?_)
         ·skip
          refine Safe.condK rfl hc3681 ?_
          repeat (first | refine sq ?_ | refine sk ?_ | with_reducible first | refine tn ?_ | refine bn ?_)
          refine Safe.region ?_
          refine Qf E_good ?_
          refine Qf E_good ?_
          refine SafeOps.quiet1 E_good rfl rfl rfl (.litM (f := (fun n => [V.int .i64 n])) (xs := [IntKind.i64.wrap (v58_3631 + 100)]) rfl rfl (by decide) rfl rfl rfl rfl rfl) rfl ?_
          refine okG h (fun hb3682 h => ?_)
          refine SafeOps.appendM (fun n => [V.int .i64 n]) (xs := v10_3630) (ys := [IntKind.i64.wrap (v58_3631 + 100)]) E_good rfl rfl rfl rfl rfl rfl rfl rfl rfl (.own rfl) (.own rfl) (fun _ => rfl) hb3682 ?_
          refine Qf E_good ?_
          refine SafeOps.nil ?_
          repeat (first | refine Safe.skip ?_ | with_reducible refine thenQ.n ?_ | with_reducible refine blockQ.n ?_)
          exact Safe.got (HJ3658 (v10_3630 ++ [IntKind.i64.wrap (v58_3631 + 100)], 1) h) (.ren [104] [7000, 118, 10] (.cov ⟨rfl, rfl, (ut (ut (ut (ut (ut (ut (ut (ut (ut (ut upT_nil)))))))))), (uo (uo (uo (uo upOb_nil)))), upOut_nil, rfl⟩))
         ·skip
          refine Safe.condN rfl hc3681 ?_
          repeat (first | refine sq ?_ | refine sk ?_ | with_reducible first | refine tn ?_ | refine bn ?_)
          refine Safe.region ?_
          refine Qf E_good ?_
          refine Q0 E_good rfl (v := V.bool ((v10_3630.length : Int) == 0)) (.fn rfl) ?_
          refine Qf E_good ?_
          refine SafeOps.nil ?_
          repeat (first | refine sq ?_ | refine sk ?_ | with_reducible first | refine tn ?_ | refine bn ?_)
          refine ifG h (fun hc3683 h => ?_) (fun hc3683 h => ?_)
          ·skip
           refine Safe.condK rfl hc3683 ?_
           repeat (first | refine sq ?_ | refine sk ?_ | with_reducible first | refine tn ?_ | refine bn ?_)
           refine Safe.region ?_
           refine Qf E_good ?_
           refine SafeOps.nil ?_
           repeat (first | refine Safe.skip ?_ | with_reducible refine thenQ.n ?_ | with_reducible refine blockQ.n ?_)
           exact Safe.got (HJ3658 (v10_3630, 2) h) (.cov ⟨rfl, rfl, (ut (ut (ut (ut (ut (ut (ut (ut (ut (ut upT_nil)))))))))), (uo (uo (uo (uo upOb_nil)))), upOut_nil, rfl⟩)
          ·skip
           refine Safe.condN rfl hc3683 ?_
           repeat (first | refine sq ?_ | refine sk ?_ | with_reducible first | refine tn ?_ | refine bn ?_)
           refine Safe.region ?_
           refine Qf E_good ?_
           refine Q0 E_good rfl (v := V.bool (v14_3637 == 2)) (.fn rfl) ?_
           refine Qf E_good ?_
           refine SafeOps.nil ?_
           repeat (first | refine sq ?_ | refine sk ?_ | with_reducible first | refine tn ?_ | refine bn ?_)
           refine ifG h (fun hc3684 h => ?_) (fun hc3684 h => ?_)
           ·skip
            refine Safe.condK rfl hc3684 ?_
            repeat (first | refine sq ?_ | refine sk ?_ | with_reducible first | refine tn ?_ | refine bn ?_)
            refine Safe.regionD (n := 8) [] [] E_good mixed rfl ?_
            refine DT 0 [] rfl rfl (v := V.ptr [16] 0 2) (fun _ hz => (.fn rfl)) ?_
            refine DT 1 [] rfl rfl (v := V.int .i64 x_3640.V) (fun _ hz => (.load rfl rfl (.box (hz _ _ rfl rfl) rfl) rfl)) ?_
            refine DT 2 [] rfl rfl (fun _ hz => (.fn rfl)) ?_
            refine DT 3 [] rfl rfl (fun _ hz => (.fn rfl)) ?_
            refine DT 4 [] rfl rfl (v := V.int .i64 (IntKind.i64.wrap ((v10_3630.length : Int) - 1))) (fun _ hz => (.fn rfl)) ?_
            refine okG h (fun hb3685 h => ?_)
            refine DT 5 [] rfl rfl (v := V.ptr [7000, 118, 10] (0 + Int.toNat (IntKind.i64.wrap ((v10_3630.length : Int) - 1))) 0) (fun _ hz => (.idxRefM (f := (fun n => [V.int .i64 n])) (xs := v10_3630) rfl rfl rfl (hz _ _ rfl rfl) rfl rfl hb3685)) ?_
            refine DT 6 [] rfl rfl (v := V.int .i64 (gt v10_3630 (IntKind.i64.wrap ((v10_3630.length : Int) - 1)))) (fun _ hz => (.load rfl rfl (.rowsM (f := (fun n => [V.int .i64 n])) (xs := v10_3630) hb3685 (hz _ _ rfl rfl) rfl) rfl)) ?_
            refine DT 7 [] rfl rfl (v := V.bool (x_3640.V != (gt v10_3630 (IntKind.i64.wrap ((v10_3630.length : Int) - 1))))) (fun _ hz => (.fn rfl)) ?_
            refine DAny.nil (by kernel_rfl) ?_
            repeat (first | refine sq ?_ | refine sk ?_ | with_reducible first | refine tn ?_ | refine bn ?_)
            refine ifG h (fun hc3686 h => ?_) (fun hc3686 h => ?_)
            ·skip
             refine Safe.condK rfl hc3686 ?_
             repeat (first | refine sq ?_ | refine sk ?_ | with_reducible first | refine tn ?_ | refine bn ?_)
             refine Safe.region ?_
             refine Qf E_good ?_
             refine SafeOps.nil ?_
             repeat (first | refine sq ?_ | refine sk ?_ | with_reducible first | refine tn ?_ | refine bn ?_)
             refine Safe.ret ?_
             repeat (first | with_reducible refine thenQ.r ?_ | with_reducible refine blockQ.r ?_)
             replace h := inr_out h hr3632
             obtain rfl := Option.some.inj h
             exact retQ.gen (vs := [V.bool false]) rfl (.tmp (v := V.bool false) rfl .nil) (.free rfl) (by simp) (.inr rfl)
            ·skip
             refine Safe.condN rfl hc3686 ?_
             repeat (first | refine sq ?_ | refine sk ?_ | with_reducible first | refine tn ?_ | refine bn ?_)
             refine Safe.region ?_
             refine Qf E_good ?_
             refine Qf E_good ?_
             refine Q0 E_good rfl (v := V.int .i64 (IntKind.i64.wrap ((v10_3630.length : Int) - 1))) (.fn rfl) ?_
             refine okG h (fun hb3687 h => ?_)
             refine Q0 E_good rfl (v := V.ref [7000, 118, 10] 0 (Int.toNat (IntKind.i64.wrap ((v10_3630.length : Int) - 1)))) (.slRefH (f := (fun n => [V.int .i64 n])) (xs := v10_3630) rfl rfl rfl rfl rfl hb3687) ?_
             refine SafeOps.truncM (f := (fun n => [V.int .i64 n])) (xs := v10_3630) [7000, 118, 10] (IntKind.i64.wrap ((v10_3630.length : Int) - 1)) rfl ?_
             refine SafeOps.see 122 (u := V.ref [7000, 118, 10] 0 (rws (fun n => [V.int .i64 n]) (sub v10_3630 0 (IntKind.i64.wrap ((v10_3630.length : Int) - 1)))).length) rfl (.len (len_sub hb3687)) ?_
             refine Qf E_good ?_
             refine SafeOps.nil ?_
             repeat (first | refine Safe.skip ?_ | with_reducible refine thenQ.n ?_ | with_reducible refine blockQ.n ?_)
             exact Safe.got (HJ3658 (sub v10_3630 0 (IntKind.i64.wrap ((v10_3630.length : Int) - 1)), 1) h) (.cov ⟨rfl, rfl, (ut (ut (ut (ut (ut (ut (ut (ut (ut (ut upT_nil)))))))))), (uo (uo (uo (uo upOb_nil)))), upOut_nil, rfl⟩)
           ·skip
            refine Safe.condN rfl hc3684 ?_
            repeat (first | refine sq ?_ | refine sk ?_ | with_reducible first | refine tn ?_ | refine bn ?_)
            refine Safe.regionD (n := 6) [] [] E_good mixed rfl ?_
            refine DT 0 [] rfl rfl (v := V.ptr [16] 0 2) (fun _ hz => (.fn rfl)) ?_
            refine DT 1 [] rfl rfl (v := V.int .i64 x_3640.V) (fun _ hz => (.load rfl rfl (.box (hz _ _ rfl rfl) rfl) rfl)) ?_
            refine DT 2 [] rfl rfl (fun _ hz => (.fn rfl)) ?_
            refine okG h (fun hb3688 h => ?_)
            refine DT 3 [] rfl rfl (v := V.ptr [7000, 118, 10] (0 + Int.toNat 0) 0) (fun _ hz => (.idxRefM (f := (fun n => [V.int .i64 n])) (xs := v10_3630) rfl rfl rfl (hz _ _ rfl rfl) rfl rfl hb3688)) ?_
            refine DT 4 [] rfl rfl (v := V.int .i64 (gt v10_3630 0)) (fun _ hz => (.load rfl rfl (.rowsM (f := (fun n => [V.int .i64 n])) (xs := v10_3630) hb3688 (hz _ _ rfl rfl) rfl) rfl)) ?_
            refine DT 5 [] rfl rfl (v := V.bool (x_3640.V != (gt v10_3630 0))) (fun _ hz => (.fn rfl)) ?_
            refine DAny.nil (by kernel_rfl) ?_
            repeat (first | refine sq ?_ | refine sk ?_ | with_reducible first | refine tn ?_ | refine bn ?_)
            refine ifG h (fun hc3689 h => ?_) (fun hc3689 h => ?_)
            ·skip
             refine Safe.condK rfl hc3689 ?_
             repeat (first | refine sq ?_ | refine sk ?_ | with_reducible first | refine tn ?_ | refine bn ?_)
             refine Safe.region ?_
             refine Qf E_good ?_
             refine SafeOps.nil ?_
             repeat (first | refine sq ?_ | refine sk ?_ | with_reducible first | refine tn ?_ | refine bn ?_)
             refine Safe.ret ?_
             repeat (first | with_reducible refine thenQ.r ?_ | with_reducible refine blockQ.r ?_)
             replace h := inr_out h hr3632
             obtain rfl := Option.some.inj h
             exact retQ.gen (vs := [V.bool false]) rfl (.tmp (v := V.bool false) rfl .nil) (.free rfl) (by simp) (.inr rfl)
            ·skip
             refine Safe.condN rfl hc3689 ?_
             repeat (first | refine sq ?_ | refine sk ?_ | with_reducible first | refine tn ?_ | refine bn ?_)
             refine Safe.region ?_
             refine Qf E_good ?_
             refine okG h (fun hb3690 h => ?_)
             refine Q0 E_good rfl (v := V.ref [7000, 118, 10] (Int.toNat 1) (v10_3630.length - Int.toNat 1)) (.slRefT (f := (fun n => [V.int .i64 n])) (xs := v10_3630) rfl rfl rfl rfl rfl hb3690) ?_
             refine SafeOps.frontM (f := (fun n => [V.int .i64 n])) (xs := v10_3630) [7000, 118, 10] [89] 89 1 rfl rfl rfl hb3690 ?_
             refine Qf E_good ?_
             refine SafeOps.nil ?_
             repeat (first | refine Safe.skip ?_ | with_reducible refine thenQ.n ?_ | with_reducible refine blockQ.n ?_)
             exact Safe.got (HJ3658 (sub v10_3630 1 (v10_3630.length : Int), 1) h) (.ren [89] [7000, 118, 10] (.cov ⟨rfl, rfl, (ut (ut (ut (ut (ut (ut (ut (ut (ut (ut upT_nil)))))))))), (uo (uo (uo (uo upOb_nil)))), upOut_nil, rfl⟩))
     ·skip
      refine ifG h (fun hc3691 h => ?_) (fun hc3691 h => ?_)
      ·skip
       refine Safe.condK rfl hc3691 ?_
       repeat (first | refine sq ?_ | refine sk ?_ | with_reducible first | refine tn ?_ | refine bn ?_)
       refine Safe.region ?_
       refine Qf E_good ?_
       refine SafeOps.nil ?_
       repeat (first | refine Safe.skip ?_ | with_reducible refine thenQ.n ?_ | with_reducible refine blockQ.n ?_)
       exact Safe.got (HJ3638 (3) h) (.cov ⟨rfl, rfl, (ut (ut (ut (ut (ut (ut (ut (ut (ut (ut upT_nil)))))))))), (uo (uo (uo upOb_nil))), upOut_nil, rfl⟩)
      ·skip
       refine Safe.condN rfl hc3691 ?_
       repeat (first | refine Safe.skip ?_ | with_reducible refine thenQ.n ?_ | with_reducible refine blockQ.n ?_)
       exact Safe.got (HJ3638 (v14_3635) h) (.cov ⟨rfl, rfl, (ut (ut (ut (ut (ut (ut (ut (ut (ut (ut upT_nil)))))))))), (uo (uo (uo upOb_nil))), upOut_nil, rfl⟩)
    ·skip
     refine ifG h (fun hc3692 h => ?_) (fun hc3692 h => ?_)
     ·skip
      refine Safe.condK rfl hc3692 ?_
      repeat (first | refine sq ?_ | refine sk ?_ | with_reducible first | refine tn ?_ | refine bn ?_)
      refine Safe.region ?_
      refine Qf E_good ?_
      refine SafeOps.nil ?_
      repeat (first | refine Safe.skip ?_ | with_reducible refine thenQ.n ?_ | with_reducible refine blockQ.n ?_)
      exact Safe.got (HJ3636 (2) h) (.cov ⟨rfl, rfl, (ut (ut (ut (ut (ut (ut (ut (ut (ut (ut (ut upT_nil))))))))))), (uo (uo (uo upOb_nil))), upOut_nil, rfl⟩)
     ·skip
      refine Safe.condN rfl hc3692 ?_
      repeat (first | refine Safe.skip ?_ | with_reducible refine thenQ.n ?_ | with_reducible refine blockQ.n ?_)
      exact Safe.got (HJ3636 (1) h) (.cov ⟨rfl, rfl, (ut (ut (ut (ut (ut (ut (ut (ut (ut (ut (ut upT_nil))))))))))), (uo (uo (uo upOb_nil))), upOut_nil, rfl⟩)
   ·skip
    refine Safe.condN rfl hc3633 ?_
    repeat (first | refine sq ?_ | refine sk ?_ | with_reducible first | refine tn ?_ | refine bn ?_)
    refine Safe.exit ?_
    repeat (first | with_reducible refine thenQ.e ?_ | with_reducible refine blockQ.x rfl ?_ | with_reducible refine blockQ.y rfl ?_)
    replace h := inr_out h hr3632
    repeat (first | refine sq ?_ | refine sk ?_ | with_reducible first | refine tn ?_ | refine bn ?_)
    refine Safe.region ?_
    refine Qf E_good ?_
    refine Qf E_good ?_
    refine SafeOps.nil ?_
    repeat (first | refine sq ?_ | refine sk ?_ | with_reducible first | refine tn ?_ | refine bn ?_)
    refine Safe.ret ?_
    repeat (first | with_reducible refine thenQ.r ?_ | with_reducible refine blockQ.r ?_)
    obtain rfl := Option.some.inj h
    exact retQ.gen (vs := [V.bool x_3511]) rfl (.tmp (v := V.bool x_3511) rfl .nil) (.free rfl) (by simp) (.inr rfl)
end Go.Proofs.Ytoapmmcoaggekaa
