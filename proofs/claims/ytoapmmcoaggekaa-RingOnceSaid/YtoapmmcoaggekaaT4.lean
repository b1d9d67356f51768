/- Helper lemmas for the claim's theorem: an abstract machine over the model, proved sound; no condition beyond each lemma's own. -/
import Derived.Test.YtoapmmcoaggekaaT3
set_option linter.unusedVariables false
set_option linter.unusedSimpArgs false
set_option linter.unnecessarySimpa false
set_option linter.unusedSectionVars false
namespace Go.Proofs.Ytoapmmcoaggekaa
open Go Go.AM
set_option maxRecDepth 100000
set_option maxHeartbeats 1000000
set_option linter.unusedVariables false
set_option linter.unusedSimpArgs false
variable {gl : List (Nat × List V)}
noncomputable def go_ravellaw07_RingOnce_j26 (v344 : Int) (v345 : List Int) (v346 : List api_Hand) (v347 : Int) (v348 : Int) (v349 : Bool) (v350 : List (Int × Int)) : Option ((Int × (List Int) × (List api_Hand) × Int × Int × Bool × (List (Int × Int))) ⊕ (Bool)) :=
 nextO (IntKind.i64.wrap (v344 + 1), v345, v346, v347, v348, v349, v350)

noncomputable def go_ravellaw07_RingOnce_j29 (a351 : Int) (a352 : List Int) (v344 : Int) (v353 : List api_Hand) (v354 : Bool) (v355 : Int) (v356 : Int) (x357 : List Int) (x358 : api_Hand) (v359 : List (Int × Int)) : Option ((Int × (List Int) × (List api_Hand) × Int × Int × Bool × (List (Int × Int))) ⊕ (Bool)) :=
 if (x358.State == 3) = true then
  go_ravellaw07_RingOnce_j26 v344 x357 (st ([] ++ v353) (Int.tmod (IntKind.i64.wrap (IntKind.u8.wrap (BitVec.ofInt IntKind.u8.bits (gt a352 v344) &&& BitVec.ofInt IntKind.u8.bits 15).toNat)) (IntKind.i64.wrap (a351 + 1))) x358) v355 v356 v354 (mput v359 x358.V (IntKind.i64.wrap (((mget v359 x358.V).getD 0) + 1)))
 else
  go_ravellaw07_RingOnce_j26 v344 x357 (st ([] ++ v353) (Int.tmod (IntKind.i64.wrap (IntKind.u8.wrap (BitVec.ofInt IntKind.u8.bits (gt a352 v344) &&& BitVec.ofInt IntKind.u8.bits 15).toNat)) (IntKind.i64.wrap (a351 + 1))) x358) v355 v356 v354 v359

noncomputable def go_ravellaw07_RingOnce_j28 (a360 : Int) (a351 : Int) (a352 : List Int) (v344 : Int) (v361 : List Int) (v353 : List api_Hand) (v354 : Bool) (v362 : List (Int × Int)) (v355 : Int) (v356 : Int) (v363 : Int) (v364 : Int) (v365 : Int) (v366 : Int) (v367 : Int) (v368 : Bool) (v369 : Int) : Option ((Int × (List Int) × (List api_Hand) × Int × Int × Bool × (List (Int × Int))) ⊕ (Bool)) :=
 (go_ring_Step v361 (api_Deque.mk 0 a360) (api_Hand.mk v363 v364 v365 v366 v367 v368 v369)).bind fun (x357, x358, x370) =>
 if (x370 != 0) = true then
  go_ravellaw07_RingOnce_j26 v344 v361 v353 v355 v356 true v362
 else
  if few ([] ++ v353).length then
   if 0 ≤ (Int.tmod (IntKind.i64.wrap (IntKind.u8.wrap (BitVec.ofInt IntKind.u8.bits (gt a352 v344) &&& BitVec.ofInt IntKind.u8.bits 15).toNat)) (IntKind.i64.wrap (a351 + 1))) ∧ (Int.tmod (IntKind.i64.wrap (IntKind.u8.wrap (BitVec.ofInt IntKind.u8.bits (gt a352 v344) &&& BitVec.ofInt IntKind.u8.bits 15).toNat)) (IntKind.i64.wrap (a351 + 1))) < (([] ++ v353).length : Int) then
    if ((x358.State == 1) && (x358.Kind != 1)) = true then
     go_ravellaw07_RingOnce_j29 a351 a352 v344 v353 v354 v355 v356 x357 x358 (mput v362 x358.V (IntKind.i64.wrap (((mget v362 x358.V).getD 0) + 1)))
    else
     go_ravellaw07_RingOnce_j29 a351 a352 v344 v353 v354 v355 v356 x357 x358 v362
   else none
  else none

noncomputable def go_ravellaw07_RingOnce_j30 (a360 : Int) (a351 : Int) (a352 : List Int) (v344 : Int) (v361 : List Int) (v353 : List api_Hand) (v371 : Int) (v354 : Bool) (v362 : List (Int × Int)) (v372 : Int) (v373 : Int) (v374 : Int) : Option ((Int × (List Int) × (List api_Hand) × Int × Int × Bool × (List (Int × Int))) ⊕ (Bool)) :=
 letO (go_ring_Start v372 v373) fun (x375, x376) =>
 go_ravellaw07_RingOnce_j28 a360 a351 a352 v344 v361 v353 v354 v362 v374 (IntKind.i64.wrap (v371 - 1)) x375.Kind x375.Pc x375.V x375.T x375.B x375.Won x375.State

noncomputable def go_ravellaw07_RingOnce_j92 (v377 : Int) (v378 : List Int) (v379 : List api_Hand) (v380 : Bool) (v381 : List (Int × Int)) : Option ((Int × (List Int) × (List api_Hand) × Bool × (List (Int × Int))) ⊕ ((Int × (List Int) × (List api_Hand) × Bool × (List (Int × Int))) ⊕ (Bool))) :=
 nextO (IntKind.i64.wrap (v377 + 1), v378, v379, v380, v381)

noncomputable def go_ravellaw07_RingOnce_j93 (v382 : Int) (v377 : Int) (v383 : List api_Hand) (v384 : Bool) (x385 : List Int) (x386 : api_Hand) (v387 : List (Int × Int)) : Option ((Int × (List Int) × (List api_Hand) × Bool × (List (Int × Int))) ⊕ ((Int × (List Int) × (List api_Hand) × Bool × (List (Int × Int))) ⊕ (Bool))) :=
 if (x386.State == 3) = true then
  go_ravellaw07_RingOnce_j92 v377 x385 (st ([] ++ v383) v382 x386) v384 (mput v387 x386.V (IntKind.i64.wrap (((mget v387 x386.V).getD 0) + 1)))
 else
  go_ravellaw07_RingOnce_j92 v377 x385 (st ([] ++ v383) v382 x386) v384 v387

noncomputable def go_ravellaw07_RingOnce_j90 (a360 : Int) (v382 : Int) (v377 : Int) (v388 : List Int) (v383 : List api_Hand) (v384 : Bool) (v389 : List (Int × Int)) (b390 : Bool) : Option ((Int × (List Int) × (List api_Hand) × Bool × (List (Int × Int))) ⊕ ((Int × (List Int) × (List api_Hand) × Bool × (List (Int × Int))) ⊕ (Bool))) :=
 if b390 = true then
  if 0 ≤ v382 ∧ v382 < (v383.length : Int) then
   if ((((gt v383 v382).Kind) == 0) || (((gt v383 v382).State) != 0)) = true then
    go_ravellaw07_RingOnce_j92 v377 v388 v383 v384 v389
   else
    (go_ring_Step v388 (api_Deque.mk 0 a360) (gt v383 v382)).bind fun (x385, x386, x391) =>
    if (x391 != 0) = true then
     go_ravellaw07_RingOnce_j92 v377 v388 v383 true v389
    else
     if few ([] ++ v383).length then
      if 0 ≤ v382 ∧ v382 < (([] ++ v383).length : Int) then
       if ((x386.State == 1) && (x386.Kind != 1)) = true then
        go_ravellaw07_RingOnce_j93 v382 v377 v383 v384 x385 x386 (mput v389 x386.V (IntKind.i64.wrap (((mget v389 x386.V).getD 0) + 1)))
       else
        go_ravellaw07_RingOnce_j93 v382 v377 v383 v384 x385 x386 v389
      else none
     else none
  else none
 else
  nextO (IntKind.i64.wrap (v377 + 1), v388, v383, v384, v389)

noncomputable def go_ravellaw07_RingOnce_s89 (a360 : Int) (v382 : Int) : (Int × (List Int) × (List api_Hand) × Bool × (List (Int × Int))) → Option ((Int × (List Int) × (List api_Hand) × Bool × (List (Int × Int))) ⊕ ((Int × (List Int) × (List api_Hand) × Bool × (List (Int × Int))) ⊕ (Bool)))
 | (v377, v388, v383, v384, v389) =>
  if (decide (v377 < 10)) = true then
   if 0 ≤ v382 ∧ v382 < (v383.length : Int) then
    if (((gt v383 v382).Kind) != 0) = true then
     if 0 ≤ v382 ∧ v382 < (v383.length : Int) then
      go_ravellaw07_RingOnce_j90 a360 v382 v377 v388 v383 v384 v389 (((gt v383 v382).State) == 0)
     else none
    else
     go_ravellaw07_RingOnce_j90 a360 v382 v377 v388 v383 v384 v389 false
   else none
  else
   inrO (
    nextO (IntKind.i64.wrap (v382 + 1), v388, v383, v384, v389))

noncomputable def go_ravellaw07_RingOnce_s95 (x392 : Bool) (v393 : Int) (x394 : List Int) : (Int × Int × (List (Int × Int))) → Option ((Int × Int × (List (Int × Int))) ⊕ (Bool))
 | (v395, v396, v397) =>
  if (decide (v396 < (x394.length : Int))) = true then
   if 0 ≤ v396 ∧ v396 < (x394.length : Int) then
    if (decide ((gt x394 v396) ≤ v395)) = true then
     inrO (
      some false)
    else
     nextO ((gt x394 v396), IntKind.i64.wrap (v396 + 1), mput v397 (gt x394 v396) (IntKind.i64.wrap (((mget v397 (gt x394 v396)).getD 0) + 1)))
   else none
  else
   inrO (
    (anyO (fun k398 v399 =>
      if (((decide (k398 < 1)) || (decide (k398 > v393))) || (v399 != 1)) = true then
       some true
      else
       some false) v397).bind fun b400 =>
    if b400 = true then
     some false
    else
     some (x392 && ((v397.length : Int) == v393)))

noncomputable def go_ravellaw07_RingOnce_s82 (a360 : Int) (x392 : Bool) (v353 : List api_Hand) (v393 : Int) : (Int × (List Int) × (List api_Hand) × Bool × (List (Int × Int))) → Option ((Int × (List Int) × (List api_Hand) × Bool × (List (Int × Int))) ⊕ (Bool))
 | (v382, v401, v402, v403, v404) =>
  if (decide (v382 < (v353.length : Int))) = true then
   whileO (go_ravellaw07_RingOnce_s89 a360 v382) (0, v401, v402, v403, v404)
  else
   inrO (
    (go_ring_List v401 (api_Deque.mk 0 a360)).bind fun (x394, x405) =>
    if (v403 || (x405 != 0)) = true then
     some false
    else
     whileO (go_ravellaw07_RingOnce_s95 x392 v393 x394) (0, 0, v404))

noncomputable def go_ravellaw07_RingOnce_s22 (a360 : Int) (a351 : Int) (a352 : List Int) (x392 : Bool) : (Int × (List Int) × (List api_Hand) × Int × Int × Bool × (List (Int × Int))) → Option ((Int × (List Int) × (List api_Hand) × Int × Int × Bool × (List (Int × Int))) ⊕ (Bool))
 | (v344, v361, v353, v393, v371, v354, v362) =>
  if (decide (v344 < (a352.length : Int))) = true then
   if 0 ≤ v344 ∧ v344 < (a352.length : Int) then
    if (IntKind.i64.wrap (a351 + 1)) ≠ 0 then
     if 0 ≤ (Int.tmod (IntKind.i64.wrap (IntKind.u8.wrap (BitVec.ofInt IntKind.u8.bits (gt a352 v344) &&& BitVec.ofInt IntKind.u8.bits 15).toNat)) (IntKind.i64.wrap (a351 + 1))) ∧ (Int.tmod (IntKind.i64.wrap (IntKind.u8.wrap (BitVec.ofInt IntKind.u8.bits (gt a352 v344) &&& BitVec.ofInt IntKind.u8.bits 15).toNat)) (IntKind.i64.wrap (a351 + 1))) < (v353.length : Int) then
      if ((((gt v353 (Int.tmod (IntKind.i64.wrap (IntKind.u8.wrap (BitVec.ofInt IntKind.u8.bits (gt a352 v344) &&& BitVec.ofInt IntKind.u8.bits 15).toNat)) (IntKind.i64.wrap (a351 + 1)))).Kind) == 0) || (((gt v353 (Int.tmod (IntKind.i64.wrap (IntKind.u8.wrap (BitVec.ofInt IntKind.u8.bits (gt a352 v344) &&& BitVec.ofInt IntKind.u8.bits 15).toNat)) (IntKind.i64.wrap (a351 + 1)))).State) != 0)) = true then
       if (v371 == 0) = true then
        go_ravellaw07_RingOnce_j26 v344 v361 v353 v393 v371 v354 v362
       else
        if ((Int.tmod (IntKind.i64.wrap (IntKind.u8.wrap (BitVec.ofInt IntKind.u8.bits (gt a352 v344) &&& BitVec.ofInt IntKind.u8.bits 15).toNat)) (IntKind.i64.wrap (a351 + 1))) == 0) = true then
         if (!(decide ((IntKind.u8.wrap (BitVec.ofInt IntKind.u8.bits (gt a352 v344) &&& BitVec.ofInt IntKind.u8.bits 16).toNat) > 0))) = true then
          go_ravellaw07_RingOnce_j30 a360 a351 a352 v344 v361 v353 v371 v354 v362 1 (IntKind.i64.wrap (v393 + 1)) (IntKind.i64.wrap (v393 + 1))
         else
          go_ravellaw07_RingOnce_j30 a360 a351 a352 v344 v361 v353 v371 v354 v362 2 0 v393
        else
         go_ravellaw07_RingOnce_j30 a360 a351 a352 v344 v361 v353 v371 v354 v362 3 0 v393
      else
       go_ravellaw07_RingOnce_j28 a360 a351 a352 v344 v361 v353 v354 v362 v393 v371 ((gt v353 (Int.tmod (IntKind.i64.wrap (IntKind.u8.wrap (BitVec.ofInt IntKind.u8.bits (gt a352 v344) &&& BitVec.ofInt IntKind.u8.bits 15).toNat)) (IntKind.i64.wrap (a351 + 1)))).Kind) ((gt v353 (Int.tmod (IntKind.i64.wrap (IntKind.u8.wrap (BitVec.ofInt IntKind.u8.bits (gt a352 v344) &&& BitVec.ofInt IntKind.u8.bits 15).toNat)) (IntKind.i64.wrap (a351 + 1)))).Pc) ((gt v353 (Int.tmod (IntKind.i64.wrap (IntKind.u8.wrap (BitVec.ofInt IntKind.u8.bits (gt a352 v344) &&& BitVec.ofInt IntKind.u8.bits 15).toNat)) (IntKind.i64.wrap (a351 + 1)))).V) ((gt v353 (Int.tmod (IntKind.i64.wrap (IntKind.u8.wrap (BitVec.ofInt IntKind.u8.bits (gt a352 v344) &&& BitVec.ofInt IntKind.u8.bits 15).toNat)) (IntKind.i64.wrap (a351 + 1)))).T) ((gt v353 (Int.tmod (IntKind.i64.wrap (IntKind.u8.wrap (BitVec.ofInt IntKind.u8.bits (gt a352 v344) &&& BitVec.ofInt IntKind.u8.bits 15).toNat)) (IntKind.i64.wrap (a351 + 1)))).B) ((gt v353 (Int.tmod (IntKind.i64.wrap (IntKind.u8.wrap (BitVec.ofInt IntKind.u8.bits (gt a352 v344) &&& BitVec.ofInt IntKind.u8.bits 15).toNat)) (IntKind.i64.wrap (a351 + 1)))).Won) ((gt v353 (Int.tmod (IntKind.i64.wrap (IntKind.u8.wrap (BitVec.ofInt IntKind.u8.bits (gt a352 v344) &&& BitVec.ofInt IntKind.u8.bits 15).toNat)) (IntKind.i64.wrap (a351 + 1)))).State)
     else none
    else none
   else none
  else
   inrO (
    whileO (go_ravellaw07_RingOnce_s82 a360 x392 v353 v393) (0, v361, v353, v354, v362))

noncomputable def go_ravellaw07_RingOnce (a360 : Int) (a351 : Int) (a352 : List Int) : Option Bool :=
 (go_ravellaw07_live).bind fun x392 =>
 if (!x392) = true then
  some false
 else
  if (((((decide (a360 < 1)) || (decide (a360 > 6))) || (decide (a351 < 0))) || (decide (a351 > 4))) || (decide ((a352.length : Int) > 300))) = true then
   some x392
  else
   if 0 ≤ (IntKind.i64.wrap (a360 + 2)) ∧ (IntKind.i64.wrap (a360 + 2)) ≤ (IntKind.i64.wrap (a360 + 2)) ∧ (IntKind.i64.wrap (a360 + 2)) ≤ 549755813888 then
    if 0 ≤ (IntKind.i64.wrap (a351 + 1)) ∧ (IntKind.i64.wrap (a351 + 1)) ≤ (IntKind.i64.wrap (a351 + 1)) ∧ (IntKind.i64.wrap (a351 + 1)) ≤ 549755813888 then
     whileO (go_ravellaw07_RingOnce_s22 a360 a351 a352 x392) (0, List.replicate (Int.toNat (IntKind.i64.wrap (a360 + 2))) (0 : Int), List.replicate (Int.toNat (IntKind.i64.wrap (a351 + 1))) api_Hand.zero, 0, 1000, false, [])
    else none
   else none

theorem go_ravellaw07_RingOnce_sc (a360 : Int) (a351 : Int) (a352 : List Int) (r : Bool) (h : go_ravellaw07_RingOnce a360 a351 a352 = some r) : SC Try.prog gl 6 [I a360, I a351, V.sl 1 (rws (fun n => [V.int .u8 n]) a352)] (V.bool r) := by
 rw [go_ravellaw07_RingOnce] at h
 refine SC.of E_good Try.func6 rfl (fun _ _ => Try.call6 _ _) rfl ?_
 repeat first|apply sq|apply sk|with_reducible first|apply tn|apply bn
 refine Safe.region ?_
 refine Qf E_good ?_
 refine SafeOps.nil ?_
 repeat first|apply sq|apply sk|with_reducible first|apply tn|apply bn
 refine Safe.region ?_
 refine bindG h ?_
 intro x392 he4776 h
 refine Q0 E_good rfl (v := V.bool x392) (.callP rfl rfl (go_ravellaw07_live_sc  _ he4776) rfl) ?_
 refine Qf E_good ?_
 refine SafeOps.nil ?_
 repeat first|apply sq|apply sk|with_reducible first|apply tn|apply bn
 refine Safe.region ?_
 refine Qf E_good ?_
 refine Q0 E_good rfl (v := V.bool (!x392)) (.fn rfl) ?_
 refine SafeOps.nil ?_
 repeat first|apply sq|apply sk|with_reducible first|apply tn|apply bn
 refine ifG h (fun hc4777 h => ?_) (fun hc4777 h => ?_)
 ·skip
  refine Safe.condK rfl hc4777 ?_
  repeat first|apply sq|apply sk|with_reducible first|apply tn|apply bn
  refine Safe.region ?_
  refine Qf E_good ?_
  refine SafeOps.nil ?_
  repeat first|apply sq|apply sk|with_reducible first|apply tn|apply bn
  refine Safe.ret ?_
  repeat (first | with_reducible refine thenQ.r ?_ | with_reducible refine blockQ.r ?_)
  obtain rfl := Option.some.inj h
  exact retQ.gen (vs := [V.bool false]) rfl (.tmp rfl .nil) (.free rfl) (by simp) (.inr rfl)
 ·skip
  refine Safe.condN rfl hc4777 ?_
  repeat first|apply sq|apply sk|with_reducible first|apply tn|apply bn
  refine Safe.region ?_
  refine Qf E_good ?_
  refine Q0 E_good rfl (v := V.bool (decide (a360 < 1))) (.fn rfl) ?_
  refine Qf E_good ?_
  refine SafeOps.bjoin 3 27 (b := ((decide (a360 < 1)) || (decide (a360 > 6)))) (b1 := true) (b0 := decide (a360 > 6)) (fun hc4778 K => ?_) (fun hc4778 K => ?_) bj_or ?_
  ·skip
   refine sF hc4778 ?_
   refine sF hc4778 ?_
   refine Q0 E_good rfl (v := V.bool true) (.pickK rfl hc4778 rfl) ?_
   exact SafeOps.drop' 3 rfl rfl rfl K
  ·skip
   refine qF E_good hc4778 (.fn rfl) ?_
   refine qF E_good hc4778 (v := V.bool (decide (a360 > 6))) (.fn rfl) ?_
   refine Q0 E_good rfl (v := V.bool (decide (a360 > 6))) (.pickK rfl hc4778 rfl) ?_
   exact SafeOps.drop' 3 rfl rfl rfl K
  refine Qf E_good ?_
  refine SafeOps.bjoin 3 31 (b := (((decide (a360 < 1)) || (decide (a360 > 6))) || (decide (a351 < 0)))) (b1 := true) (b0 := decide (a351 < 0)) (fun hc4779 K => ?_) (fun hc4779 K => ?_) bj_or ?_
  ·skip
   refine sF hc4779 ?_
   refine sF hc4779 ?_
   refine Q0 E_good rfl (v := V.bool true) (.pickK rfl hc4779 rfl) ?_
   exact SafeOps.drop' 3 rfl rfl rfl K
  ·skip
   refine qF E_good hc4779 (.fn rfl) ?_
   refine qF E_good hc4779 (v := V.bool (decide (a351 < 0))) (.fn rfl) ?_
   refine Q0 E_good rfl (v := V.bool (decide (a351 < 0))) (.pickK rfl hc4779 rfl) ?_
   exact SafeOps.drop' 3 rfl rfl rfl K
  refine Qf E_good ?_
  refine SafeOps.bjoin 3 35 (b := ((((decide (a360 < 1)) || (decide (a360 > 6))) || (decide (a351 < 0))) || (decide (a351 > 4)))) (b1 := true) (b0 := decide (a351 > 4)) (fun hc4780 K => ?_) (fun hc4780 K => ?_) bj_or ?_
  ·skip
   refine sF hc4780 ?_
   refine sF hc4780 ?_
   refine Q0 E_good rfl (v := V.bool true) (.pickK rfl hc4780 rfl) ?_
   exact SafeOps.drop' 3 rfl rfl rfl K
  ·skip
   refine qF E_good hc4780 (.fn rfl) ?_
   refine qF E_good hc4780 (v := V.bool (decide (a351 > 4))) (.fn rfl) ?_
   refine Q0 E_good rfl (v := V.bool (decide (a351 > 4))) (.pickK rfl hc4780 rfl) ?_
   exact SafeOps.drop' 3 rfl rfl rfl K
  refine Qf E_good ?_
  refine SafeOps.bjoin 4 40 (b := (((((decide (a360 < 1)) || (decide (a360 > 6))) || (decide (a351 < 0))) || (decide (a351 > 4))) || (decide ((a352.length : Int) > 300)))) (b1 := true) (b0 := decide ((a352.length : Int) > 300)) (fun hc4781 K => ?_) (fun hc4781 K => ?_) bj_or ?_
  ·skip
   refine sF hc4781 ?_
   refine sF hc4781 ?_
   refine sF hc4781 ?_
   refine Q0 E_good rfl (v := V.bool true) (.pickK rfl hc4781 rfl) ?_
   exact SafeOps.drop' 4 rfl rfl rfl K
  ·skip
   refine qF E_good hc4781 (.fn rfl) ?_
   refine qF E_good hc4781 (v := I (a352.length : Int)) (.fnE rfl lenE) ?_
   refine qF E_good hc4781 (v := V.bool (decide ((a352.length : Int) > 300))) (.fn rfl) ?_
   refine Q0 E_good rfl (v := V.bool (decide ((a352.length : Int) > 300))) (.pickK rfl hc4781 rfl) ?_
   exact SafeOps.drop' 4 rfl rfl rfl K
  refine SafeOps.nil ?_
  repeat first|apply sq|apply sk|with_reducible first|apply tn|apply bn
  refine ifG h (fun hc4782 h => ?_) (fun hc4782 h => ?_)
  ·skip
   refine Safe.condK rfl hc4782 ?_
   repeat first|apply sq|apply sk|with_reducible first|apply tn|apply bn
   refine Safe.region ?_
   refine Qf E_good ?_
   refine Qf E_good ?_
   refine SafeOps.nil ?_
   repeat first|apply sq|apply sk|with_reducible first|apply tn|apply bn
   refine Safe.ret ?_
   repeat (first | with_reducible refine thenQ.r ?_ | with_reducible refine blockQ.r ?_)
   obtain rfl := Option.some.inj h
   exact retQ.gen (vs := [V.bool x392]) rfl (.tmp rfl .nil) (.free rfl) (by simp) (.inr rfl)
  ·skip
   refine Safe.condN rfl hc4782 ?_
   repeat first|apply sq|apply sk|with_reducible first|apply tn|apply bn
   refine Safe.regionD (n := 12) [(11, [8])] [] E_good mixed rfl ?_
   refine DT 0 [[8]] rfl rfl (fun _ hz => (.fn rfl)) ?_
   refine DT 1 [[8]] rfl rfl (v := I (IntKind.i64.wrap (a360 + 2))) (fun _ hz => (.fn rfl)) ?_
   refine DT 3 [[8]] rfl rfl (fun _ hz => (.fn rfl)) ?_
   refine DT 4 [[8]] rfl rfl (v := V.agg [I 0, I a360]) (fun _ hz => (.fn rfl)) ?_
   refine DT 5 [[8]] rfl rfl (fun _ hz => (.fn rfl)) ?_
   refine DT 6 [[8]] rfl rfl (v := I (IntKind.i64.wrap (a351 + 1))) (fun _ hz => (.fn rfl)) ?_
   refine okG h (fun hb4783 h => ?_)
   skip
   refine okG h (fun hb4784 h => ?_)
   skip
   skip
   skip
   refine DAny.makers [⟨2, _, 44, V.ref [44] 0 (rws (fun n => [I n]) (List.replicate (Int.toNat (IntKind.i64.wrap (a360 + 2))) (0 : Int))).length, [([44], Obj.rows 1 (rws (fun n => [I n]) (List.replicate (Int.toNat (IntKind.i64.wrap (a360 + 2))) (0 : Int))) false)], []⟩, ⟨7, _, 49, V.ref [49] 0 (rws api_Hand.cells (List.replicate (Int.toNat (IntKind.i64.wrap (a351 + 1))) api_Hand.zero)).length, [([49], Obj.rows 7 (rws api_Hand.cells (List.replicate (Int.toNat (IntKind.i64.wrap (a351 + 1))) api_Hand.zero)) false)], []⟩, ⟨8, _, 50, V.mapr [50], [([50], Go.AM.Obj.map (mps (fun n : Int => I n) (fun n : Int => I n) []))], []⟩, ⟨9, _, 51, V.agg [V.ref [44] 0 (rws (fun n => [I n]) (List.replicate (Int.toNat (IntKind.i64.wrap (a360 + 2))) (0 : Int))).length, I 0, I a360, V.ref [49] 0 (rws api_Hand.cells (List.replicate (Int.toNat (IntKind.i64.wrap (a351 + 1))) api_Hand.zero)).length, V.mapr [50], I 0, I 1000, V.bool false], [], [2, 7, 8]⟩, ⟨10, _, 8, V.ptr [8] 0 0, [([8], Obj.box [V.nils, I 0, I 0, V.nils, V.nilm, I 0, I 0, V.bool false])], []⟩] ⟨⟨rfl, rfl, rfl, rfl, (.makeMs (s := 1) (f := (fun n => [I n])) (d := (0 : Int)) rfl rfl rfl rfl hb4783 rfl rfl rfl rfl), rfl⟩, ⟨rfl, rfl, rfl, rfl, (.makeMs (s := 7) (f := api_Hand.cells) (d := api_Hand.zero) rfl rfl rfl rfl hb4784 rfl rfl rfl rfl), rfl⟩, ⟨rfl, rfl, rfl, rfl, (.mkMapM (fun n : Int => I n) (fun n : Int => I n)), rfl⟩, ⟨rfl, rfl, rfl, rfl, (.fn rfl), rfl⟩, ⟨rfl, rfl, rfl, rfl, (.allocM rfl rfl rfl), rfl⟩, trivial⟩ (by kernel_rfl) (by kernel_rfl) ?_
   refine DAny.only (i := 11) rfl (by kernel_rfl) (.store (z := Obj.box [V.ref [44] 0 (rws (fun n => [I n]) (List.replicate (Int.toNat (IntKind.i64.wrap (a360 + 2))) (0 : Int))).length, I 0, I a360, V.ref [49] 0 (rws api_Hand.cells (List.replicate (Int.toNat (IntKind.i64.wrap (a351 + 1))) api_Hand.zero)).length, V.mapr [50], I 0, I 1000, V.bool false]) rfl rfl rfl rfl rfl rfl rfl (.boxM (c := 8) rfl rfl (Nat.le_of_ble_eq_true rfl) rfl) rfl ?_)
   refine DAny.nil (by kernel_rfl) ?_
   repeat first|apply sq|apply sk|with_reducible first|apply tn|apply bn
   refine Safe.region ?_
   refine Qf E_good ?_
   refine Q0 E_good rfl (v := I (a352.length : Int)) (.fnE rfl lenE) ?_
   refine Qf E_good ?_
   refine SafeOps.nil ?_
   repeat first|apply sq|apply sk|with_reducible first|apply tn|apply bn
   refine Safe.block ?_
   repeat first|apply sq|apply sk|with_reducible first|apply tn|apply bn
   refine Safe.loopW (fun ((v344, v361, v353, v393, v371, v354, v362) : Int × (List Int) × (List api_Hand) × Int × Int × Bool × (List (Int × Int))) => ⟨Try.f6.ntmps, [(1, I a351), (7, V.bool x392), (8, V.ptr [8] 0 0), (52, V.sl 1 (rws (fun n => [V.int .u8 n]) a352)), (53, I (a352.length : Int)), (54, I v344)], [([8], Obj.box [V.ref [7000, 114, 8, 0] 0 (rws (fun n => [I n]) v361).length, I 0, I a360, V.ref [7000, 114, 8, 3] 0 (rws api_Hand.cells v353).length, V.mapr [50], I v393, I v371, V.bool v354]), ([50], Go.AM.Obj.map (mps (fun n : Int => I n) (fun n : Int => I n) v362)), ([7000, 114, 8, 0], Obj.rows 1 (rws (fun n => [I n]) v361) false), ([7000, 114, 8, 3], Obj.rows 7 (rws api_Hand.cells v353) false)], [], []⟩) h (.ren [44] [7000, 114, 8, 0] (.ren [49] [7000, 114, 8, 3] (.cov ⟨rfl, rfl, (ut (ut (ut (ut (ut (ut upT_nil)))))), (uo (uo (uo (uo upOb_nil)))), upOut_nil, rfl⟩))) ?_
   rintro ⟨v344, v361, v353, v393, v371, v354, v362⟩ ohr5095 h hr5095
   replace h : go_ravellaw07_RingOnce_s22 a360 a351 a352 x392 (v344, v361, v353, v393, v371, v354, v362) = some ohr5095 := h
   rw [go_ravellaw07_RingOnce_s22] at h
   repeat first|apply sq|apply sk|with_reducible first|apply tn|apply bn
   refine Safe.region ?_
   refine Q0 E_good rfl (v := V.bool (decide (v344 < (a352.length : Int)))) (.fn rfl) ?_
   refine SafeOps.nil ?_
   repeat first|apply sq|apply sk|with_reducible first|apply tn|apply bn
   refine ifG h (fun hc5096 h => ?_) (fun hc5096 h => ?_)
   ·skip
    refine Safe.condK rfl hc5096 ?_
    repeat first|apply sq|apply sk|with_reducible first|apply tn|apply bn
    refine Safe.block ?_
    repeat first|apply sq|apply sk|with_reducible first|apply tn|apply bn
    refine Safe.region ?_
    refine okG h (fun hb5097 h => ?_)
    refine Q0 E_good rfl (v := V.spt 1 (rws (fun n => [V.int .u8 n]) a352) (Int.toNat v344) 0) (.idxSlM (f := (fun n => [V.int .u8 n])) rfl rfl rfl rfl rfl hb5097) ?_
    refine Q0 E_good rfl (v := V.int .u8 (gt a352 v344)) (.load rfl rfl (.sptM (f := (fun n => [V.int .u8 n])) hb5097 rfl) rfl) ?_
    refine Qf E_good ?_
    refine SafeOps.nil ?_
    repeat first|apply sq|apply sk|with_reducible first|apply tn|apply bn
    refine Safe.regionD (n := 12) [(11, [8])] [10] E_good mixed rfl ?_
    refine DT 0 [] rfl rfl (v := V.agg [V.ref [7000, 114, 8, 0] 0 (rws (fun n => [I n]) v361).length, I 0, I a360, V.ref [7000, 114, 8, 3] 0 (rws api_Hand.cells v353).length, V.mapr [50], I v393, I v371, V.bool v354]) (fun _ hz => (.load rfl rfl (.box (hz _ _ rfl rfl) rfl) rfl)) ?_
    refine DT 1 [[8]] rfl rfl (fun _ hz => (.fn rfl)) ?_
    refine DT 2 [[8]] rfl rfl (v := V.int .u8 (IntKind.u8.wrap (BitVec.ofInt IntKind.u8.bits (gt a352 v344) &&& BitVec.ofInt IntKind.u8.bits 15).toNat)) (fun _ hz => (.fn rfl)) ?_
    refine DT 3 [[8]] rfl rfl (v := I (IntKind.i64.wrap (IntKind.u8.wrap (BitVec.ofInt IntKind.u8.bits (gt a352 v344) &&& BitVec.ofInt IntKind.u8.bits 15).toNat))) (fun _ hz => (.fn rfl)) ?_
    refine DT 4 [[8]] rfl rfl (fun _ hz => (.fn rfl)) ?_
    refine DT 5 [[8]] rfl rfl (v := I (IntKind.i64.wrap (a351 + 1))) (fun _ hz => (.fn rfl)) ?_
    refine okG h (fun hb5098 h => ?_)
    refine DT 6 [[8]] rfl rfl (v := I (Int.tmod (IntKind.i64.wrap (IntKind.u8.wrap (BitVec.ofInt IntKind.u8.bits (gt a352 v344) &&& BitVec.ofInt IntKind.u8.bits 15).toNat)) (IntKind.i64.wrap (a351 + 1)))) (fun _ hz => (.remV rfl rfl hb5098)) ?_
    refine DT 7 [[8]] rfl rfl (fun _ hz => (.fn rfl)) ?_
    refine DT 8 [[8]] rfl rfl (v := V.int .u8 (IntKind.u8.wrap (BitVec.ofInt IntKind.u8.bits (gt a352 v344) &&& BitVec.ofInt IntKind.u8.bits 16).toNat)) (fun _ hz => (.fn rfl)) ?_
    refine DT 9 [[8]] rfl rfl (v := V.bool (decide ((IntKind.u8.wrap (BitVec.ofInt IntKind.u8.bits (gt a352 v344) &&& BitVec.ofInt IntKind.u8.bits 16).toNat) > 0))) (fun _ hz => (.fn rfl)) ?_
    refine DAny.onlyS (i := 10) rfl (by kernel_rfl) rfl ?_
    refine SafeOps.joinT 1 (fun ((v345, v346, v347, v348, v349, v350) : (List Int) × (List api_Hand) × Int × Int × Bool × (List (Int × Int))) => go_ravellaw07_RingOnce_j26 v344 v345 v346 v347 v348 v349 v350 = some ohr5095) (fun ((v345, v346, v347, v348, v349, v350) : (List Int) × (List api_Hand) × Int × Int × Bool × (List (Int × Int))) => ⟨Try.f6.ntmps, [(1, I a351), (7, V.bool x392), (8, V.ptr [8] 0 0), (52, V.sl 1 (rws (fun n => [V.int .u8 n]) a352)), (53, I (a352.length : Int)), (54, I v344), (68, V.agg [V.ref [7000, 118, 68, 0] 0 (rws (fun n => [I n]) v345).length, I 0, I a360, V.ref [7000, 118, 68, 3] 0 (rws api_Hand.cells v346).length, V.mapr [50], I v347, I v348, V.bool v349])], [([8], Obj.box [V.undef, I 0, I a360, V.undef, V.mapr [50], I v393, I v371, V.bool v354]), ([50], Go.AM.Obj.map (mps (fun n : Int => I n) (fun n : Int => I n) v350)), ([7000, 118, 68, 0], Obj.rows 1 (rws (fun n => [I n]) v345) false), ([7000, 118, 68, 3], Obj.rows 7 (rws api_Hand.cells v346) false)], [], []⟩) ?_ (fun HJ5152 => ?_)
    ·rintro ⟨v345, v346, v347, v348, v349, v350⟩ h
     replace h : go_ravellaw07_RingOnce_j26 v344 v345 v346 v347 v348 v349 v350 = some ohr5095 := h
     rw [go_ravellaw07_RingOnce_j26] at h
     refine SafeOps.nil ⟨rfl, ?_⟩
     refine DAny.only (i := 11) rfl (by kernel_rfl) (.store (z := Obj.box [V.ref [7000, 118, 68, 0] 0 (rws (fun n => [I n]) v345).length, I 0, I a360, V.ref [7000, 118, 68, 3] 0 (rws api_Hand.cells v346).length, V.mapr [50], I v347, I v348, V.bool v349]) rfl rfl rfl rfl rfl rfl rfl (.boxM (c := 8) rfl rfl (Nat.le_of_ble_eq_true rfl) rfl) rfl ?_)
     refine DAny.nil (by kernel_rfl) ?_
     repeat first|apply sq|apply sk|with_reducible first|apply tn|apply bn
     refine Safe.region ?_
     refine Q0 E_good rfl (v := I (IntKind.i64.wrap (v344 + 1))) (.fn rfl) ?_
     refine Qf E_good ?_
     refine SafeOps.nil ?_
     repeat first|apply sq|apply sk|with_reducible first|apply tn|apply bn
     exact ⟨_, next_out h, (.ren [7000, 118, 68, 0] [7000, 114, 8, 0] (.ren [7000, 118, 68, 3] [7000, 114, 8, 3] (.cov ⟨rfl, rfl, (ut (ut (ut (ut (ut (ut upT_nil)))))), (uo (uo (uo (uo upOb_nil)))), upOut_nil, rfl⟩)))⟩
    ·skip
     refine SafeOps.inline E_good rfl rfl rfl rfl rfl Try.func20 rfl (fun _ _ => Try.call20 _ _) rfl ?_
     repeat first|apply sq|apply sk|with_reducible first|apply tn|apply bn
     refine Safe.region ?_
     refine SafeOps.quiet1 E_good rfl rfl rfl (.box rfl rfl) rfl ?_
     refine SafeOps.quiet1 E_good rfl rfl rfl (.alloc rfl rfl) rfl ?_
     refine SafeOps.nil ?_
     repeat first|apply sq|apply sk|with_reducible first|apply tn|apply bn
     refine Safe.region ?_
     refine Q0 E_good rfl (v := V.ptr [68, 3] 0 3) (.fn rfl) ?_
     refine Q0 E_good rfl (v := V.ref [7000, 114, 8, 3] 0 (rws api_Hand.cells v353).length) (.load rfl rfl (.box rfl rfl) rfl) ?_
     refine Qf E_good ?_
     refine okG h (fun hb5153 h => ?_)
     refine Q0 E_good rfl (v := V.ptr [7000, 114, 8, 3] (0 + Int.toNat (Int.tmod (IntKind.i64.wrap (IntKind.u8.wrap (BitVec.ofInt IntKind.u8.bits (gt a352 v344) &&& BitVec.ofInt IntKind.u8.bits 15).toNat)) (IntKind.i64.wrap (a351 + 1)))) 0) (.idxRefM (f := api_Hand.cells) (xs := v353) rfl rfl rfl rfl rfl rfl hb5153) ?_
     refine Q0 E_good rfl (v := V.agg [I ((gt v353 (Int.tmod (IntKind.i64.wrap (IntKind.u8.wrap (BitVec.ofInt IntKind.u8.bits (gt a352 v344) &&& BitVec.ofInt IntKind.u8.bits 15).toNat)) (IntKind.i64.wrap (a351 + 1)))).Kind), I ((gt v353 (Int.tmod (IntKind.i64.wrap (IntKind.u8.wrap (BitVec.ofInt IntKind.u8.bits (gt a352 v344) &&& BitVec.ofInt IntKind.u8.bits 15).toNat)) (IntKind.i64.wrap (a351 + 1)))).Pc), I ((gt v353 (Int.tmod (IntKind.i64.wrap (IntKind.u8.wrap (BitVec.ofInt IntKind.u8.bits (gt a352 v344) &&& BitVec.ofInt IntKind.u8.bits 15).toNat)) (IntKind.i64.wrap (a351 + 1)))).V), I ((gt v353 (Int.tmod (IntKind.i64.wrap (IntKind.u8.wrap (BitVec.ofInt IntKind.u8.bits (gt a352 v344) &&& BitVec.ofInt IntKind.u8.bits 15).toNat)) (IntKind.i64.wrap (a351 + 1)))).T), I ((gt v353 (Int.tmod (IntKind.i64.wrap (IntKind.u8.wrap (BitVec.ofInt IntKind.u8.bits (gt a352 v344) &&& BitVec.ofInt IntKind.u8.bits 15).toNat)) (IntKind.i64.wrap (a351 + 1)))).B), V.bool ((gt v353 (Int.tmod (IntKind.i64.wrap (IntKind.u8.wrap (BitVec.ofInt IntKind.u8.bits (gt a352 v344) &&& BitVec.ofInt IntKind.u8.bits 15).toNat)) (IntKind.i64.wrap (a351 + 1)))).Won), I ((gt v353 (Int.tmod (IntKind.i64.wrap (IntKind.u8.wrap (BitVec.ofInt IntKind.u8.bits (gt a352 v344) &&& BitVec.ofInt IntKind.u8.bits 15).toNat)) (IntKind.i64.wrap (a351 + 1)))).State)]) (.load rfl rfl (.rowsM (f := api_Hand.cells) (xs := v353) hb5153 rfl rfl) rfl) ?_
     refine SafeOps.quiet1 E_good rfl rfl rfl (.alloc rfl rfl) rfl ?_
     refine SafeOps.store (z := Obj.box [I ((gt v353 (Int.tmod (IntKind.i64.wrap (IntKind.u8.wrap (BitVec.ofInt IntKind.u8.bits (gt a352 v344) &&& BitVec.ofInt IntKind.u8.bits 15).toNat)) (IntKind.i64.wrap (a351 + 1)))).Kind), I ((gt v353 (Int.tmod (IntKind.i64.wrap (IntKind.u8.wrap (BitVec.ofInt IntKind.u8.bits (gt a352 v344) &&& BitVec.ofInt IntKind.u8.bits 15).toNat)) (IntKind.i64.wrap (a351 + 1)))).Pc), I ((gt v353 (Int.tmod (IntKind.i64.wrap (IntKind.u8.wrap (BitVec.ofInt IntKind.u8.bits (gt a352 v344) &&& BitVec.ofInt IntKind.u8.bits 15).toNat)) (IntKind.i64.wrap (a351 + 1)))).V), I ((gt v353 (Int.tmod (IntKind.i64.wrap (IntKind.u8.wrap (BitVec.ofInt IntKind.u8.bits (gt a352 v344) &&& BitVec.ofInt IntKind.u8.bits 15).toNat)) (IntKind.i64.wrap (a351 + 1)))).T), I ((gt v353 (Int.tmod (IntKind.i64.wrap (IntKind.u8.wrap (BitVec.ofInt IntKind.u8.bits (gt a352 v344) &&& BitVec.ofInt IntKind.u8.bits 15).toNat)) (IntKind.i64.wrap (a351 + 1)))).B), V.bool ((gt v353 (Int.tmod (IntKind.i64.wrap (IntKind.u8.wrap (BitVec.ofInt IntKind.u8.bits (gt a352 v344) &&& BitVec.ofInt IntKind.u8.bits 15).toNat)) (IntKind.i64.wrap (a351 + 1)))).Won), I ((gt v353 (Int.tmod (IntKind.i64.wrap (IntKind.u8.wrap (BitVec.ofInt IntKind.u8.bits (gt a352 v344) &&& BitVec.ofInt IntKind.u8.bits 15).toNat)) (IntKind.i64.wrap (a351 + 1)))).State)]) E_good rfl rfl rfl rfl rfl rfl rfl (.boxM (c := 7) rfl rfl (Nat.le_of_ble_eq_true rfl) rfl) ?_
     refine SafeOps.nil ?_
     repeat first|apply sq|apply sk|with_reducible first|apply tn|apply bn
     refine Safe.region ?_
     refine Q0 E_good rfl (v := V.ptr [68, 7] 0 0) (.fn rfl) ?_
     refine Q0 E_good rfl (v := I ((gt v353 (Int.tmod (IntKind.i64.wrap (IntKind.u8.wrap (BitVec.ofInt IntKind.u8.bits (gt a352 v344) &&& BitVec.ofInt IntKind.u8.bits 15).toNat)) (IntKind.i64.wrap (a351 + 1)))).Kind)) (.load rfl rfl (.box rfl rfl) rfl) ?_
     refine Q0 E_good rfl (v := V.bool (((gt v353 (Int.tmod (IntKind.i64.wrap (IntKind.u8.wrap (BitVec.ofInt IntKind.u8.bits (gt a352 v344) &&& BitVec.ofInt IntKind.u8.bits 15).toNat)) (IntKind.i64.wrap (a351 + 1)))).Kind) == 0)) (.fn rfl) ?_
     refine Qf E_good ?_
     refine SafeOps.bjoin 4 26 (b := ((((gt v353 (Int.tmod (IntKind.i64.wrap (IntKind.u8.wrap (BitVec.ofInt IntKind.u8.bits (gt a352 v344) &&& BitVec.ofInt IntKind.u8.bits 15).toNat)) (IntKind.i64.wrap (a351 + 1)))).Kind) == 0) || (((gt v353 (Int.tmod (IntKind.i64.wrap (IntKind.u8.wrap (BitVec.ofInt IntKind.u8.bits (gt a352 v344) &&& BitVec.ofInt IntKind.u8.bits 15).toNat)) (IntKind.i64.wrap (a351 + 1)))).State) != 0))) (b1 := true) (b0 := (((gt v353 (Int.tmod (IntKind.i64.wrap (IntKind.u8.wrap (BitVec.ofInt IntKind.u8.bits (gt a352 v344) &&& BitVec.ofInt IntKind.u8.bits 15).toNat)) (IntKind.i64.wrap (a351 + 1)))).State) != 0)) (fun hc5154 K => ?_) (fun hc5154 K => ?_) bj_or ?_
     ·skip
      refine sF hc5154 ?_
      refine sF hc5154 ?_
      refine sF hc5154 ?_
      refine Q0 E_good rfl (v := V.bool true) (.pickK rfl hc5154 rfl) ?_
      exact SafeOps.drop' 4 rfl rfl rfl K
     ·skip
      refine qF E_good hc5154 (v := V.ptr [68, 7] 0 6) (.fn rfl) ?_
      refine qF E_good hc5154 (v := I ((gt v353 (Int.tmod (IntKind.i64.wrap (IntKind.u8.wrap (BitVec.ofInt IntKind.u8.bits (gt a352 v344) &&& BitVec.ofInt IntKind.u8.bits 15).toNat)) (IntKind.i64.wrap (a351 + 1)))).State)) (.load rfl rfl (.box rfl rfl) rfl) ?_
      refine qF E_good hc5154 (v := V.bool (((gt v353 (Int.tmod (IntKind.i64.wrap (IntKind.u8.wrap (BitVec.ofInt IntKind.u8.bits (gt a352 v344) &&& BitVec.ofInt IntKind.u8.bits 15).toNat)) (IntKind.i64.wrap (a351 + 1)))).State) != 0)) (.fn rfl) ?_
      refine Q0 E_good rfl (v := V.bool (((gt v353 (Int.tmod (IntKind.i64.wrap (IntKind.u8.wrap (BitVec.ofInt IntKind.u8.bits (gt a352 v344) &&& BitVec.ofInt IntKind.u8.bits 15).toNat)) (IntKind.i64.wrap (a351 + 1)))).State) != 0)) (.pickK rfl hc5154 rfl) ?_
      exact SafeOps.drop' 4 rfl rfl rfl K
     refine SafeOps.nil ?_
     repeat first|apply sq|apply sk|with_reducible first|apply tn|apply bn
     refine Safe.joinT (fun ((v355, v356, v363, v364, v365, v366, v367, v368, v369) : Int × Int × Int × Int × Int × Int × Int × Bool × Int) => go_ravellaw07_RingOnce_j28 a360 a351 a352 v344 v361 v353 v354 v362 v355 v356 v363 v364 v365 v366 v367 v368 v369 = some ohr5095) (fun ((v355, v356, v363, v364, v365, v366, v367, v368, v369) : Int × Int × Int × Int × Int × Int × Int × Bool × Int) => ⟨Try.f20.ntmps, [(1, I (Int.tmod (IntKind.i64.wrap (IntKind.u8.wrap (BitVec.ofInt IntKind.u8.bits (gt a352 v344) &&& BitVec.ofInt IntKind.u8.bits 15).toNat)) (IntKind.i64.wrap (a351 + 1)))), (3, V.ptr [68, 3] 0 0), (6, V.ptr [68, 6] 0 0), (7, V.ptr [68, 7] 0 0)], [([8], Obj.box [V.ref [7000, 114, 8, 0] 0 (rws (fun n => [I n]) v361).length, I 0, I a360, V.ref [7000, 114, 8, 3] 0 (rws api_Hand.cells v353).length, V.mapr [50], I v393, I v371, V.bool v354]), ([50], Go.AM.Obj.map (mps (fun n : Int => I n) (fun n : Int => I n) v362)), ([68, 3], Obj.box [V.ref [7000, 114, 8, 0] 0 (rws (fun n => [I n]) v361).length, I 0, I a360, V.ref [7000, 114, 8, 3] 0 (rws api_Hand.cells v353).length, V.mapr [50], I v355, I v356, V.bool v354]), ([68, 6], Obj.box [V.nils, I 0, I 0, V.nils, V.nilm, I 0, I 0, V.bool false]), ([68, 7], Obj.box [I v363, I v364, I v365, I v366, I v367, V.bool v368, I v369]), ([7000, 114, 8, 0], Obj.rows 1 (rws (fun n => [I n]) v361) false), ([7000, 114, 8, 3], Obj.rows 7 (rws api_Hand.cells v353) false)], [(Try.f6.ntmps, [(1, I a351), (7, V.bool x392), (8, V.ptr [8] 0 0), (52, V.sl 1 (rws (fun n => [V.int .u8 n]) a352)), (53, I (a352.length : Int)), (54, I v344)])], [68]⟩) ?_ (fun HJ5175 => ?_)
     ·rintro ⟨v355, v356, v363, v364, v365, v366, v367, v368, v369⟩ h
      replace h : go_ravellaw07_RingOnce_j28 a360 a351 a352 v344 v361 v353 v354 v362 v355 v356 v363 v364 v365 v366 v367 v368 v369 = some ohr5095 := h
      rw [go_ravellaw07_RingOnce_j28] at h
      repeat first|apply sq|apply sk|with_reducible first|apply tn|apply bn
      refine Safe.region ?_
      refine Q0 E_good rfl (v := V.ptr [68, 3] 0 0) (.fn rfl) ?_
      refine Q0 E_good rfl (v := V.ref [7000, 114, 8, 0] 0 (rws (fun n => [I n]) v361).length) (.load rfl rfl (.box rfl rfl) rfl) ?_
      refine Q0 E_good rfl (v := V.ptr [68, 3] 0 1) (.fn rfl) ?_
      refine Q0 E_good rfl (v := V.agg [I 0, I a360]) (.load rfl rfl (.box rfl rfl) rfl) ?_
      refine Q0 E_good rfl (v := V.agg [I v363, I v364, I v365, I v366, I v367, V.bool v368, I v369]) (.load rfl rfl (.box rfl rfl) rfl) ?_
      refine bindG h ?_
      rintro ⟨x357, x358, x370⟩ he5179 h
      refine SafeOps.quiet E_good rfl rfl rfl (v := V.tup [V.ref [68, 57, 0] 0 (rws (fun n => [I n]) x357).length, V.agg [I x358.Kind, I x358.Pc, I x358.V, I x358.T, I x358.B, V.bool x358.Won, I x358.State], I x370]) (.callS rfl (.cons (.full rfl rfl) (.cons (.free rfl) (.cons (.free rfl) .nil))) (go_ring_Step_sc v361 (api_Deque.mk 0 a360) (api_Hand.mk v363 v364 v365 v366 v367 v368 v369) _ he5179) (.tupL (.cons (.ownM (fun _ => rfl)) (.cons (.aggL (.cons (.plain rfl) (.cons (.plain rfl) (.cons (.plain rfl) (.cons (.plain rfl) (.cons (.plain rfl) (.cons (.plain rfl) (.cons (.plain rfl) .nil)))))))) (.cons (.plain rfl) .nil)))) rfl) rfl ?_
      refine Qf E_good ?_
      refine Qf E_good ?_
      refine Qf E_good ?_
      refine Qf E_good ?_
      refine SafeOps.quiet1 E_good rfl rfl rfl (.alloc rfl rfl) rfl ?_
      refine Qf E_good ?_
      refine SafeOps.store (z := Obj.box [I x358.Kind, I x358.Pc, I x358.V, I x358.T, I x358.B, V.bool x358.Won, I x358.State]) E_good rfl rfl rfl rfl rfl rfl rfl (.boxM (c := 7) rfl rfl (Nat.le_of_ble_eq_true rfl) rfl) ?_
      refine Qf E_good ?_
      refine SafeOps.nil ?_
      repeat first|apply sq|apply sk|with_reducible first|apply tn|apply bn
      refine Safe.region ?_
      refine Qf E_good ?_
      refine Q0 E_good rfl (v := V.bool (x370 != 0)) (.fn rfl) ?_
      refine SafeOps.nil ?_
      repeat first|apply sq|apply sk|with_reducible first|apply tn|apply bn
      refine ifG h (fun hc5180 h => ?_) (fun hc5180 h => ?_)
      ·skip
       refine Safe.condK rfl hc5180 ?_
       repeat first|apply sq|apply sk|with_reducible first|apply tn|apply bn
       refine Safe.region ?_
       refine Q0 E_good rfl (v := V.ptr [68, 3] 0 7) (.fn rfl) ?_
       refine SafeOps.store (z := Obj.box [V.ref [7000, 114, 8, 0] 0 (rws (fun n => [I n]) v361).length, I 0, I a360, V.ref [7000, 114, 8, 3] 0 (rws api_Hand.cells v353).length, V.mapr [50], I v355, I v356, V.bool true]) E_good rfl rfl rfl rfl rfl rfl rfl (.boxM (c := 8) rfl rfl (Nat.le_of_ble_eq_true rfl) rfl) ?_
       refine SafeOps.nil ?_
       repeat first|apply sq|apply sk|with_reducible first|apply tn|apply bn
       refine Safe.region ?_
       refine Q0 E_good rfl (v := V.agg [V.ref [7000, 114, 8, 0] 0 (rws (fun n => [I n]) v361).length, I 0, I a360, V.ref [7000, 114, 8, 3] 0 (rws api_Hand.cells v353).length, V.mapr [50], I v355, I v356, V.bool true]) (.load rfl rfl (.box rfl rfl) rfl) ?_
       refine SafeOps.store (z := Obj.box [V.ref [7000, 114, 8, 0] 0 (rws (fun n => [I n]) v361).length, I 0, I a360, V.ref [7000, 114, 8, 3] 0 (rws api_Hand.cells v353).length, V.mapr [50], I v355, I v356, V.bool true]) E_good rfl rfl rfl rfl rfl rfl rfl (.boxM (c := 8) rfl rfl (Nat.le_of_ble_eq_true rfl) rfl) ?_
       refine SafeOps.nil ?_
       repeat first|apply sq|apply sk|with_reducible first|apply tn|apply bn
       refine Safe.ret ?_
       repeat (first | with_reducible refine thenQ.r ?_ | with_reducible refine blockQ.r ?_)
       refine inQ.gen (vs := [V.agg [V.ref [7000, 114, 8, 0] 0 (rws (fun n => [I n]) v361).length, I 0, I a360, V.ref [7000, 114, 8, 3] 0 (rws api_Hand.cells v353).length, V.mapr [50], I v355, I v356, V.bool true]]) (v := V.agg [V.ref [7000, 114, 8, 0] 0 (rws (fun n => [I n]) v361).length, I 0, I a360, V.ref [7000, 114, 8, 3] 0 (rws api_Hand.cells v353).length, V.mapr [50], I v355, I v356, V.bool true]) (.inr rfl) rfl (.cell rfl rfl (.box rfl rfl) rfl .nil) rfl ?_
       exact SafeOps.got (HJ5152 (v361, v353, v355, v356, true, v362) h) (.ren [7000, 114, 8, 0] [7000, 118, 68, 0] (.ren [7000, 114, 8, 3] [7000, 118, 68, 3] (.cov ⟨rfl, rfl, (ut (ut (ut (ut (ut (ut (ut upT_nil))))))), (upOb_cons rfl (.box (.cons (.undef _) (.cons (.refl _) (.cons (.refl _) (.cons (.undef _) (.cons (.refl _) (.cons (.refl _) (.cons (.refl _) (.cons (.refl _) .nil))))))))) (uo (uo (uo upOb_nil)))), upOut_nil, rfl⟩)))
      ·skip
       refine Safe.condN rfl hc5180 ?_
       repeat first|apply sq|apply sk|with_reducible first|apply tn|apply bn
       refine Safe.region ?_
       refine Q0 E_good rfl (v := V.ptr [68, 3] 0 3) (.fn rfl) ?_
       refine Q0 E_good rfl (v := V.ref [7000, 114, 8, 3] 0 (rws api_Hand.cells v353).length) (.load rfl rfl (.box rfl rfl) rfl) ?_
       refine okG h (fun hb5181 h => ?_)
       refine SafeOps.appendM api_Hand.cells (xs := []) (ys := v353) E_good rfl rfl rfl rfl rfl rfl rfl rfl rfl .nils (.own rfl) (fun _ => rfl) hb5181 ?_
       refine Qf E_good ?_
       refine SafeOps.nil ?_
       repeat first|apply sq|apply sk|with_reducible first|apply tn|apply bn
       refine Safe.region ?_
       refine Qf E_good ?_
       refine Qf E_good ?_
       refine Q0 E_good rfl (v := V.agg [I x358.Kind, I x358.Pc, I x358.V, I x358.T, I x358.B, V.bool x358.Won, I x358.State]) (.load rfl rfl (.box rfl rfl) rfl) ?_
       refine okG h (fun hb5182 h => ?_)
       refine Q0 E_good rfl (v := V.ptr [68, 67] (0 + Int.toNat (Int.tmod (IntKind.i64.wrap (IntKind.u8.wrap (BitVec.ofInt IntKind.u8.bits (gt a352 v344) &&& BitVec.ofInt IntKind.u8.bits 15).toNat)) (IntKind.i64.wrap (a351 + 1)))) 0) (.idxRefM (f := api_Hand.cells) (xs := [] ++ v353) rfl rfl rfl rfl rfl rfl hb5182) ?_
       refine SafeOps.store (z := Obj.rows 7 (rws api_Hand.cells (st ([] ++ v353) (Int.tmod (IntKind.i64.wrap (IntKind.u8.wrap (BitVec.ofInt IntKind.u8.bits (gt a352 v344) &&& BitVec.ofInt IntKind.u8.bits 15).toNat)) (IntKind.i64.wrap (a351 + 1))) x358)) false) E_good rfl rfl rfl rfl rfl rfl rfl (.rowsM (f := api_Hand.cells) (xs := [] ++ v353) (y := x358) hb5182 rfl rfl rfl rfl) ?_
       refine SafeOps.see 67 (u := V.ref [68, 67] 0 (rws api_Hand.cells (st ([] ++ v353) (Int.tmod (IntKind.i64.wrap (IntKind.u8.wrap (BitVec.ofInt IntKind.u8.bits (gt a352 v344) &&& BitVec.ofInt IntKind.u8.bits 15).toNat)) (IntKind.i64.wrap (a351 + 1))) x358)).length) rfl (.len (by simp [rws, st])) ?_
       refine SafeOps.see 13 (u := V.ref [68, 67] 0 (rws api_Hand.cells (st ([] ++ v353) (Int.tmod (IntKind.i64.wrap (IntKind.u8.wrap (BitVec.ofInt IntKind.u8.bits (gt a352 v344) &&& BitVec.ofInt IntKind.u8.bits 15).toNat)) (IntKind.i64.wrap (a351 + 1))) x358)).length) rfl (.len (by simp [rws, st])) ?_
       refine SafeOps.see 68 (u := V.ref [68, 67] 0 (rws api_Hand.cells (st ([] ++ v353) (Int.tmod (IntKind.i64.wrap (IntKind.u8.wrap (BitVec.ofInt IntKind.u8.bits (gt a352 v344) &&& BitVec.ofInt IntKind.u8.bits 15).toNat)) (IntKind.i64.wrap (a351 + 1))) x358)).length) rfl (.len (by simp [rws, st])) ?_
       refine SafeOps.nil ?_
       repeat first|apply sq|apply sk|with_reducible first|apply tn|apply bn
       refine Safe.region ?_
       refine Qf E_good ?_
       refine Q0 E_good rfl (v := V.ptr [68, 3] 0 3) (.fn rfl) ?_
       refine SafeOps.store (z := Obj.box [V.ref [7000, 114, 8, 0] 0 (rws (fun n => [I n]) v361).length, I 0, I a360, V.ref [68, 67] 0 (rws api_Hand.cells (st ([] ++ v353) (Int.tmod (IntKind.i64.wrap (IntKind.u8.wrap (BitVec.ofInt IntKind.u8.bits (gt a352 v344) &&& BitVec.ofInt IntKind.u8.bits 15).toNat)) (IntKind.i64.wrap (a351 + 1))) x358)).length, V.mapr [50], I v355, I v356, V.bool v354]) E_good rfl rfl rfl rfl rfl rfl rfl (.boxM (c := 8) rfl rfl (Nat.le_of_ble_eq_true rfl) rfl) ?_
       refine SafeOps.nil ?_
       repeat first|apply sq|apply sk|with_reducible first|apply tn|apply bn
       refine Safe.region ?_
       refine Qf E_good ?_
       refine Q0 E_good rfl (v := V.ptr [68, 3] 0 0) (.fn rfl) ?_
       refine SafeOps.store (z := Obj.box [V.ref [68, 57, 0] 0 (rws (fun n => [I n]) x357).length, I 0, I a360, V.ref [68, 67] 0 (rws api_Hand.cells (st ([] ++ v353) (Int.tmod (IntKind.i64.wrap (IntKind.u8.wrap (BitVec.ofInt IntKind.u8.bits (gt a352 v344) &&& BitVec.ofInt IntKind.u8.bits 15).toNat)) (IntKind.i64.wrap (a351 + 1))) x358)).length, V.mapr [50], I v355, I v356, V.bool v354]) E_good rfl rfl rfl rfl rfl rfl rfl (.boxM (c := 8) rfl rfl (Nat.le_of_ble_eq_true rfl) rfl) ?_
       refine SafeOps.nil ?_
       repeat first|apply sq|apply sk|with_reducible first|apply tn|apply bn
       refine Safe.region ?_
       refine Q0 E_good rfl (v := V.ptr [68, 11] 0 6) (.fn rfl) ?_
       refine Q0 E_good rfl (v := I x358.State) (.load rfl rfl (.box rfl rfl) rfl) ?_
       refine Q0 E_good rfl (v := V.bool (x358.State == 1)) (.fn rfl) ?_
       refine Qf E_good ?_
       refine SafeOps.bjoin 4 83 (b := ((x358.State == 1) && (x358.Kind != 1))) (b1 := (x358.Kind != 1)) (b0 := false) (fun hc5183 K => ?_) (fun hc5183 K => ?_) bj_and ?_
       ·skip
        refine qT E_good hc5183 (v := V.ptr [68, 11] 0 0) (.fn rfl) ?_
        refine qT E_good hc5183 (v := I x358.Kind) (.load rfl rfl (.box rfl rfl) rfl) ?_
        refine qT E_good hc5183 (v := V.bool (x358.Kind != 1)) (.fn rfl) ?_
        refine Q0 E_good rfl (v := V.bool (x358.Kind != 1)) (.pickK rfl hc5183 rfl) ?_
        exact SafeOps.drop' 4 rfl rfl rfl K
       ·skip
        refine sT hc5183 ?_
        refine sT hc5183 ?_
        refine sT hc5183 ?_
        refine Q0 E_good rfl (v := V.bool false) (.pickK rfl hc5183 rfl) ?_
        exact SafeOps.drop' 4 rfl rfl rfl K
       refine SafeOps.nil ?_
       repeat first|apply sq|apply sk|with_reducible first|apply tn|apply bn
       refine Safe.joinT (fun (v359 : List (Int × Int)) => go_ravellaw07_RingOnce_j29 a351 a352 v344 v353 v354 v355 v356 x357 x358 v359 = some ohr5095) (fun (v359 : List (Int × Int)) => ⟨Try.f20.ntmps, [(3, V.ptr [68, 3] 0 0), (6, V.ptr [68, 6] 0 0), (11, V.ptr [68, 11] 0 0)], [([8], Obj.box [V.ref [7000, 114, 8, 0] 0 (rws (fun n => [I n]) v361).length, I 0, I a360, V.ref [7000, 114, 8, 3] 0 (rws api_Hand.cells v353).length, V.mapr [50], I v393, I v371, V.bool v354]), ([50], Go.AM.Obj.map (mps (fun n : Int => I n) (fun n : Int => I n) v359)), ([68, 3], Obj.box [V.ref [68, 57, 0] 0 (rws (fun n => [I n]) x357).length, I 0, I a360, V.ref [68, 67] 0 (rws api_Hand.cells (st ([] ++ v353) (Int.tmod (IntKind.i64.wrap (IntKind.u8.wrap (BitVec.ofInt IntKind.u8.bits (gt a352 v344) &&& BitVec.ofInt IntKind.u8.bits 15).toNat)) (IntKind.i64.wrap (a351 + 1))) x358)).length, V.mapr [50], I v355, I v356, V.bool v354]), ([68, 6], Obj.box [V.nils, I 0, I 0, V.nils, V.nilm, I 0, I 0, V.bool false]), ([68, 11], Obj.box [I x358.Kind, I x358.Pc, I x358.V, I x358.T, I x358.B, V.bool x358.Won, I x358.State]), ([68, 57, 0], Obj.rows 1 (rws (fun n => [I n]) x357) false), ([68, 67], Obj.rows 7 (rws api_Hand.cells (st ([] ++ v353) (Int.tmod (IntKind.i64.wrap (IntKind.u8.wrap (BitVec.ofInt IntKind.u8.bits (gt a352 v344) &&& BitVec.ofInt IntKind.u8.bits 15).toNat)) (IntKind.i64.wrap (a351 + 1))) x358)) false), ([7000, 114, 8, 0], Obj.rows 1 (rws (fun n => [I n]) v361) false), ([7000, 114, 8, 3], Obj.rows 7 (rws api_Hand.cells v353) false)], [(Try.f6.ntmps, [(1, I a351), (7, V.bool x392), (8, V.ptr [8] 0 0), (52, V.sl 1 (rws (fun n => [V.int .u8 n]) a352)), (53, I (a352.length : Int)), (54, I v344)])], [68]⟩) ?_ (fun HJ5185 => ?_)
       ·intro v359 h
        replace h : go_ravellaw07_RingOnce_j29 a351 a352 v344 v353 v354 v355 v356 x357 x358 v359 = some ohr5095 := h
        rw [go_ravellaw07_RingOnce_j29] at h
        repeat first|apply sq|apply sk|with_reducible first|apply tn|apply bn
        refine Safe.region ?_
        refine Q0 E_good rfl (v := V.ptr [68, 11] 0 6) (.fn rfl) ?_
        refine Q0 E_good rfl (v := I x358.State) (.load rfl rfl (.box rfl rfl) rfl) ?_
        refine Q0 E_good rfl (v := V.bool (x358.State == 3)) (.fn rfl) ?_
        refine SafeOps.nil ?_
        repeat first|apply sq|apply sk|with_reducible first|apply tn|apply bn
        refine ifG h (fun hc5186 h => ?_) (fun hc5186 h => ?_)
        ·skip
         refine Safe.condK rfl hc5186 ?_
         repeat first|apply sq|apply sk|with_reducible first|apply tn|apply bn
         refine Safe.region ?_
         refine Q0 E_good rfl (v := V.ptr [68, 3] 0 4) (.fn rfl) ?_
         refine Q0 E_good rfl (v := V.mapr [50]) (.load rfl rfl (.box rfl rfl) rfl) ?_
         refine Q0 E_good rfl (v := V.ptr [68, 11] 0 2) (.fn rfl) ?_
         refine Q0 E_good rfl (v := I x358.V) (.load rfl rfl (.box rfl rfl) rfl) ?_
         refine Q0 E_good rfl (v := I ((mget v359 x358.V).getD 0)) (.lookM (fv := (fun n : Int => I n)) (m := v359) (kk := x358.V) (z0 := 0) (keyI .i64) rfl rfl rfl rfl rfl rfl rfl rfl rfl rfl) ?_
         refine Q0 E_good rfl (v := I (IntKind.i64.wrap (((mget v359 x358.V).getD 0) + 1))) (.fn rfl) ?_
         refine SafeOps.mputM (fun n : Int => I n) (fun n : Int => I n) v359 x358.V (IntKind.i64.wrap (((mget v359 x358.V).getD 0) + 1)) E_good (keyI .i64) rfl (.inl rfl) rfl rfl rfl rfl rfl rfl rfl rfl rfl ?_
         refine SafeOps.nil ?_
         repeat first|apply sq|apply sk|with_reducible first|apply tn|apply bn
         refine Safe.region ?_
         refine Q0 E_good rfl (v := V.agg [V.ref [68, 57, 0] 0 (rws (fun n => [I n]) x357).length, I 0, I a360, V.ref [68, 67] 0 (rws api_Hand.cells (st ([] ++ v353) (Int.tmod (IntKind.i64.wrap (IntKind.u8.wrap (BitVec.ofInt IntKind.u8.bits (gt a352 v344) &&& BitVec.ofInt IntKind.u8.bits 15).toNat)) (IntKind.i64.wrap (a351 + 1))) x358)).length, V.mapr [50], I v355, I v356, V.bool v354]) (.load rfl rfl (.box rfl rfl) rfl) ?_
         refine SafeOps.store (z := Obj.box [V.ref [68, 57, 0] 0 (rws (fun n => [I n]) x357).length, I 0, I a360, V.ref [68, 67] 0 (rws api_Hand.cells (st ([] ++ v353) (Int.tmod (IntKind.i64.wrap (IntKind.u8.wrap (BitVec.ofInt IntKind.u8.bits (gt a352 v344) &&& BitVec.ofInt IntKind.u8.bits 15).toNat)) (IntKind.i64.wrap (a351 + 1))) x358)).length, V.mapr [50], I v355, I v356, V.bool v354]) E_good rfl rfl rfl rfl rfl rfl rfl (.boxM (c := 8) rfl rfl (Nat.le_of_ble_eq_true rfl) rfl) ?_
         refine SafeOps.nil ?_
         repeat first|apply sq|apply sk|with_reducible first|apply tn|apply bn
         refine Safe.ret ?_
         repeat (first | with_reducible refine thenQ.r ?_ | with_reducible refine blockQ.r ?_)
         refine inQ.gen (vs := [V.agg [V.ref [68, 57, 0] 0 (rws (fun n => [I n]) x357).length, I 0, I a360, V.ref [68, 67] 0 (rws api_Hand.cells (st ([] ++ v353) (Int.tmod (IntKind.i64.wrap (IntKind.u8.wrap (BitVec.ofInt IntKind.u8.bits (gt a352 v344) &&& BitVec.ofInt IntKind.u8.bits 15).toNat)) (IntKind.i64.wrap (a351 + 1))) x358)).length, V.mapr [50], I v355, I v356, V.bool v354]]) (v := V.agg [V.ref [68, 57, 0] 0 (rws (fun n => [I n]) x357).length, I 0, I a360, V.ref [68, 67] 0 (rws api_Hand.cells (st ([] ++ v353) (Int.tmod (IntKind.i64.wrap (IntKind.u8.wrap (BitVec.ofInt IntKind.u8.bits (gt a352 v344) &&& BitVec.ofInt IntKind.u8.bits 15).toNat)) (IntKind.i64.wrap (a351 + 1))) x358)).length, V.mapr [50], I v355, I v356, V.bool v354]) (.inr rfl) rfl (.cell rfl rfl (.box rfl rfl) rfl .nil) rfl ?_
         exact SafeOps.got (HJ5152 (x357, st ([] ++ v353) (Int.tmod (IntKind.i64.wrap (IntKind.u8.wrap (BitVec.ofInt IntKind.u8.bits (gt a352 v344) &&& BitVec.ofInt IntKind.u8.bits 15).toNat)) (IntKind.i64.wrap (a351 + 1))) x358, v355, v356, v354, mput v359 x358.V (IntKind.i64.wrap (((mget v359 x358.V).getD 0) + 1))) h) (.ren [68, 57, 0] [7000, 118, 68, 0] (.ren [68, 67] [7000, 118, 68, 3] (.cov ⟨rfl, rfl, (ut (ut (ut (ut (ut (ut (ut upT_nil))))))), (upOb_cons rfl (.box (.cons (.undef _) (.cons (.refl _) (.cons (.refl _) (.cons (.undef _) (.cons (.refl _) (.cons (.refl _) (.cons (.refl _) (.cons (.refl _) .nil))))))))) (uo (uo (uo upOb_nil)))), upOut_nil, rfl⟩)))
        ·skip
         refine Safe.condN rfl hc5186 ?_
         repeat first|apply sq|apply sk|with_reducible first|apply tn|apply bn
         refine Safe.region ?_
         refine Q0 E_good rfl (v := V.agg [V.ref [68, 57, 0] 0 (rws (fun n => [I n]) x357).length, I 0, I a360, V.ref [68, 67] 0 (rws api_Hand.cells (st ([] ++ v353) (Int.tmod (IntKind.i64.wrap (IntKind.u8.wrap (BitVec.ofInt IntKind.u8.bits (gt a352 v344) &&& BitVec.ofInt IntKind.u8.bits 15).toNat)) (IntKind.i64.wrap (a351 + 1))) x358)).length, V.mapr [50], I v355, I v356, V.bool v354]) (.load rfl rfl (.box rfl rfl) rfl) ?_
         refine SafeOps.store (z := Obj.box [V.ref [68, 57, 0] 0 (rws (fun n => [I n]) x357).length, I 0, I a360, V.ref [68, 67] 0 (rws api_Hand.cells (st ([] ++ v353) (Int.tmod (IntKind.i64.wrap (IntKind.u8.wrap (BitVec.ofInt IntKind.u8.bits (gt a352 v344) &&& BitVec.ofInt IntKind.u8.bits 15).toNat)) (IntKind.i64.wrap (a351 + 1))) x358)).length, V.mapr [50], I v355, I v356, V.bool v354]) E_good rfl rfl rfl rfl rfl rfl rfl (.boxM (c := 8) rfl rfl (Nat.le_of_ble_eq_true rfl) rfl) ?_
         refine SafeOps.nil ?_
         repeat first|apply sq|apply sk|with_reducible first|apply tn|apply bn
         refine Safe.ret ?_
         repeat (first | with_reducible refine thenQ.r ?_ | with_reducible refine blockQ.r ?_)
         refine inQ.gen (vs := [V.agg [V.ref [68, 57, 0] 0 (rws (fun n => [I n]) x357).length, I 0, I a360, V.ref [68, 67] 0 (rws api_Hand.cells (st ([] ++ v353) (Int.tmod (IntKind.i64.wrap (IntKind.u8.wrap (BitVec.ofInt IntKind.u8.bits (gt a352 v344) &&& BitVec.ofInt IntKind.u8.bits 15).toNat)) (IntKind.i64.wrap (a351 + 1))) x358)).length, V.mapr [50], I v355, I v356, V.bool v354]]) (v := V.agg [V.ref [68, 57, 0] 0 (rws (fun n => [I n]) x357).length, I 0, I a360, V.ref [68, 67] 0 (rws api_Hand.cells (st ([] ++ v353) (Int.tmod (IntKind.i64.wrap (IntKind.u8.wrap (BitVec.ofInt IntKind.u8.bits (gt a352 v344) &&& BitVec.ofInt IntKind.u8.bits 15).toNat)) (IntKind.i64.wrap (a351 + 1))) x358)).length, V.mapr [50], I v355, I v356, V.bool v354]) (.inr rfl) rfl (.cell rfl rfl (.box rfl rfl) rfl .nil) rfl ?_
         exact SafeOps.got (HJ5152 (x357, st ([] ++ v353) (Int.tmod (IntKind.i64.wrap (IntKind.u8.wrap (BitVec.ofInt IntKind.u8.bits (gt a352 v344) &&& BitVec.ofInt IntKind.u8.bits 15).toNat)) (IntKind.i64.wrap (a351 + 1))) x358, v355, v356, v354, v359) h) (.ren [68, 57, 0] [7000, 118, 68, 0] (.ren [68, 67] [7000, 118, 68, 3] (.cov ⟨rfl, rfl, (ut (ut (ut (ut (ut (ut (ut upT_nil))))))), (upOb_cons rfl (.box (.cons (.undef _) (.cons (.refl _) (.cons (.refl _) (.cons (.undef _) (.cons (.refl _) (.cons (.refl _) (.cons (.refl _) (.cons (.refl _) .nil))))))))) (uo (uo (uo upOb_nil)))), upOut_nil, rfl⟩)))
       ·skip
        refine ifG h (fun hc5187 h => ?_) (fun hc5187 h => ?_)
        ·skip
         refine Safe.condK rfl hc5187 ?_
         repeat first|apply sq|apply sk|with_reducible first|apply tn|apply bn
         refine Safe.region ?_
         refine Q0 E_good rfl (v := V.ptr [68, 3] 0 4) (.fn rfl) ?_
         refine Q0 E_good rfl (v := V.mapr [50]) (.load rfl rfl (.box rfl rfl) rfl) ?_
         refine Q0 E_good rfl (v := V.ptr [68, 11] 0 2) (.fn rfl) ?_
         refine Q0 E_good rfl (v := I x358.V) (.load rfl rfl (.box rfl rfl) rfl) ?_
         refine Q0 E_good rfl (v := I ((mget v362 x358.V).getD 0)) (.lookM (fv := (fun n : Int => I n)) (m := v362) (kk := x358.V) (z0 := 0) (keyI .i64) rfl rfl rfl rfl rfl rfl rfl rfl rfl rfl) ?_
         refine Q0 E_good rfl (v := I (IntKind.i64.wrap (((mget v362 x358.V).getD 0) + 1))) (.fn rfl) ?_
         refine SafeOps.mputM (fun n : Int => I n) (fun n : Int => I n) v362 x358.V (IntKind.i64.wrap (((mget v362 x358.V).getD 0) + 1)) E_good (keyI .i64) rfl (.inl rfl) rfl rfl rfl rfl rfl rfl rfl rfl rfl ?_
         refine SafeOps.nil ?_
         repeat (first | refine Safe.skip ?_ | with_reducible refine thenQ.n ?_ | with_reducible refine blockQ.n ?_)
         exact Safe.got (HJ5185 (mput v362 x358.V (IntKind.i64.wrap (((mget v362 x358.V).getD 0) + 1))) h) (.cov ⟨rfl, rfl, (ut (ut (ut upT_nil))), (uo (uo (uo (uo (uo (uo (uo (uo (uo upOb_nil))))))))), (upOut_cons rfl (ut (ut (ut (ut (ut (ut upT_nil)))))) upOut_nil), rfl⟩)
        ·skip
         refine Safe.condN rfl hc5187 ?_
         repeat (first | refine Safe.skip ?_ | with_reducible refine thenQ.n ?_ | with_reducible refine blockQ.n ?_)
         exact Safe.got (HJ5185 (v362) h) (.cov ⟨rfl, rfl, (ut (ut (ut upT_nil))), (uo (uo (uo (uo (uo (uo (uo (uo (uo upOb_nil))))))))), (upOut_cons rfl (ut (ut (ut (ut (ut (ut upT_nil)))))) upOut_nil), rfl⟩)
     ·skip
      refine ifG h (fun hc5188 h => ?_) (fun hc5188 h => ?_)
      ·skip
       refine Safe.condK rfl hc5188 ?_
       repeat first|apply sq|apply sk|with_reducible first|apply tn|apply bn
       refine Safe.region ?_
       refine Q0 E_good rfl (v := V.ptr [68, 3] 0 6) (.fn rfl) ?_
       refine Q0 E_good rfl (v := I v371) (.load rfl rfl (.box rfl rfl) rfl) ?_
       refine Q0 E_good rfl (v := V.bool (v371 == 0)) (.fn rfl) ?_
       refine SafeOps.nil ?_
       repeat first|apply sq|apply sk|with_reducible first|apply tn|apply bn
       refine ifG h (fun hc5189 h => ?_) (fun hc5189 h => ?_)
       ·skip
        refine Safe.condK rfl hc5189 ?_
        repeat first|apply sq|apply sk|with_reducible first|apply tn|apply bn
        refine Safe.region ?_
        refine Q0 E_good rfl (v := V.agg [V.ref [7000, 114, 8, 0] 0 (rws (fun n => [I n]) v361).length, I 0, I a360, V.ref [7000, 114, 8, 3] 0 (rws api_Hand.cells v353).length, V.mapr [50], I v393, I v371, V.bool v354]) (.load rfl rfl (.box rfl rfl) rfl) ?_
        refine SafeOps.store (z := Obj.box [V.ref [7000, 114, 8, 0] 0 (rws (fun n => [I n]) v361).length, I 0, I a360, V.ref [7000, 114, 8, 3] 0 (rws api_Hand.cells v353).length, V.mapr [50], I v393, I v371, V.bool v354]) E_good rfl rfl rfl rfl rfl rfl rfl (.boxM (c := 8) rfl rfl (Nat.le_of_ble_eq_true rfl) rfl) ?_
        refine SafeOps.nil ?_
        repeat first|apply sq|apply sk|with_reducible first|apply tn|apply bn
        refine Safe.ret ?_
        repeat (first | with_reducible refine thenQ.r ?_ | with_reducible refine blockQ.r ?_)
        refine inQ.gen (vs := [V.agg [V.ref [7000, 114, 8, 0] 0 (rws (fun n => [I n]) v361).length, I 0, I a360, V.ref [7000, 114, 8, 3] 0 (rws api_Hand.cells v353).length, V.mapr [50], I v393, I v371, V.bool v354]]) (v := V.agg [V.ref [7000, 114, 8, 0] 0 (rws (fun n => [I n]) v361).length, I 0, I a360, V.ref [7000, 114, 8, 3] 0 (rws api_Hand.cells v353).length, V.mapr [50], I v393, I v371, V.bool v354]) (.inr rfl) rfl (.cell rfl rfl (.box rfl rfl) rfl .nil) rfl ?_
        exact SafeOps.got (HJ5152 (v361, v353, v393, v371, v354, v362) h) (.ren [7000, 114, 8, 0] [7000, 118, 68, 0] (.ren [7000, 114, 8, 3] [7000, 118, 68, 3] (.cov ⟨rfl, rfl, (ut (ut (ut (ut (ut (ut (ut upT_nil))))))), (upOb_cons rfl (.box (.cons (.undef _) (.cons (.refl _) (.cons (.refl _) (.cons (.undef _) (.cons (.refl _) (.cons (.refl _) (.cons (.refl _) (.cons (.refl _) .nil))))))))) (uo (uo (uo upOb_nil)))), upOut_nil, rfl⟩)))
       ·skip
        refine Safe.condN rfl hc5189 ?_
        repeat first|apply sq|apply sk|with_reducible first|apply tn|apply bn
        refine Safe.region ?_
        refine Q0 E_good rfl (v := V.ptr [68, 3] 0 6) (.fn rfl) ?_
        refine Q0 E_good rfl (v := I v371) (.load rfl rfl (.box rfl rfl) rfl) ?_
        refine Q0 E_good rfl (v := I (IntKind.i64.wrap (v371 - 1))) (.fn rfl) ?_
        refine Q0 E_good rfl (v := V.ptr [68, 3] 0 6) (.fn rfl) ?_
        refine SafeOps.store (z := Obj.box [V.ref [7000, 114, 8, 0] 0 (rws (fun n => [I n]) v361).length, I 0, I a360, V.ref [7000, 114, 8, 3] 0 (rws api_Hand.cells v353).length, V.mapr [50], I v393, I (IntKind.i64.wrap (v371 - 1)), V.bool v354]) E_good rfl rfl rfl rfl rfl rfl rfl (.boxM (c := 8) rfl rfl (Nat.le_of_ble_eq_true rfl) rfl) ?_
        refine SafeOps.nil ?_
        repeat first|apply sq|apply sk|with_reducible first|apply tn|apply bn
        refine Safe.region ?_
        refine Qf E_good ?_
        refine SafeOps.nil ?_
        repeat first|apply sq|apply sk|with_reducible first|apply tn|apply bn
        refine Safe.region ?_
        refine Qf E_good ?_
        refine SafeOps.nil ?_
        repeat first|apply sq|apply sk|with_reducible first|apply tn|apply bn
        refine Safe.region ?_
        refine Qf E_good ?_
        refine Q0 E_good rfl (v := V.bool ((Int.tmod (IntKind.i64.wrap (IntKind.u8.wrap (BitVec.ofInt IntKind.u8.bits (gt a352 v344) &&& BitVec.ofInt IntKind.u8.bits 15).toNat)) (IntKind.i64.wrap (a351 + 1))) == 0)) (.fn rfl) ?_
        refine SafeOps.nil ?_
        repeat first|apply sq|apply sk|with_reducible first|apply tn|apply bn
        refine Safe.joinT (fun ((v372, v373, v374) : Int × Int × Int) => go_ravellaw07_RingOnce_j30 a360 a351 a352 v344 v361 v353 v371 v354 v362 v372 v373 v374 = some ohr5095) (fun ((v372, v373, v374) : Int × Int × Int) => ⟨Try.f20.ntmps, [(1, I (Int.tmod (IntKind.i64.wrap (IntKind.u8.wrap (BitVec.ofInt IntKind.u8.bits (gt a352 v344) &&& BitVec.ofInt IntKind.u8.bits 15).toNat)) (IntKind.i64.wrap (a351 + 1)))), (3, V.ptr [68, 3] 0 0), (6, V.ptr [68, 6] 0 0), (7, V.ptr [68, 7] 0 0), (8, I v372), (9, I v373)], [([8], Obj.box [V.ref [7000, 114, 8, 0] 0 (rws (fun n => [I n]) v361).length, I 0, I a360, V.ref [7000, 114, 8, 3] 0 (rws api_Hand.cells v353).length, V.mapr [50], I v393, I v371, V.bool v354]), ([50], Go.AM.Obj.map (mps (fun n : Int => I n) (fun n : Int => I n) v362)), ([68, 3], Obj.box [V.ref [7000, 114, 8, 0] 0 (rws (fun n => [I n]) v361).length, I 0, I a360, V.ref [7000, 114, 8, 3] 0 (rws api_Hand.cells v353).length, V.mapr [50], I v374, I (IntKind.i64.wrap (v371 - 1)), V.bool v354]), ([68, 6], Obj.box [V.nils, I 0, I 0, V.nils, V.nilm, I 0, I 0, V.bool false]), ([68, 7], Obj.box [I ((gt v353 (Int.tmod (IntKind.i64.wrap (IntKind.u8.wrap (BitVec.ofInt IntKind.u8.bits (gt a352 v344) &&& BitVec.ofInt IntKind.u8.bits 15).toNat)) (IntKind.i64.wrap (a351 + 1)))).Kind), I ((gt v353 (Int.tmod (IntKind.i64.wrap (IntKind.u8.wrap (BitVec.ofInt IntKind.u8.bits (gt a352 v344) &&& BitVec.ofInt IntKind.u8.bits 15).toNat)) (IntKind.i64.wrap (a351 + 1)))).Pc), I ((gt v353 (Int.tmod (IntKind.i64.wrap (IntKind.u8.wrap (BitVec.ofInt IntKind.u8.bits (gt a352 v344) &&& BitVec.ofInt IntKind.u8.bits 15).toNat)) (IntKind.i64.wrap (a351 + 1)))).V), I ((gt v353 (Int.tmod (IntKind.i64.wrap (IntKind.u8.wrap (BitVec.ofInt IntKind.u8.bits (gt a352 v344) &&& BitVec.ofInt IntKind.u8.bits 15).toNat)) (IntKind.i64.wrap (a351 + 1)))).T), I ((gt v353 (Int.tmod (IntKind.i64.wrap (IntKind.u8.wrap (BitVec.ofInt IntKind.u8.bits (gt a352 v344) &&& BitVec.ofInt IntKind.u8.bits 15).toNat)) (IntKind.i64.wrap (a351 + 1)))).B), V.bool ((gt v353 (Int.tmod (IntKind.i64.wrap (IntKind.u8.wrap (BitVec.ofInt IntKind.u8.bits (gt a352 v344) &&& BitVec.ofInt IntKind.u8.bits 15).toNat)) (IntKind.i64.wrap (a351 + 1)))).Won), I ((gt v353 (Int.tmod (IntKind.i64.wrap (IntKind.u8.wrap (BitVec.ofInt IntKind.u8.bits (gt a352 v344) &&& BitVec.ofInt IntKind.u8.bits 15).toNat)) (IntKind.i64.wrap (a351 + 1)))).State)]), ([7000, 114, 8, 0], Obj.rows 1 (rws (fun n => [I n]) v361) false), ([7000, 114, 8, 3], Obj.rows 7 (rws api_Hand.cells v353) false)], [(Try.f6.ntmps, [(1, I a351), (7, V.bool x392), (8, V.ptr [8] 0 0), (52, V.sl 1 (rws (fun n => [V.int .u8 n]) a352)), (53, I (a352.length : Int)), (54, I v344)])], [68]⟩) ?_ (fun HJ5194 => ?_)
        ·rintro ⟨v372, v373, v374⟩ h
         replace h : go_ravellaw07_RingOnce_j30 a360 a351 a352 v344 v361 v353 v371 v354 v362 v372 v373 v374 = some ohr5095 := h
         rw [go_ravellaw07_RingOnce_j30] at h
         repeat first|apply sq|apply sk|with_reducible first|apply tn|apply bn
         refine Safe.region ?_
         refine Qf E_good ?_
         refine Qf E_good ?_
         refine letG h ?_
         rintro ⟨x375, x376⟩ he5197 h
         refine Q0 E_good rfl (v := V.tup [V.agg [I x375.Kind, I x375.Pc, I x375.V, I x375.T, I x375.B, V.bool x375.Won, I x375.State], I x376]) (.callP rfl rfl (go_ring_Start_sc v372 v373 _ he5197) rfl) ?_
         refine Qf E_good ?_
         refine Qf E_good ?_
         refine Qf E_good ?_
         refine SafeOps.store (z := Obj.box [I x375.Kind, I x375.Pc, I x375.V, I x375.T, I x375.B, V.bool x375.Won, I x375.State]) E_good rfl rfl rfl rfl rfl rfl rfl (.boxM (c := 7) rfl rfl (Nat.le_of_ble_eq_true rfl) rfl) ?_
         refine SafeOps.nil ?_
         repeat (first | refine Safe.skip ?_ | with_reducible refine thenQ.n ?_ | with_reducible refine blockQ.n ?_)
         exact Safe.got (HJ5175 (v374, IntKind.i64.wrap (v371 - 1), x375.Kind, x375.Pc, x375.V, x375.T, x375.B, x375.Won, x375.State) h) (.cov ⟨rfl, rfl, (ut (ut (ut (ut upT_nil)))), (uo (uo (uo (uo (uo (uo (uo upOb_nil))))))), (upOut_cons rfl (ut (ut (ut (ut (ut (ut upT_nil)))))) upOut_nil), rfl⟩)
        ·skip
         refine ifG h (fun hc5198 h => ?_) (fun hc5198 h => ?_)
         ·skip
          refine Safe.condK rfl hc5198 ?_
          repeat first|apply sq|apply sk|with_reducible first|apply tn|apply bn
          refine Safe.region ?_
          refine Qf E_good ?_
          refine SafeOps.nil ?_
          repeat first|apply sq|apply sk|with_reducible first|apply tn|apply bn
          refine Safe.region ?_
          refine Qf E_good ?_
          refine Q0 E_good rfl (v := V.bool (!(decide ((IntKind.u8.wrap (BitVec.ofInt IntKind.u8.bits (gt a352 v344) &&& BitVec.ofInt IntKind.u8.bits 16).toNat) > 0)))) (.fn rfl) ?_
          refine SafeOps.nil ?_
          repeat first|apply sq|apply sk|with_reducible first|apply tn|apply bn
          refine ifG h (fun hc5199 h => ?_) (fun hc5199 h => ?_)
          ·skip
           refine Safe.condK rfl hc5199 ?_
           repeat first|apply sq|apply sk|with_reducible first|apply tn|apply bn
           refine Safe.region ?_
           refine Qf E_good ?_
           refine SafeOps.nil ?_
           repeat first|apply sq|apply sk|with_reducible first|apply tn|apply bn
           refine Safe.region ?_
           refine Q0 E_good rfl (v := V.ptr [68, 3] 0 5) (.fn rfl) ?_
           refine Q0 E_good rfl (v := I v393) (.load rfl rfl (.box rfl rfl) rfl) ?_
           refine Q0 E_good rfl (v := I (IntKind.i64.wrap (v393 + 1))) (.fn rfl) ?_
           refine Q0 E_good rfl (v := V.ptr [68, 3] 0 5) (.fn rfl) ?_
           refine SafeOps.store (z := Obj.box [V.ref [7000, 114, 8, 0] 0 (rws (fun n => [I n]) v361).length, I 0, I a360, V.ref [7000, 114, 8, 3] 0 (rws api_Hand.cells v353).length, V.mapr [50], I (IntKind.i64.wrap (v393 + 1)), I (IntKind.i64.wrap (v371 - 1)), V.bool v354]) E_good rfl rfl rfl rfl rfl rfl rfl (.boxM (c := 8) rfl rfl (Nat.le_of_ble_eq_true rfl) rfl) ?_
           refine SafeOps.nil ?_
           repeat first|apply sq|apply sk|with_reducible first|apply tn|apply bn
           refine Safe.region ?_
           refine Q0 E_good rfl (v := V.ptr [68, 3] 0 5) (.fn rfl) ?_
           refine Q0 E_good rfl (v := I (IntKind.i64.wrap (v393 + 1))) (.load rfl rfl (.box rfl rfl) rfl) ?_
           refine Qf E_good ?_
           refine SafeOps.nil ?_
           repeat (first | refine Safe.skip ?_ | with_reducible refine thenQ.n ?_ | with_reducible refine blockQ.n ?_)
           exact Safe.got (HJ5194 (1, IntKind.i64.wrap (v393 + 1), IntKind.i64.wrap (v393 + 1)) h) (.cov ⟨rfl, rfl, (ut (ut (ut (ut (ut (ut upT_nil)))))), (uo (uo (uo (uo (uo (uo (uo upOb_nil))))))), (upOut_cons rfl (ut (ut (ut (ut (ut (ut upT_nil)))))) upOut_nil), rfl⟩)
          ·skip
           refine Safe.condN rfl hc5199 ?_
           repeat (first | refine Safe.skip ?_ | with_reducible refine thenQ.n ?_ | with_reducible refine blockQ.n ?_)
           exact Safe.got (HJ5194 (2, 0, v393) h) (.cov ⟨rfl, rfl, (ut (ut (ut (ut (ut (ut upT_nil)))))), (uo (uo (uo (uo (uo (uo (uo upOb_nil))))))), (upOut_cons rfl (ut (ut (ut (ut (ut (ut upT_nil)))))) upOut_nil), rfl⟩)
         ·skip
          refine Safe.condN rfl hc5198 ?_
          repeat (first | refine Safe.skip ?_ | with_reducible refine thenQ.n ?_ | with_reducible refine blockQ.n ?_)
          exact Safe.got (HJ5194 (3, 0, v393) h) (.cov ⟨rfl, rfl, (ut (ut (ut (ut (ut (ut upT_nil)))))), (uo (uo (uo (uo (uo (uo (uo upOb_nil))))))), (upOut_cons rfl (ut (ut (ut (ut (ut (ut upT_nil)))))) upOut_nil), rfl⟩)
      ·skip
       refine Safe.condN rfl hc5188 ?_
       repeat (first | refine Safe.skip ?_ | with_reducible refine thenQ.n ?_ | with_reducible refine blockQ.n ?_)
       exact Safe.got (HJ5175 (v393, v371, (gt v353 (Int.tmod (IntKind.i64.wrap (IntKind.u8.wrap (BitVec.ofInt IntKind.u8.bits (gt a352 v344) &&& BitVec.ofInt IntKind.u8.bits 15).toNat)) (IntKind.i64.wrap (a351 + 1)))).Kind, (gt v353 (Int.tmod (IntKind.i64.wrap (IntKind.u8.wrap (BitVec.ofInt IntKind.u8.bits (gt a352 v344) &&& BitVec.ofInt IntKind.u8.bits 15).toNat)) (IntKind.i64.wrap (a351 + 1)))).Pc, (gt v353 (Int.tmod (IntKind.i64.wrap (IntKind.u8.wrap (BitVec.ofInt IntKind.u8.bits (gt a352 v344) &&& BitVec.ofInt IntKind.u8.bits 15).toNat)) (IntKind.i64.wrap (a351 + 1)))).V, (gt v353 (Int.tmod (IntKind.i64.wrap (IntKind.u8.wrap (BitVec.ofInt IntKind.u8.bits (gt a352 v344) &&& BitVec.ofInt IntKind.u8.bits 15).toNat)) (IntKind.i64.wrap (a351 + 1)))).T, (gt v353 (Int.tmod (IntKind.i64.wrap (IntKind.u8.wrap (BitVec.ofInt IntKind.u8.bits (gt a352 v344) &&& BitVec.ofInt IntKind.u8.bits 15).toNat)) (IntKind.i64.wrap (a351 + 1)))).B, (gt v353 (Int.tmod (IntKind.i64.wrap (IntKind.u8.wrap (BitVec.ofInt IntKind.u8.bits (gt a352 v344) &&& BitVec.ofInt IntKind.u8.bits 15).toNat)) (IntKind.i64.wrap (a351 + 1)))).Won, (gt v353 (Int.tmod (IntKind.i64.wrap (IntKind.u8.wrap (BitVec.ofInt IntKind.u8.bits (gt a352 v344) &&& BitVec.ofInt IntKind.u8.bits 15).toNat)) (IntKind.i64.wrap (a351 + 1)))).State) h) (.cov ⟨rfl, rfl, (ut (ut (ut (ut upT_nil)))), (uo (uo (uo (uo (uo (uo (uo upOb_nil))))))), (upOut_cons rfl (ut (ut (ut (ut (ut (ut upT_nil)))))) upOut_nil), rfl⟩)
   ·skip
    refine Safe.condN rfl hc5096 ?_
    repeat first|apply sq|apply sk|with_reducible first|apply tn|apply bn
    refine Safe.exit ?_
    repeat (first | with_reducible refine thenQ.e ?_ | with_reducible refine blockQ.x rfl ?_ | with_reducible refine blockQ.y rfl ?_)
    replace h := inr_out h hr5095
    repeat first|apply sq|apply sk|with_reducible first|apply tn|apply bn
    refine Safe.region ?_
    refine Q0 E_good rfl (v := V.ptr [8] 0 6) (.fn rfl) ?_
    refine SafeOps.store (z := Obj.box [V.ref [7000, 114, 8, 0] 0 (rws (fun n => [I n]) v361).length, I 0, I a360, V.ref [7000, 114, 8, 3] 0 (rws api_Hand.cells v353).length, V.mapr [50], I v393, I 0, V.bool v354]) E_good rfl rfl rfl rfl rfl rfl rfl (.boxM (c := 8) rfl rfl (Nat.le_of_ble_eq_true rfl) rfl) ?_
    refine SafeOps.nil ?_
    repeat first|apply sq|apply sk|with_reducible first|apply tn|apply bn
    refine Safe.region ?_
    refine Q0 E_good rfl (v := V.ptr [8] 0 3) (.fn rfl) ?_
    refine Q0 E_good rfl (v := V.ref [7000, 114, 8, 3] 0 (rws api_Hand.cells v353).length) (.load rfl rfl (.box rfl rfl) rfl) ?_
    refine Q0 E_good rfl (v := I (v353.length : Int)) (.fnE rfl lenE) ?_
    refine Qf E_good ?_
    refine SafeOps.nil ?_
    repeat first|apply sq|apply sk|with_reducible first|apply tn|apply bn
    refine Safe.block ?_
    repeat first|apply sq|apply sk|with_reducible first|apply tn|apply bn
    refine Safe.loopW (fun ((v382, v401, v402, v403, v404) : Int × (List Int) × (List api_Hand) × Bool × (List (Int × Int))) => ⟨Try.f6.ntmps, [(7, V.bool x392), (8, V.ptr [8] 0 0), (73, I (v353.length : Int)), (74, I v382)], [([8], Obj.box [V.ref [7000, 114, 8, 0] 0 (rws (fun n => [I n]) v401).length, I 0, I a360, V.ref [7000, 114, 8, 3] 0 (rws api_Hand.cells v402).length, V.mapr [50], I v393, I 0, V.bool v403]), ([50], Go.AM.Obj.map (mps (fun n : Int => I n) (fun n : Int => I n) v404)), ([7000, 114, 8, 0], Obj.rows 1 (rws (fun n => [I n]) v401) false), ([7000, 114, 8, 3], Obj.rows 7 (rws api_Hand.cells v402) false)], [], []⟩) h (.cov ⟨rfl, rfl, (ut (ut (ut (ut upT_nil)))), (uo (uo (uo (uo upOb_nil)))), upOut_nil, rfl⟩) ?_
    rintro ⟨v382, v401, v402, v403, v404⟩ ohr5696 h hr5696
    replace h : go_ravellaw07_RingOnce_s82 a360 x392 v353 v393 (v382, v401, v402, v403, v404) = some ohr5696 := h
    rw [go_ravellaw07_RingOnce_s82] at h
    repeat first|apply sq|apply sk|with_reducible first|apply tn|apply bn
    refine Safe.region ?_
    refine Q0 E_good rfl (v := V.bool (decide (v382 < (v353.length : Int)))) (.fn rfl) ?_
    refine SafeOps.nil ?_
    repeat first|apply sq|apply sk|with_reducible first|apply tn|apply bn
    refine ifG h (fun hc5697 h => ?_) (fun hc5697 h => ?_)
    ·skip
     refine Safe.condK rfl hc5697 ?_
     repeat first|apply sq|apply sk|with_reducible first|apply tn|apply bn
     refine Safe.block ?_
     repeat first|apply sq|apply sk|with_reducible first|apply tn|apply bn
     refine Safe.region ?_
     refine Qf E_good ?_
     refine Qf E_good ?_
     refine SafeOps.nil ?_
     repeat first|apply sq|apply sk|with_reducible first|apply tn|apply bn
     refine Safe.region ?_
     refine Qf E_good ?_
     refine SafeOps.nil ?_
     repeat first|apply sq|apply sk|with_reducible first|apply tn|apply bn
     refine Safe.block ?_
     repeat first|apply sq|apply sk|with_reducible first|apply tn|apply bn
     refine Safe.loopW (fun ((v377, v388, v383, v384, v389) : Int × (List Int) × (List api_Hand) × Bool × (List (Int × Int))) => ⟨Try.f6.ntmps, [(7, V.bool x392), (8, V.ptr [8] 0 0), (11, I v382), (73, I (v353.length : Int)), (74, I v382), (77, I v377)], [([8], Obj.box [V.ref [7000, 114, 8, 0] 0 (rws (fun n => [I n]) v388).length, I 0, I a360, V.ref [7000, 114, 8, 3] 0 (rws api_Hand.cells v383).length, V.mapr [50], I v393, I 0, V.bool v384]), ([50], Go.AM.Obj.map (mps (fun n : Int => I n) (fun n : Int => I n) v389)), ([7000, 114, 8, 0], Obj.rows 1 (rws (fun n => [I n]) v388) false), ([7000, 114, 8, 3], Obj.rows 7 (rws api_Hand.cells v383) false)], [], []⟩) h (.cov ⟨rfl, rfl, (ut (ut (ut (ut (ut (ut upT_nil)))))), (uo (uo (uo (uo upOb_nil)))), upOut_nil, rfl⟩) ?_
     rintro ⟨v377, v388, v383, v384, v389⟩ ohr5763 h hr5763
     replace h : go_ravellaw07_RingOnce_s89 a360 v382 (v377, v388, v383, v384, v389) = some ohr5763 := h
     rw [go_ravellaw07_RingOnce_s89] at h
     repeat first|apply sq|apply sk|with_reducible first|apply tn|apply bn
     refine Safe.region ?_
     refine Q0 E_good rfl (v := V.bool (decide (v377 < 10))) (.fn rfl) ?_
     refine SafeOps.nil ?_
     repeat first|apply sq|apply sk|with_reducible first|apply tn|apply bn
     refine ifG h (fun hc5764 h => ?_) (fun hc5764 h => ?_)
     ·skip
      refine Safe.condK rfl hc5764 ?_
      repeat first|apply sq|apply sk|with_reducible first|apply tn|apply bn
      refine Safe.block ?_
      repeat first|apply sq|apply sk|with_reducible first|apply tn|apply bn
      refine Safe.region ?_
      refine Q0 E_good rfl (v := V.ptr [8] 0 3) (.fn rfl) ?_
      refine Q0 E_good rfl (v := V.ref [7000, 114, 8, 3] 0 (rws api_Hand.cells v383).length) (.load rfl rfl (.box rfl rfl) rfl) ?_
      refine Qf E_good ?_
      refine okG h (fun hb5765 h => ?_)
      refine Q0 E_good rfl (v := V.ptr [7000, 114, 8, 3] (0 + Int.toNat v382) 0) (.idxRefM (f := api_Hand.cells) (xs := v383) rfl rfl rfl rfl rfl rfl hb5765) ?_
      refine Q0 E_good rfl (v := V.ptr [7000, 114, 8, 3] (0 + Int.toNat v382) 0) (.fn rfl) ?_
      refine Q0 E_good rfl (v := I ((gt v383 v382).Kind)) (.load rfl rfl (.rowsM (f := api_Hand.cells) (xs := v383) hb5765 rfl rfl) rfl) ?_
      refine Q0 E_good rfl (v := V.bool (((gt v383 v382).Kind) != 0)) (.fn rfl) ?_
      refine Qf E_good ?_
      refine SafeOps.bsplit 8 94 (fun b390 => go_ravellaw07_RingOnce_j90 a360 v382 v377 v388 v383 v384 v389 b390 = some ohr5763) (fun HJ5769 => ?_) (fun b390 h => ?_)
      ·refine ifG h (fun hc5766 h => ?_) (fun hc5766 h => ?_)
       ·skip
        refine qT E_good hc5766 (v := V.ptr [8] 0 3) (.fn rfl) ?_
        refine qT E_good hc5766 (v := V.ref [7000, 114, 8, 3] 0 (rws api_Hand.cells v383).length) (.load rfl rfl (.box rfl rfl) rfl) ?_
        refine qT E_good hc5766 (.fn rfl) ?_
        refine okG h (fun hb5806 h => ?_)
        refine qT E_good hc5766 (v := V.ptr [7000, 114, 8, 3] (0 + Int.toNat v382) 0) (.idxRefM (f := api_Hand.cells) (xs := v383) rfl rfl rfl rfl rfl rfl hb5806) ?_
        refine qT E_good hc5766 (v := V.ptr [7000, 114, 8, 3] (0 + Int.toNat v382) 6) (.fn rfl) ?_
        refine qT E_good hc5766 (v := I ((gt v383 v382).State)) (.load rfl rfl (.rowsM (f := api_Hand.cells) (xs := v383) hb5806 rfl rfl) rfl) ?_
        refine qT E_good hc5766 (v := V.bool (((gt v383 v382).State) == 0)) (.fn rfl) ?_
        refine Q0 E_good rfl (v := V.bool (((gt v383 v382).State) == 0)) (.pickK rfl hc5766 rfl) ?_
        exact SafeOps.drop' 8 rfl rfl rfl (HJ5769 _ h)
       ·skip
        refine sT hc5766 ?_
        refine sT hc5766 ?_
        refine sT hc5766 ?_
        refine sT hc5766 ?_
        refine sT hc5766 ?_
        refine sT hc5766 ?_
        refine sT hc5766 ?_
        refine Q0 E_good rfl (v := V.bool false) (.pickK rfl hc5766 rfl) ?_
        exact SafeOps.drop' 8 rfl rfl rfl (HJ5769 _ h)
      ·replace h : go_ravellaw07_RingOnce_j90 a360 v382 v377 v388 v383 v384 v389 b390 = some ohr5763 := h
       rw [go_ravellaw07_RingOnce_j90] at h
       refine SafeOps.nil ?_
       repeat first|apply sq|apply sk|with_reducible first|apply tn|apply bn
       refine ifG h (fun hc5770 h => ?_) (fun hc5770 h => ?_)
       ·skip
        refine Safe.condK rfl hc5770 ?_
        repeat first|apply sq|apply sk|with_reducible first|apply tn|apply bn
        refine Safe.region ?_
        refine Q0 E_good rfl (v := V.agg [V.ref [7000, 114, 8, 0] 0 (rws (fun n => [I n]) v388).length, I 0, I a360, V.ref [7000, 114, 8, 3] 0 (rws api_Hand.cells v383).length, V.mapr [50], I v393, I 0, V.bool v384]) (.load rfl rfl (.box rfl rfl) rfl) ?_
        refine Qf E_good ?_
        refine SafeOps.joinT 1 (fun ((v378, v379, v380, v381) : (List Int) × (List api_Hand) × Bool × (List (Int × Int))) => go_ravellaw07_RingOnce_j92 v377 v378 v379 v380 v381 = some ohr5763) (fun ((v378, v379, v380, v381) : (List Int) × (List api_Hand) × Bool × (List (Int × Int))) => ⟨Try.f6.ntmps, [(7, V.bool x392), (8, V.ptr [8] 0 0), (11, I v382), (73, I (v353.length : Int)), (74, I v382), (77, I v377), (97, V.agg [V.ref [7000, 118, 97, 0] 0 (rws (fun n => [I n]) v378).length, I 0, I a360, V.ref [7000, 118, 97, 3] 0 (rws api_Hand.cells v379).length, V.mapr [50], I v393, I 0, V.bool v380])], [([8], Obj.box [V.undef, I 0, I a360, V.undef, V.mapr [50], I v393, I 0, V.bool v384]), ([50], Go.AM.Obj.map (mps (fun n : Int => I n) (fun n : Int => I n) v381)), ([7000, 118, 97, 0], Obj.rows 1 (rws (fun n => [I n]) v378) false), ([7000, 118, 97, 3], Obj.rows 7 (rws api_Hand.cells v379) false)], [], []⟩) ?_ (fun HJ5790 => ?_)
        ·rintro ⟨v378, v379, v380, v381⟩ h
         replace h : go_ravellaw07_RingOnce_j92 v377 v378 v379 v380 v381 = some ohr5763 := h
         rw [go_ravellaw07_RingOnce_j92] at h
         refine SafeOps.store (z := Obj.box [V.ref [7000, 118, 97, 0] 0 (rws (fun n => [I n]) v378).length, I 0, I a360, V.ref [7000, 118, 97, 3] 0 (rws api_Hand.cells v379).length, V.mapr [50], I v393, I 0, V.bool v380]) E_good rfl rfl rfl rfl rfl rfl rfl (.boxM (c := 8) rfl rfl (Nat.le_of_ble_eq_true rfl) rfl) ?_
         refine SafeOps.nil ?_
         repeat first|apply sq|apply sk|with_reducible first|apply tn|apply bn
         refine Safe.region ?_
         refine Q0 E_good rfl (v := I (IntKind.i64.wrap (v377 + 1))) (.fn rfl) ?_
         refine Qf E_good ?_
         refine SafeOps.nil ?_
         repeat first|apply sq|apply sk|with_reducible first|apply tn|apply bn
         exact ⟨_, next_out h, (.ren [7000, 118, 97, 0] [7000, 114, 8, 0] (.ren [7000, 118, 97, 3] [7000, 114, 8, 3] (.cov ⟨rfl, rfl, (ut (ut (ut (ut (ut (ut upT_nil)))))), (uo (uo (uo (uo upOb_nil)))), upOut_nil, rfl⟩)))⟩
        ·skip
         refine SafeOps.inline E_good rfl rfl rfl rfl rfl Try.func20 rfl (fun _ _ => Try.call20 _ _) rfl ?_
         repeat first|apply sq|apply sk|with_reducible first|apply tn|apply bn
         refine Safe.region ?_
         refine SafeOps.quiet1 E_good rfl rfl rfl (.box rfl rfl) rfl ?_
         refine SafeOps.quiet1 E_good rfl rfl rfl (.alloc rfl rfl) rfl ?_
         refine SafeOps.nil ?_
         repeat first|apply sq|apply sk|with_reducible first|apply tn|apply bn
         refine Safe.region ?_
         refine Q0 E_good rfl (v := V.ptr [97, 3] 0 3) (.fn rfl) ?_
         refine Q0 E_good rfl (v := V.ref [7000, 114, 8, 3] 0 (rws api_Hand.cells v383).length) (.load rfl rfl (.box rfl rfl) rfl) ?_
         refine Qf E_good ?_
         refine okG h (fun hb5791 h => ?_)
         refine Q0 E_good rfl (v := V.ptr [7000, 114, 8, 3] (0 + Int.toNat v382) 0) (.idxRefM (f := api_Hand.cells) (xs := v383) rfl rfl rfl rfl rfl rfl hb5791) ?_
         refine Q0 E_good rfl (v := V.agg [I ((gt v383 v382).Kind), I ((gt v383 v382).Pc), I ((gt v383 v382).V), I ((gt v383 v382).T), I ((gt v383 v382).B), V.bool ((gt v383 v382).Won), I ((gt v383 v382).State)]) (.load rfl rfl (.rowsM (f := api_Hand.cells) (xs := v383) hb5791 rfl rfl) rfl) ?_
         refine SafeOps.quiet1 E_good rfl rfl rfl (.alloc rfl rfl) rfl ?_
         refine SafeOps.store (z := Obj.box [I ((gt v383 v382).Kind), I ((gt v383 v382).Pc), I ((gt v383 v382).V), I ((gt v383 v382).T), I ((gt v383 v382).B), V.bool ((gt v383 v382).Won), I ((gt v383 v382).State)]) E_good rfl rfl rfl rfl rfl rfl rfl (.boxM (c := 7) rfl rfl (Nat.le_of_ble_eq_true rfl) rfl) ?_
         refine SafeOps.nil ?_
         repeat first|apply sq|apply sk|with_reducible first|apply tn|apply bn
         refine Safe.region ?_
         refine Q0 E_good rfl (v := V.ptr [97, 7] 0 0) (.fn rfl) ?_
         refine Q0 E_good rfl (v := I ((gt v383 v382).Kind)) (.load rfl rfl (.box rfl rfl) rfl) ?_
         refine Q0 E_good rfl (v := V.bool (((gt v383 v382).Kind) == 0)) (.fn rfl) ?_
         refine Qf E_good ?_
         refine SafeOps.bjoin 4 26 (b := ((((gt v383 v382).Kind) == 0) || (((gt v383 v382).State) != 0))) (b1 := true) (b0 := (((gt v383 v382).State) != 0)) (fun hc5792 K => ?_) (fun hc5792 K => ?_) bj_or ?_
         ·skip
          refine sF hc5792 ?_
          refine sF hc5792 ?_
          refine sF hc5792 ?_
          refine Q0 E_good rfl (v := V.bool true) (.pickK rfl hc5792 rfl) ?_
          exact SafeOps.drop' 4 rfl rfl rfl K
         ·skip
          refine qF E_good hc5792 (v := V.ptr [97, 7] 0 6) (.fn rfl) ?_
          refine qF E_good hc5792 (v := I ((gt v383 v382).State)) (.load rfl rfl (.box rfl rfl) rfl) ?_
          refine qF E_good hc5792 (v := V.bool (((gt v383 v382).State) != 0)) (.fn rfl) ?_
          refine Q0 E_good rfl (v := V.bool (((gt v383 v382).State) != 0)) (.pickK rfl hc5792 rfl) ?_
          exact SafeOps.drop' 4 rfl rfl rfl K
         refine SafeOps.nil ?_
         repeat first|apply sq|apply sk|with_reducible first|apply tn|apply bn
         refine ifG h (fun hc5793 h => ?_) (fun hc5793 h => ?_)
         ·skip
          refine Safe.condK rfl hc5793 ?_
          repeat first|apply sq|apply sk|with_reducible first|apply tn|apply bn
          refine Safe.region ?_
          refine Q0 E_good rfl (v := V.ptr [97, 3] 0 6) (.fn rfl) ?_
          refine Q0 E_good rfl (v := I 0) (.load rfl rfl (.box rfl rfl) rfl) ?_
          refine Q0 E_good rfl (v := V.bool true) (.fn rfl) ?_
          refine SafeOps.nil ?_
          repeat first|apply sq|apply sk|with_reducible first|apply tn|apply bn
          refine Safe.condK rfl rfl ?_
          repeat first|apply sq|apply sk|with_reducible first|apply tn|apply bn
          refine Safe.region ?_
          refine Q0 E_good rfl (v := V.agg [V.ref [7000, 114, 8, 0] 0 (rws (fun n => [I n]) v388).length, I 0, I a360, V.ref [7000, 114, 8, 3] 0 (rws api_Hand.cells v383).length, V.mapr [50], I v393, I 0, V.bool v384]) (.load rfl rfl (.box rfl rfl) rfl) ?_
          refine SafeOps.store (z := Obj.box [V.ref [7000, 114, 8, 0] 0 (rws (fun n => [I n]) v388).length, I 0, I a360, V.ref [7000, 114, 8, 3] 0 (rws api_Hand.cells v383).length, V.mapr [50], I v393, I 0, V.bool v384]) E_good rfl rfl rfl rfl rfl rfl rfl (.boxM (c := 8) rfl rfl (Nat.le_of_ble_eq_true rfl) rfl) ?_
          refine SafeOps.nil ?_
          repeat first|apply sq|apply sk|with_reducible first|apply tn|apply bn
          refine Safe.ret ?_
          repeat (first | with_reducible refine thenQ.r ?_ | with_reducible refine blockQ.r ?_)
          refine inQ.gen (vs := [V.agg [V.ref [7000, 114, 8, 0] 0 (rws (fun n => [I n]) v388).length, I 0, I a360, V.ref [7000, 114, 8, 3] 0 (rws api_Hand.cells v383).length, V.mapr [50], I v393, I 0, V.bool v384]]) (v := V.agg [V.ref [7000, 114, 8, 0] 0 (rws (fun n => [I n]) v388).length, I 0, I a360, V.ref [7000, 114, 8, 3] 0 (rws api_Hand.cells v383).length, V.mapr [50], I v393, I 0, V.bool v384]) (.inr rfl) rfl (.cell rfl rfl (.box rfl rfl) rfl .nil) rfl ?_
          exact SafeOps.got (HJ5790 (v388, v383, v384, v389) h) (.ren [7000, 114, 8, 0] [7000, 118, 97, 0] (.ren [7000, 114, 8, 3] [7000, 118, 97, 3] (.cov ⟨rfl, rfl, (ut (ut (ut (ut (ut (ut (ut upT_nil))))))), (upOb_cons rfl (.box (.cons (.undef _) (.cons (.refl _) (.cons (.refl _) (.cons (.undef _) (.cons (.refl _) (.cons (.refl _) (.cons (.refl _) (.cons (.refl _) .nil))))))))) (uo (uo (uo upOb_nil)))), upOut_nil, rfl⟩)))
         ·skip
          refine Safe.condN rfl hc5793 ?_
          repeat first|apply sq|apply sk|with_reducible first|apply tn|apply bn
          refine Safe.region ?_
          refine Q0 E_good rfl (v := V.ptr [97, 3] 0 0) (.fn rfl) ?_
          refine Q0 E_good rfl (v := V.ref [7000, 114, 8, 0] 0 (rws (fun n => [I n]) v388).length) (.load rfl rfl (.box rfl rfl) rfl) ?_
          refine Q0 E_good rfl (v := V.ptr [97, 3] 0 1) (.fn rfl) ?_
          refine Q0 E_good rfl (v := V.agg [I 0, I a360]) (.load rfl rfl (.box rfl rfl) rfl) ?_
          refine Q0 E_good rfl (v := V.agg [I ((gt v383 v382).Kind), I ((gt v383 v382).Pc), I ((gt v383 v382).V), I ((gt v383 v382).T), I ((gt v383 v382).B), V.bool ((gt v383 v382).Won), I ((gt v383 v382).State)]) (.load rfl rfl (.box rfl rfl) rfl) ?_
          refine bindG h ?_
          rintro ⟨x385, x386, x391⟩ he5797 h
          refine SafeOps.quiet E_good rfl rfl rfl (v := V.tup [V.ref [97, 57, 0] 0 (rws (fun n => [I n]) x385).length, V.agg [I x386.Kind, I x386.Pc, I x386.V, I x386.T, I x386.B, V.bool x386.Won, I x386.State], I x391]) (.callS rfl (.cons (.full rfl rfl) (.cons (.free rfl) (.cons (.free rfl) .nil))) (go_ring_Step_sc v388 (api_Deque.mk 0 a360) (gt v383 v382) _ he5797) (.tupL (.cons (.ownM (fun _ => rfl)) (.cons (.aggL (.cons (.plain rfl) (.cons (.plain rfl) (.cons (.plain rfl) (.cons (.plain rfl) (.cons (.plain rfl) (.cons (.plain rfl) (.cons (.plain rfl) .nil)))))))) (.cons (.plain rfl) .nil)))) rfl) rfl ?_
          refine Qf E_good ?_
          refine Qf E_good ?_
          refine Qf E_good ?_
          refine Qf E_good ?_
          refine SafeOps.quiet1 E_good rfl rfl rfl (.alloc rfl rfl) rfl ?_
          refine Qf E_good ?_
          refine SafeOps.store (z := Obj.box [I x386.Kind, I x386.Pc, I x386.V, I x386.T, I x386.B, V.bool x386.Won, I x386.State]) E_good rfl rfl rfl rfl rfl rfl rfl (.boxM (c := 7) rfl rfl (Nat.le_of_ble_eq_true rfl) rfl) ?_
          refine Qf E_good ?_
          refine SafeOps.nil ?_
          repeat first|apply sq|apply sk|with_reducible first|apply tn|apply bn
          refine Safe.region ?_
          refine Qf E_good ?_
          refine Q0 E_good rfl (v := V.bool (x391 != 0)) (.fn rfl) ?_
          refine SafeOps.nil ?_
          repeat first|apply sq|apply sk|with_reducible first|apply tn|apply bn
          refine ifG h (fun hc5798 h => ?_) (fun hc5798 h => ?_)
          ·skip
           refine Safe.condK rfl hc5798 ?_
           repeat first|apply sq|apply sk|with_reducible first|apply tn|apply bn
           refine Safe.region ?_
           refine Q0 E_good rfl (v := V.ptr [97, 3] 0 7) (.fn rfl) ?_
           refine SafeOps.store (z := Obj.box [V.ref [7000, 114, 8, 0] 0 (rws (fun n => [I n]) v388).length, I 0, I a360, V.ref [7000, 114, 8, 3] 0 (rws api_Hand.cells v383).length, V.mapr [50], I v393, I 0, V.bool true]) E_good rfl rfl rfl rfl rfl rfl rfl (.boxM (c := 8) rfl rfl (Nat.le_of_ble_eq_true rfl) rfl) ?_
           refine SafeOps.nil ?_
           repeat first|apply sq|apply sk|with_reducible first|apply tn|apply bn
           refine Safe.region ?_
           refine Q0 E_good rfl (v := V.agg [V.ref [7000, 114, 8, 0] 0 (rws (fun n => [I n]) v388).length, I 0, I a360, V.ref [7000, 114, 8, 3] 0 (rws api_Hand.cells v383).length, V.mapr [50], I v393, I 0, V.bool true]) (.load rfl rfl (.box rfl rfl) rfl) ?_
           refine SafeOps.store (z := Obj.box [V.ref [7000, 114, 8, 0] 0 (rws (fun n => [I n]) v388).length, I 0, I a360, V.ref [7000, 114, 8, 3] 0 (rws api_Hand.cells v383).length, V.mapr [50], I v393, I 0, V.bool true]) E_good rfl rfl rfl rfl rfl rfl rfl (.boxM (c := 8) rfl rfl (Nat.le_of_ble_eq_true rfl) rfl) ?_
           refine SafeOps.nil ?_
           repeat first|apply sq|apply sk|with_reducible first|apply tn|apply bn
           refine Safe.ret ?_
           repeat (first | with_reducible refine thenQ.r ?_ | with_reducible refine blockQ.r ?_)
           refine inQ.gen (vs := [V.agg [V.ref [7000, 114, 8, 0] 0 (rws (fun n => [I n]) v388).length, I 0, I a360, V.ref [7000, 114, 8, 3] 0 (rws api_Hand.cells v383).length, V.mapr [50], I v393, I 0, V.bool true]]) (v := V.agg [V.ref [7000, 114, 8, 0] 0 (rws (fun n => [I n]) v388).length, I 0, I a360, V.ref [7000, 114, 8, 3] 0 (rws api_Hand.cells v383).length, V.mapr [50], I v393, I 0, V.bool true]) (.inr rfl) rfl (.cell rfl rfl (.box rfl rfl) rfl .nil) rfl ?_
           exact SafeOps.got (HJ5790 (v388, v383, true, v389) h) (.ren [7000, 114, 8, 0] [7000, 118, 97, 0] (.ren [7000, 114, 8, 3] [7000, 118, 97, 3] (.cov ⟨rfl, rfl, (ut (ut (ut (ut (ut (ut (ut upT_nil))))))), (upOb_cons rfl (.box (.cons (.undef _) (.cons (.refl _) (.cons (.refl _) (.cons (.undef _) (.cons (.refl _) (.cons (.refl _) (.cons (.refl _) (.cons (.refl _) .nil))))))))) (uo (uo (uo upOb_nil)))), upOut_nil, rfl⟩)))
          ·skip
           refine Safe.condN rfl hc5798 ?_
           repeat first|apply sq|apply sk|with_reducible first|apply tn|apply bn
           refine Safe.region ?_
           refine Q0 E_good rfl (v := V.ptr [97, 3] 0 3) (.fn rfl) ?_
           refine Q0 E_good rfl (v := V.ref [7000, 114, 8, 3] 0 (rws api_Hand.cells v383).length) (.load rfl rfl (.box rfl rfl) rfl) ?_
           refine okG h (fun hb5799 h => ?_)
           refine SafeOps.appendM api_Hand.cells (xs := []) (ys := v383) E_good rfl rfl rfl rfl rfl rfl rfl rfl rfl .nils (.own rfl) (fun _ => rfl) hb5799 ?_
           refine Qf E_good ?_
           refine SafeOps.nil ?_
           repeat first|apply sq|apply sk|with_reducible first|apply tn|apply bn
           refine Safe.region ?_
           refine Qf E_good ?_
           refine Qf E_good ?_
           refine Q0 E_good rfl (v := V.agg [I x386.Kind, I x386.Pc, I x386.V, I x386.T, I x386.B, V.bool x386.Won, I x386.State]) (.load rfl rfl (.box rfl rfl) rfl) ?_
           refine okG h (fun hb5800 h => ?_)
           refine Q0 E_good rfl (v := V.ptr [97, 67] (0 + Int.toNat v382) 0) (.idxRefM (f := api_Hand.cells) (xs := [] ++ v383) rfl rfl rfl rfl rfl rfl hb5800) ?_
           refine SafeOps.store (z := Obj.rows 7 (rws api_Hand.cells (st ([] ++ v383) v382 x386)) false) E_good rfl rfl rfl rfl rfl rfl rfl (.rowsM (f := api_Hand.cells) (xs := [] ++ v383) (y := x386) hb5800 rfl rfl rfl rfl) ?_
           refine SafeOps.see 67 (u := V.ref [97, 67] 0 (rws api_Hand.cells (st ([] ++ v383) v382 x386)).length) rfl (.len (by simp [rws, st])) ?_
           refine SafeOps.see 13 (u := V.ref [97, 67] 0 (rws api_Hand.cells (st ([] ++ v383) v382 x386)).length) rfl (.len (by simp [rws, st])) ?_
           refine SafeOps.see 68 (u := V.ref [97, 67] 0 (rws api_Hand.cells (st ([] ++ v383) v382 x386)).length) rfl (.len (by simp [rws, st])) ?_
           refine SafeOps.nil ?_
           repeat first|apply sq|apply sk|with_reducible first|apply tn|apply bn
           refine Safe.region ?_
           refine Qf E_good ?_
           refine Q0 E_good rfl (v := V.ptr [97, 3] 0 3) (.fn rfl) ?_
           refine SafeOps.store (z := Obj.box [V.ref [7000, 114, 8, 0] 0 (rws (fun n => [I n]) v388).length, I 0, I a360, V.ref [97, 67] 0 (rws api_Hand.cells (st ([] ++ v383) v382 x386)).length, V.mapr [50], I v393, I 0, V.bool v384]) E_good rfl rfl rfl rfl rfl rfl rfl (.boxM (c := 8) rfl rfl (Nat.le_of_ble_eq_true rfl) rfl) ?_
           refine SafeOps.nil ?_
           repeat first|apply sq|apply sk|with_reducible first|apply tn|apply bn
           refine Safe.region ?_
           refine Qf E_good ?_
           refine Q0 E_good rfl (v := V.ptr [97, 3] 0 0) (.fn rfl) ?_
           refine SafeOps.store (z := Obj.box [V.ref [97, 57, 0] 0 (rws (fun n => [I n]) x385).length, I 0, I a360, V.ref [97, 67] 0 (rws api_Hand.cells (st ([] ++ v383) v382 x386)).length, V.mapr [50], I v393, I 0, V.bool v384]) E_good rfl rfl rfl rfl rfl rfl rfl (.boxM (c := 8) rfl rfl (Nat.le_of_ble_eq_true rfl) rfl) ?_
           refine SafeOps.nil ?_
           repeat first|apply sq|apply sk|with_reducible first|apply tn|apply bn
           refine Safe.region ?_
           refine Q0 E_good rfl (v := V.ptr [97, 11] 0 6) (.fn rfl) ?_
           refine Q0 E_good rfl (v := I x386.State) (.load rfl rfl (.box rfl rfl) rfl) ?_
           refine Q0 E_good rfl (v := V.bool (x386.State == 1)) (.fn rfl) ?_
           refine Qf E_good ?_
           refine SafeOps.bjoin 4 83 (b := ((x386.State == 1) && (x386.Kind != 1))) (b1 := (x386.Kind != 1)) (b0 := false) (fun hc5801 K => ?_) (fun hc5801 K => ?_) bj_and ?_
           ·skip
            refine qT E_good hc5801 (v := V.ptr [97, 11] 0 0) (.fn rfl) ?_
            refine qT E_good hc5801 (v := I x386.Kind) (.load rfl rfl (.box rfl rfl) rfl) ?_
            refine qT E_good hc5801 (v := V.bool (x386.Kind != 1)) (.fn rfl) ?_
            refine Q0 E_good rfl (v := V.bool (x386.Kind != 1)) (.pickK rfl hc5801 rfl) ?_
            exact SafeOps.drop' 4 rfl rfl rfl K
           ·skip
            refine sT hc5801 ?_
            refine sT hc5801 ?_
            refine sT hc5801 ?_
            refine Q0 E_good rfl (v := V.bool false) (.pickK rfl hc5801 rfl) ?_
            exact SafeOps.drop' 4 rfl rfl rfl K
           refine SafeOps.nil ?_
           repeat first|apply sq|apply sk|with_reducible first|apply tn|apply bn
           refine Safe.joinT (fun (v387 : List (Int × Int)) => go_ravellaw07_RingOnce_j93 v382 v377 v383 v384 x385 x386 v387 = some ohr5763) (fun (v387 : List (Int × Int)) => ⟨Try.f20.ntmps, [(3, V.ptr [97, 3] 0 0), (6, V.ptr [97, 6] 0 0), (11, V.ptr [97, 11] 0 0)], [([8], Obj.box [V.ref [7000, 114, 8, 0] 0 (rws (fun n => [I n]) v388).length, I 0, I a360, V.ref [7000, 114, 8, 3] 0 (rws api_Hand.cells v383).length, V.mapr [50], I v393, I 0, V.bool v384]), ([50], Go.AM.Obj.map (mps (fun n : Int => I n) (fun n : Int => I n) v387)), ([97, 3], Obj.box [V.ref [97, 57, 0] 0 (rws (fun n => [I n]) x385).length, I 0, I a360, V.ref [97, 67] 0 (rws api_Hand.cells (st ([] ++ v383) v382 x386)).length, V.mapr [50], I v393, I 0, V.bool v384]), ([97, 6], Obj.box [V.nils, I 0, I 0, V.nils, V.nilm, I 0, I 0, V.bool false]), ([97, 11], Obj.box [I x386.Kind, I x386.Pc, I x386.V, I x386.T, I x386.B, V.bool x386.Won, I x386.State]), ([97, 57, 0], Obj.rows 1 (rws (fun n => [I n]) x385) false), ([97, 67], Obj.rows 7 (rws api_Hand.cells (st ([] ++ v383) v382 x386)) false), ([7000, 114, 8, 0], Obj.rows 1 (rws (fun n => [I n]) v388) false), ([7000, 114, 8, 3], Obj.rows 7 (rws api_Hand.cells v383) false)], [(Try.f6.ntmps, [(7, V.bool x392), (8, V.ptr [8] 0 0), (11, I v382), (73, I (v353.length : Int)), (74, I v382), (77, I v377)])], [97]⟩) ?_ (fun HJ5803 => ?_)
           ·intro v387 h
            replace h : go_ravellaw07_RingOnce_j93 v382 v377 v383 v384 x385 x386 v387 = some ohr5763 := h
            rw [go_ravellaw07_RingOnce_j93] at h
            repeat first|apply sq|apply sk|with_reducible first|apply tn|apply bn
            refine Safe.region ?_
            refine Q0 E_good rfl (v := V.ptr [97, 11] 0 6) (.fn rfl) ?_
            refine Q0 E_good rfl (v := I x386.State) (.load rfl rfl (.box rfl rfl) rfl) ?_
            refine Q0 E_good rfl (v := V.bool (x386.State == 3)) (.fn rfl) ?_
            refine SafeOps.nil ?_
            repeat first|apply sq|apply sk|with_reducible first|apply tn|apply bn
            refine ifG h (fun hc5804 h => ?_) (fun hc5804 h => ?_)
            ·skip
             refine Safe.condK rfl hc5804 ?_
             repeat first|apply sq|apply sk|with_reducible first|apply tn|apply bn
             refine Safe.region ?_
             refine Q0 E_good rfl (v := V.ptr [97, 3] 0 4) (.fn rfl) ?_
             refine Q0 E_good rfl (v := V.mapr [50]) (.load rfl rfl (.box rfl rfl) rfl) ?_
             refine Q0 E_good rfl (v := V.ptr [97, 11] 0 2) (.fn rfl) ?_
             refine Q0 E_good rfl (v := I x386.V) (.load rfl rfl (.box rfl rfl) rfl) ?_
             refine Q0 E_good rfl (v := I ((mget v387 x386.V).getD 0)) (.lookM (fv := (fun n : Int => I n)) (m := v387) (kk := x386.V) (z0 := 0) (keyI .i64) rfl rfl rfl rfl rfl rfl rfl rfl rfl rfl) ?_
             refine Q0 E_good rfl (v := I (IntKind.i64.wrap (((mget v387 x386.V).getD 0) + 1))) (.fn rfl) ?_
             refine SafeOps.mputM (fun n : Int => I n) (fun n : Int => I n) v387 x386.V (IntKind.i64.wrap (((mget v387 x386.V).getD 0) + 1)) E_good (keyI .i64) rfl (.inl rfl) rfl rfl rfl rfl rfl rfl rfl rfl rfl ?_
             refine SafeOps.nil ?_
             repeat first|apply sq|apply sk|with_reducible first|apply tn|apply bn
             refine Safe.region ?_
             refine Q0 E_good rfl (v := V.agg [V.ref [97, 57, 0] 0 (rws (fun n => [I n]) x385).length, I 0, I a360, V.ref [97, 67] 0 (rws api_Hand.cells (st ([] ++ v383) v382 x386)).length, V.mapr [50], I v393, I 0, V.bool v384]) (.load rfl rfl (.box rfl rfl) rfl) ?_
             refine SafeOps.store (z := Obj.box [V.ref [97, 57, 0] 0 (rws (fun n => [I n]) x385).length, I 0, I a360, V.ref [97, 67] 0 (rws api_Hand.cells (st ([] ++ v383) v382 x386)).length, V.mapr [50], I v393, I 0, V.bool v384]) E_good rfl rfl rfl rfl rfl rfl rfl (.boxM (c := 8) rfl rfl (Nat.le_of_ble_eq_true rfl) rfl) ?_
             refine SafeOps.nil ?_
             repeat first|apply sq|apply sk|with_reducible first|apply tn|apply bn
             refine Safe.ret ?_
             repeat (first | with_reducible refine thenQ.r ?_ | with_reducible refine blockQ.r ?_)
             refine inQ.gen (vs := [V.agg [V.ref [97, 57, 0] 0 (rws (fun n => [I n]) x385).length, I 0, I a360, V.ref [97, 67] 0 (rws api_Hand.cells (st ([] ++ v383) v382 x386)).length, V.mapr [50], I v393, I 0, V.bool v384]]) (v := V.agg [V.ref [97, 57, 0] 0 (rws (fun n => [I n]) x385).length, I 0, I a360, V.ref [97, 67] 0 (rws api_Hand.cells (st ([] ++ v383) v382 x386)).length, V.mapr [50], I v393, I 0, V.bool v384]) (.inr rfl) rfl (.cell rfl rfl (.box rfl rfl) rfl .nil) rfl ?_
             exact SafeOps.got (HJ5790 (x385, st ([] ++ v383) v382 x386, v384, mput v387 x386.V (IntKind.i64.wrap (((mget v387 x386.V).getD 0) + 1))) h) (.ren [97, 57, 0] [7000, 118, 97, 0] (.ren [97, 67] [7000, 118, 97, 3] (.cov ⟨rfl, rfl, (ut (ut (ut (ut (ut (ut (ut upT_nil))))))), (upOb_cons rfl (.box (.cons (.undef _) (.cons (.refl _) (.cons (.refl _) (.cons (.undef _) (.cons (.refl _) (.cons (.refl _) (.cons (.refl _) (.cons (.refl _) .nil))))))))) (uo (uo (uo upOb_nil)))), upOut_nil, rfl⟩)))
            ·skip
             refine Safe.condN rfl hc5804 ?_
             repeat first|apply sq|apply sk|with_reducible first|apply tn|apply bn
             refine Safe.region ?_
             refine Q0 E_good rfl (v := V.agg [V.ref [97, 57, 0] 0 (rws (fun n => [I n]) x385).length, I 0, I a360, V.ref [97, 67] 0 (rws api_Hand.cells (st ([] ++ v383) v382 x386)).length, V.mapr [50], I v393, I 0, V.bool v384]) (.load rfl rfl (.box rfl rfl) rfl) ?_
             refine SafeOps.store (z := Obj.box [V.ref [97, 57, 0] 0 (rws (fun n => [I n]) x385).length, I 0, I a360, V.ref [97, 67] 0 (rws api_Hand.cells (st ([] ++ v383) v382 x386)).length, V.mapr [50], I v393, I 0, V.bool v384]) E_good rfl rfl rfl rfl rfl rfl rfl (.boxM (c := 8) rfl rfl (Nat.le_of_ble_eq_true rfl) rfl) ?_
             refine SafeOps.nil ?_
             repeat first|apply sq|apply sk|with_reducible first|apply tn|apply bn
             refine Safe.ret ?_
             repeat (first | with_reducible refine thenQ.r ?_ | with_reducible refine blockQ.r ?_)
             refine inQ.gen (vs := [V.agg [V.ref [97, 57, 0] 0 (rws (fun n => [I n]) x385).length, I 0, I a360, V.ref [97, 67] 0 (rws api_Hand.cells (st ([] ++ v383) v382 x386)).length, V.mapr [50], I v393, I 0, V.bool v384]]) (v := V.agg [V.ref [97, 57, 0] 0 (rws (fun n => [I n]) x385).length, I 0, I a360, V.ref [97, 67] 0 (rws api_Hand.cells (st ([] ++ v383) v382 x386)).length, V.mapr [50], I v393, I 0, V.bool v384]) (.inr rfl) rfl (.cell rfl rfl (.box rfl rfl) rfl .nil) rfl ?_
             exact SafeOps.got (HJ5790 (x385, st ([] ++ v383) v382 x386, v384, v387) h) (.ren [97, 57, 0] [7000, 118, 97, 0] (.ren [97, 67] [7000, 118, 97, 3] (.cov ⟨rfl, rfl, (ut (ut (ut (ut (ut (ut (ut upT_nil))))))), (upOb_cons rfl (.box (.cons (.undef _) (.cons (.refl _) (.cons (.refl _) (.cons (.undef _) (.cons (.refl _) (.cons (.refl _) (.cons (.refl _) (.cons (.refl _) .nil))))))))) (uo (uo (uo upOb_nil)))), upOut_nil, rfl⟩)))
           ·skip
            refine ifG h (fun hc5805 h => ?_) (fun hc5805 h => ?_)
            ·skip
             refine Safe.condK rfl hc5805 ?_
             repeat first|apply sq|apply sk|with_reducible first|apply tn|apply bn
             refine Safe.region ?_
             refine Q0 E_good rfl (v := V.ptr [97, 3] 0 4) (.fn rfl) ?_
             refine Q0 E_good rfl (v := V.mapr [50]) (.load rfl rfl (.box rfl rfl) rfl) ?_
             refine Q0 E_good rfl (v := V.ptr [97, 11] 0 2) (.fn rfl) ?_
             refine Q0 E_good rfl (v := I x386.V) (.load rfl rfl (.box rfl rfl) rfl) ?_
             refine Q0 E_good rfl (v := I ((mget v389 x386.V).getD 0)) (.lookM (fv := (fun n : Int => I n)) (m := v389) (kk := x386.V) (z0 := 0) (keyI .i64) rfl rfl rfl rfl rfl rfl rfl rfl rfl rfl) ?_
             refine Q0 E_good rfl (v := I (IntKind.i64.wrap (((mget v389 x386.V).getD 0) + 1))) (.fn rfl) ?_
             refine SafeOps.mputM (fun n : Int => I n) (fun n : Int => I n) v389 x386.V (IntKind.i64.wrap (((mget v389 x386.V).getD 0) + 1)) E_good (keyI .i64) rfl (.inl rfl) rfl rfl rfl rfl rfl rfl rfl rfl rfl ?_
             refine SafeOps.nil ?_
             repeat (first | refine Safe.skip ?_ | with_reducible refine thenQ.n ?_ | with_reducible refine blockQ.n ?_)
             exact Safe.got (HJ5803 (mput v389 x386.V (IntKind.i64.wrap (((mget v389 x386.V).getD 0) + 1))) h) (.cov ⟨rfl, rfl, (ut (ut (ut upT_nil))), (uo (uo (uo (uo (uo (uo (uo (uo (uo upOb_nil))))))))), (upOut_cons rfl (ut (ut (ut (ut (ut (ut upT_nil)))))) upOut_nil), rfl⟩)
            ·skip
             refine Safe.condN rfl hc5805 ?_
             repeat (first | refine Safe.skip ?_ | with_reducible refine thenQ.n ?_ | with_reducible refine blockQ.n ?_)
             exact Safe.got (HJ5803 (v389) h) (.cov ⟨rfl, rfl, (ut (ut (ut upT_nil))), (uo (uo (uo (uo (uo (uo (uo (uo (uo upOb_nil))))))))), (upOut_cons rfl (ut (ut (ut (ut (ut (ut upT_nil)))))) upOut_nil), rfl⟩)
       ·skip
        refine Safe.condN rfl hc5770 ?_
        repeat first|apply sq|apply sk|with_reducible first|apply tn|apply bn
        refine Safe.region ?_
        refine Q0 E_good rfl (v := I (IntKind.i64.wrap (v377 + 1))) (.fn rfl) ?_
        refine Qf E_good ?_
        refine SafeOps.nil ?_
        repeat first|apply sq|apply sk|with_reducible first|apply tn|apply bn
        exact ⟨_, next_out h, (.cov ⟨rfl, rfl, (ut (ut (ut (ut (ut (ut upT_nil)))))), (uo (uo (uo (uo upOb_nil)))), upOut_nil, rfl⟩)⟩
     ·skip
      refine Safe.condN rfl hc5764 ?_
      repeat first|apply sq|apply sk|with_reducible first|apply tn|apply bn
      refine Safe.exit ?_
      repeat (first | with_reducible refine thenQ.e ?_ | with_reducible refine blockQ.x rfl ?_ | with_reducible refine blockQ.y rfl ?_)
      replace h := inr_out h hr5763
      repeat first|apply sq|apply sk|with_reducible first|apply tn|apply bn
      refine Safe.region ?_
      refine Q0 E_good rfl (v := I (IntKind.i64.wrap (v382 + 1))) (.fn rfl) ?_
      refine Qf E_good ?_
      refine SafeOps.nil ?_
      repeat first|apply sq|apply sk|with_reducible first|apply tn|apply bn
      exact ⟨_, next_out h, (.cov ⟨rfl, rfl, (ut (ut (ut (ut upT_nil)))), (uo (uo (uo (uo upOb_nil)))), upOut_nil, rfl⟩)⟩
    ·skip
     refine Safe.condN rfl hc5697 ?_
     repeat first|apply sq|apply sk|with_reducible first|apply tn|apply bn
     refine Safe.exit ?_
     repeat (first | with_reducible refine thenQ.e ?_ | with_reducible refine blockQ.x rfl ?_ | with_reducible refine blockQ.y rfl ?_)
     replace h := inr_out h hr5696
     repeat first|apply sq|apply sk|with_reducible first|apply tn|apply bn
     refine Safe.region ?_
     refine Q0 E_good rfl (v := V.ptr [8] 0 0) (.fn rfl) ?_
     refine Q0 E_good rfl (v := V.ref [7000, 114, 8, 0] 0 (rws (fun n => [I n]) v401).length) (.load rfl rfl (.box rfl rfl) rfl) ?_
     refine Q0 E_good rfl (v := V.ptr [8] 0 1) (.fn rfl) ?_
     refine Q0 E_good rfl (v := V.agg [I 0, I a360]) (.load rfl rfl (.box rfl rfl) rfl) ?_
     refine bindG h ?_
     rintro ⟨x394, x405⟩ he5809 h
     refine SafeOps.quiet E_good rfl rfl rfl (v := V.tup [V.ref [105, 0] 0 (rws (fun n => [I n]) x394).length, I x405]) (.callS rfl (.cons (.full rfl rfl) (.cons (.free rfl) .nil)) (go_ring_List_sc v401 (api_Deque.mk 0 a360) _ he5809) (.tupL (.cons (.ownM (fun _ => rfl)) (.cons (.plain rfl) .nil))) rfl) rfl ?_
     refine Qf E_good ?_
     refine Qf E_good ?_
     refine Qf E_good ?_
     refine Qf E_good ?_
     refine Qf E_good ?_
     refine SafeOps.nil ?_
     repeat first|apply sq|apply sk|with_reducible first|apply tn|apply bn
     refine Safe.region ?_
     refine Q0 E_good rfl (v := V.ptr [8] 0 7) (.fn rfl) ?_
     refine Q0 E_good rfl (v := V.bool v403) (.load rfl rfl (.box rfl rfl) rfl) ?_
     refine Qf E_good ?_
     refine SafeOps.bjoin 3 113 (b := (v403 || (x405 != 0))) (b1 := true) (b0 := (x405 != 0)) (fun hc5810 K => ?_) (fun hc5810 K => ?_) bj_or ?_
     ·skip
      refine sF hc5810 ?_
      refine sF hc5810 ?_
      refine Q0 E_good rfl (v := V.bool true) (.pickK rfl hc5810 rfl) ?_
      exact SafeOps.drop' 3 rfl rfl rfl K
     ·skip
      refine qF E_good hc5810 (.fn rfl) ?_
      refine qF E_good hc5810 (v := V.bool (x405 != 0)) (.fn rfl) ?_
      refine Q0 E_good rfl (v := V.bool (x405 != 0)) (.pickK rfl hc5810 rfl) ?_
      exact SafeOps.drop' 3 rfl rfl rfl K
     refine SafeOps.nil ?_
     repeat first|apply sq|apply sk|with_reducible first|apply tn|apply bn
     refine ifG h (fun hc5811 h => ?_) (fun hc5811 h => ?_)
     ·skip
      refine Safe.condK rfl hc5811 ?_
      repeat first|apply sq|apply sk|with_reducible first|apply tn|apply bn
      refine Safe.region ?_
      refine Qf E_good ?_
      refine SafeOps.nil ?_
      repeat first|apply sq|apply sk|with_reducible first|apply tn|apply bn
      refine Safe.ret ?_
      repeat (first | with_reducible refine thenQ.r ?_ | with_reducible refine blockQ.r ?_)
      obtain rfl := Option.some.inj h
      exact retQ.gen (vs := [V.bool false]) rfl (.tmp rfl .nil) (.free rfl) (by simp) (.inr rfl)
     ·skip
      refine Safe.condN rfl hc5811 ?_
      repeat first|apply sq|apply sk|with_reducible first|apply tn|apply bn
      refine Safe.region ?_
      refine Qf E_good ?_
      refine SafeOps.nil ?_
      repeat first|apply sq|apply sk|with_reducible first|apply tn|apply bn
      refine Safe.region ?_
      refine Qf E_good ?_
      refine Q0 E_good rfl (v := I (x394.length : Int)) (.fnE rfl lenE) ?_
      refine Qf E_good ?_
      refine SafeOps.nil ?_
      repeat first|apply sq|apply sk|with_reducible first|apply tn|apply bn
      refine Safe.block ?_
      repeat first|apply sq|apply sk|with_reducible first|apply tn|apply bn
      refine Safe.loopW (fun ((v395, v396, v397) : Int × Int × (List (Int × Int))) => ⟨Try.f6.ntmps, [(7, V.bool x392), (8, V.ptr [8] 0 0), (14, I v395), (114, V.ref [105, 0] 0 (rws (fun n => [I n]) x394).length), (115, I (x394.length : Int)), (116, I v396)], [([8], Obj.box [V.ref [7000, 114, 8, 0] 0 (rws (fun n => [I n]) v401).length, I 0, I a360, V.ref [7000, 114, 8, 3] 0 (rws api_Hand.cells v402).length, V.mapr [50], I v393, I 0, V.bool v403]), ([50], Go.AM.Obj.map (mps (fun n : Int => I n) (fun n : Int => I n) v397)), ([105, 0], Obj.rows 1 (rws (fun n => [I n]) x394) false), ([7000, 114, 8, 0], Obj.rows 1 (rws (fun n => [I n]) v401) false), ([7000, 114, 8, 3], Obj.rows 7 (rws api_Hand.cells v402) false)], [], []⟩) h (.cov ⟨rfl, rfl, (ut (ut (ut (ut (ut (ut upT_nil)))))), (uo (uo (uo (uo (uo upOb_nil))))), upOut_nil, rfl⟩) ?_
      rintro ⟨v395, v396, v397⟩ ohr5840 h hr5840
      replace h : go_ravellaw07_RingOnce_s95 x392 v393 x394 (v395, v396, v397) = some ohr5840 := h
      rw [go_ravellaw07_RingOnce_s95] at h
      repeat first|apply sq|apply sk|with_reducible first|apply tn|apply bn
      refine Safe.region ?_
      refine Q0 E_good rfl (v := V.bool (decide (v396 < (x394.length : Int)))) (.fn rfl) ?_
      refine SafeOps.nil ?_
      repeat first|apply sq|apply sk|with_reducible first|apply tn|apply bn
      refine ifG h (fun hc5841 h => ?_) (fun hc5841 h => ?_)
      ·skip
       refine Safe.condK rfl hc5841 ?_
       repeat first|apply sq|apply sk|with_reducible first|apply tn|apply bn
       refine Safe.block ?_
       repeat first|apply sq|apply sk|with_reducible first|apply tn|apply bn
       refine Safe.region ?_
       refine okG h (fun hb5842 h => ?_)
       refine Q0 E_good rfl (v := V.ptr [105, 0] (0 + Int.toNat v396) 0) (.idxRefM (f := (fun n => [I n])) (xs := x394) rfl rfl rfl rfl rfl rfl hb5842) ?_
       refine Q0 E_good rfl (v := I (gt x394 v396)) (.load rfl rfl (.rowsM (f := (fun n => [I n])) (xs := x394) hb5842 rfl rfl) rfl) ?_
       refine Qf E_good ?_
       refine SafeOps.nil ?_
       repeat first|apply sq|apply sk|with_reducible first|apply tn|apply bn
       refine Safe.region ?_
       refine Qf E_good ?_
       refine Qf E_good ?_
       refine Q0 E_good rfl (v := V.bool (decide ((gt x394 v396) ≤ v395))) (.fn rfl) ?_
       refine SafeOps.nil ?_
       repeat first|apply sq|apply sk|with_reducible first|apply tn|apply bn
       refine ifG h (fun hc5843 h => ?_) (fun hc5843 h => ?_)
       ·skip
        refine Safe.condK rfl hc5843 ?_
        repeat first|apply sq|apply sk|with_reducible first|apply tn|apply bn
        refine Safe.region ?_
        refine Qf E_good ?_
        refine SafeOps.nil ?_
        repeat first|apply sq|apply sk|with_reducible first|apply tn|apply bn
        refine Safe.ret ?_
        repeat (first | with_reducible refine thenQ.r ?_ | with_reducible refine blockQ.r ?_)
        replace h := inr_out h hr5840
        obtain rfl := Option.some.inj h
        exact retQ.gen (vs := [V.bool false]) rfl (.tmp rfl .nil) (.free rfl) (by simp) (.inr rfl)
       ·skip
        refine Safe.condN rfl hc5843 ?_
        repeat first|apply sq|apply sk|with_reducible first|apply tn|apply bn
        refine Safe.region ?_
        refine Qf E_good ?_
        refine Qf E_good ?_
        refine SafeOps.nil ?_
        repeat first|apply sq|apply sk|with_reducible first|apply tn|apply bn
        refine Safe.region ?_
        refine Q0 E_good rfl (v := V.ptr [8] 0 4) (.fn rfl) ?_
        refine Q0 E_good rfl (v := V.mapr [50]) (.load rfl rfl (.box rfl rfl) rfl) ?_
        refine Qf E_good ?_
        refine Q0 E_good rfl (v := I ((mget v397 (gt x394 v396)).getD 0)) (.lookM (fv := (fun n : Int => I n)) (m := v397) (kk := (gt x394 v396)) (z0 := 0) (keyI .i64) rfl rfl rfl rfl rfl rfl rfl rfl rfl rfl) ?_
        refine Q0 E_good rfl (v := I (IntKind.i64.wrap (((mget v397 (gt x394 v396)).getD 0) + 1))) (.fn rfl) ?_
        refine SafeOps.mputM (fun n : Int => I n) (fun n : Int => I n) v397 (gt x394 v396) (IntKind.i64.wrap (((mget v397 (gt x394 v396)).getD 0) + 1)) E_good (keyI .i64) rfl (.inl rfl) rfl rfl rfl rfl rfl rfl rfl rfl rfl ?_
        refine SafeOps.nil ?_
        repeat first|apply sq|apply sk|with_reducible first|apply tn|apply bn
        refine Safe.region ?_
        refine Q0 E_good rfl (v := I (IntKind.i64.wrap (v396 + 1))) (.fn rfl) ?_
        refine Qf E_good ?_
        refine SafeOps.nil ?_
        repeat first|apply sq|apply sk|with_reducible first|apply tn|apply bn
        exact ⟨_, next_out h, (.cov ⟨rfl, rfl, (ut (ut (ut (ut (ut (ut upT_nil)))))), (uo (uo (uo (uo (uo upOb_nil))))), upOut_nil, rfl⟩)⟩
      ·skip
       refine Safe.condN rfl hc5841 ?_
       repeat first|apply sq|apply sk|with_reducible first|apply tn|apply bn
       refine Safe.exit ?_
       repeat (first | with_reducible refine thenQ.e ?_ | with_reducible refine blockQ.x rfl ?_ | with_reducible refine blockQ.y rfl ?_)
       replace h := inr_out h hr5840
       repeat first|apply sq|apply sk|with_reducible first|apply tn|apply bn
       refine Safe.region ?_
       refine Q0 E_good rfl (v := V.ptr [8] 0 4) (.fn rfl) ?_
       refine Q0 E_good rfl (v := V.mapr [50]) (.load rfl rfl (.box rfl rfl) rfl) ?_
       refine SafeOps.rangeM E_good rfl rfl rfl rfl rfl rfl rfl rfl (fun ms5844 ck5844 hl5844 hs5844 => ?_)
       replace hl5844 : ms5844.size = v397.length := by simpa [mps] using hl5844
       refine SafeOps.nil ?_
       repeat first|apply sq|apply sk|with_reducible first|apply tn|apply bn
       refine Safe.block ?_
       repeat first|apply sq|apply sk|with_reducible first|apply tn|apply bn
       refine bindG h ?_
       intro b400 hb5852 h05852
       refine Safe.loopM hb5852 hl5844 hs5844 (fun seen5852 => ⟨Try.f6.ntmps, [(7, V.bool x392), (8, V.ptr [8] 0 0), (132, V.itr [132])], [([8], Obj.box [V.ref [7000, 114, 8, 0] 0 (rws (fun n => [I n]) v401).length, I 0, I a360, V.ref [7000, 114, 8, 3] 0 (rws api_Hand.cells v402).length, V.mapr [50], I v393, I 0, V.bool v403]), ([50], Go.AM.Obj.gmap (mps (fun n : Int => I n) (fun n : Int => I n) v397) ms5844 ck5844), ([132], Go.AM.Obj.iter (some [50]) (mps (fun n : Int => I n) (fun n : Int => I n) v397) ms5844 ck5844 ck5844 seen5852), ([7000, 114, 8, 0], Obj.rows 1 (rws (fun n => [I n]) v401) false), ([7000, 114, 8, 3], Obj.rows 7 (rws api_Hand.cells v402) false)], [], []⟩) (.cov ⟨rfl, rfl, (ut (ut (ut upT_nil))), (uo (uo (uo (uo (uo upOb_nil))))), upOut_nil, rfl⟩) ?_
       intro seen5852 hF5852
       repeat first|apply sq|apply sk|with_reducible first|apply tn|apply bn
       refine Safe.region ?_
       refine SafeOps.nextM (fun n : Int => I n) (fun n : Int => I n) rfl rfl rfl rfl rfl rfl rfl (fun im5852 hi5852 k398 v399 hkv5852 hns5852 => ?_) (fun hall5852 => ?_)
       ·skip
        obtain ⟨c5852, hc5852, hcb5852⟩ := anyO_get hb5852 hi5852 hkv5852
        have h : (if (((decide (k398 < 1)) || (decide (k398 > v393))) || (v399 != 1)) = true then some true else some false) = some c5852 := hc5852
        refine Q0 E_good rfl (v := V.bool true) (.fn rfl) ?_
        refine SafeOps.nil ?_
        repeat first|apply sq|apply sk|with_reducible first|apply tn|apply bn
        refine Safe.condK rfl rfl ?_
        repeat first|apply sq|apply sk|with_reducible first|apply tn|apply bn
        refine Safe.block ?_
        repeat first|apply sq|apply sk|with_reducible first|apply tn|apply bn
        refine Safe.region ?_
        refine SafeOps.entryM (fun n : Int => I n) (fun n : Int => I n) (i := im5852) (k := k398) (v := v399) rfl rfl rfl rfl rfl rfl rfl hi5852 hkv5852 ?_
        refine Qf E_good ?_
        refine Qf E_good ?_
        refine Qf E_good ?_
        refine Qf E_good ?_
        refine SafeOps.nil ?_
        repeat first|apply sq|apply sk|with_reducible first|apply tn|apply bn
        refine Safe.region ?_
        refine Qf E_good ?_
        refine Q0 E_good rfl (v := V.bool (decide (k398 < 1))) (.fn rfl) ?_
        refine Qf E_good ?_
        refine SafeOps.bjoin 5 145 (b := ((decide (k398 < 1)) || (decide (k398 > v393)))) (b1 := true) (b0 := decide (k398 > v393)) (fun hc5856 K => ?_) (fun hc5856 K => ?_) bj_or ?_
        ·skip
         refine sF hc5856 ?_
         refine sF hc5856 ?_
         refine sF hc5856 ?_
         refine sF hc5856 ?_
         refine Q0 E_good rfl (v := V.bool true) (.pickK rfl hc5856 rfl) ?_
         exact SafeOps.drop' 5 rfl rfl rfl K
        ·skip
         refine qF E_good hc5856 (.fn rfl) ?_
         refine qF E_good hc5856 (v := V.ptr [8] 0 5) (.fn rfl) ?_
         refine qF E_good hc5856 (v := I v393) (.load rfl rfl (.box rfl rfl) rfl) ?_
         refine qF E_good hc5856 (v := V.bool (decide (k398 > v393))) (.fn rfl) ?_
         refine Q0 E_good rfl (v := V.bool (decide (k398 > v393))) (.pickK rfl hc5856 rfl) ?_
         exact SafeOps.drop' 5 rfl rfl rfl K
        refine Qf E_good ?_
        refine SafeOps.bjoin 3 149 (b := (((decide (k398 < 1)) || (decide (k398 > v393))) || (v399 != 1))) (b1 := true) (b0 := (v399 != 1)) (fun hc5857 K => ?_) (fun hc5857 K => ?_) bj_or ?_
        ·skip
         refine sF hc5857 ?_
         refine sF hc5857 ?_
         refine Q0 E_good rfl (v := V.bool true) (.pickK rfl hc5857 rfl) ?_
         exact SafeOps.drop' 3 rfl rfl rfl K
        ·skip
         refine qF E_good hc5857 (.fn rfl) ?_
         refine qF E_good hc5857 (v := V.bool (v399 != 1)) (.fn rfl) ?_
         refine Q0 E_good rfl (v := V.bool (v399 != 1)) (.pickK rfl hc5857 rfl) ?_
         exact SafeOps.drop' 3 rfl rfl rfl K
        refine SafeOps.nil ?_
        repeat first|apply sq|apply sk|with_reducible first|apply tn|apply bn
        refine ifG h (fun hc5858 h => ?_) (fun hc5858 h => ?_)
        ·skip
         refine Safe.condK rfl hc5858 ?_
         repeat first|apply sq|apply sk|with_reducible first|apply tn|apply bn
         refine Safe.region ?_
         refine Qf E_good ?_
         refine SafeOps.nil ?_
         repeat first|apply sq|apply sk|with_reducible first|apply tn|apply bn
         refine Safe.ret ?_
         repeat (first | with_reducible refine thenQ.r ?_ | with_reducible refine blockQ.r ?_)
         have hct5852 := (Option.some.inj h).symm
         replace h := ifT_out h05852 (hcb5852 hct5852)
         obtain rfl := Option.some.inj h
         exact retQ.gen (vs := [V.bool false]) rfl (.tmp rfl .nil) (.free rfl) (by simp) (.inr rfl)
        ·skip
         refine Safe.condN rfl hc5858 ?_
         repeat first|apply sq|apply sk|with_reducible first|apply tn|apply bn
         exact ⟨im5852, hi5852, k398, v399, hkv5852, hns5852, hc5852.trans h.symm, (.cov ⟨rfl, rfl, (ut (ut (ut upT_nil))), (uo (uo (uo (uo (uo upOb_nil))))), upOut_nil, rfl⟩)⟩
       ·skip
        replace h := ifF_out h05852 (anyO_none hb5852 (fun i hi => hF5852 i hi (hall5852 i hi)))
        refine Q0 E_good rfl (v := V.bool false) (.fn rfl) ?_
        refine SafeOps.nil ?_
        repeat first|apply sq|apply sk|with_reducible first|apply tn|apply bn
        refine Safe.ungm [50] rfl rfl ?_
        repeat first|apply sq|apply sk|with_reducible first|apply tn|apply bn
        refine Safe.condN rfl rfl ?_
        repeat first|apply sq|apply sk|with_reducible first|apply tn|apply bn
        refine Safe.exit ?_
        repeat (first | with_reducible refine thenQ.e ?_ | with_reducible refine blockQ.x rfl ?_ | with_reducible refine blockQ.y rfl ?_)
        repeat first|apply sq|apply sk|with_reducible first|apply tn|apply bn
        refine Safe.region ?_
        refine Qf E_good ?_
        refine Qf E_good ?_
        refine SafeOps.bjoin 7 158 (b := (x392 && ((v397.length : Int) == v393))) (b1 := ((v397.length : Int) == v393)) (b0 := false) (fun hc5859 K => ?_) (fun hc5859 K => ?_) bj_and ?_
        ·skip
         refine qT E_good hc5859 (v := V.ptr [8] 0 4) (.fn rfl) ?_
         refine qT E_good hc5859 (v := V.mapr [50]) (.load rfl rfl (.box rfl rfl) rfl) ?_
         refine qT E_good hc5859 (v := I (v397.length : Int)) (.lenMM (fk := (fun n : Int => I n)) (fv := (fun n : Int => I n)) (m := v397) rfl rfl rfl) ?_
         refine qT E_good hc5859 (v := V.ptr [8] 0 5) (.fn rfl) ?_
         refine qT E_good hc5859 (v := I v393) (.load rfl rfl (.box rfl rfl) rfl) ?_
         refine qT E_good hc5859 (v := V.bool ((v397.length : Int) == v393)) (.fn rfl) ?_
         refine Q0 E_good rfl (v := V.bool ((v397.length : Int) == v393)) (.pickK rfl hc5859 rfl) ?_
         exact SafeOps.drop' 7 rfl rfl rfl K
        ·skip
         refine sT hc5859 ?_
         refine sT hc5859 ?_
         refine sT hc5859 ?_
         refine sT hc5859 ?_
         refine sT hc5859 ?_
         refine sT hc5859 ?_
         refine Q0 E_good rfl (v := V.bool false) (.pickK rfl hc5859 rfl) ?_
         exact SafeOps.drop' 7 rfl rfl rfl K
        refine Qf E_good ?_
        refine SafeOps.nil ?_
        repeat first|apply sq|apply sk|with_reducible first|apply tn|apply bn
        refine Safe.ret ?_
        repeat (first | with_reducible refine thenQ.r ?_ | with_reducible refine blockQ.r ?_)
        obtain rfl := Option.some.inj h
        exact retQ.gen (vs := [V.bool (x392 && ((v397.length : Int) == v393))]) rfl (.tmp rfl .nil) (.free rfl) (by simp) (.inr rfl)
end Go.Proofs.Ytoapmmcoaggekaa
