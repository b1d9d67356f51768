/- Helper lemmas for the claim's theorem: an abstract machine over the model, proved sound; no condition beyond each lemma's own. -/
import Derived.Test.YtbcapidhhbkkcaaT3
set_option linter.unusedVariables false
set_option linter.unusedSimpArgs false
set_option linter.unnecessarySimpa false
set_option linter.unusedSectionVars false
namespace Go.Proofs.Ytbcapidhhbkkcaa
open Go Go.AM
set_option maxRecDepth 100000
set_option maxHeartbeats 1000000
set_option linter.unusedVariables false
set_option linter.unusedSimpArgs false
variable {gl : List (Nat × List V)}
noncomputable def go_ravellaw08_HeapTimes_j14 (v36_6608 : Int) (v4_6699 : List api_Timer) (vm_6700 : List (Int × Int)) : Option (((List api_Timer) × Int × (List (Int × Int))) ⊕ (Bool)) :=
  (go_heap_Check v4_6699).bind fun x_6702 =>
  if ((x_6702 != 0) || ((v4_6699.length : Int) != (vm_6700.length : Int))) = true then
    inrO (
      some false)
  else
    nextO (v4_6699, IntKind.i64.wrap (v36_6608 + 1), vm_6700)

noncomputable def go_ravellaw08_HeapTimes_s16 (a0_5683 : List ravellaw08_Op) (v36_6608 : Int) (x_6733 : List Int) (x_6734 : List api_Timer) : (Int × (List (Int × Int)) × Int × Int) → Option ((Int × (List (Int × Int)) × Int × Int) ⊕ (((List api_Timer) × Int × (List (Int × Int))) ⊕ (Bool)))
  | (v63_6776, vm_6777, v200_6778, v201_6779) =>
    if (decide (v63_6776 < (x_6733.length : Int))) = true then
      if 0 ≤ v63_6776 ∧ v63_6776 < (x_6733.length : Int) then
        if (((!((mget vm_6777 (gt x_6733 v63_6776)).isSome)) || (decide (((mget vm_6777 (gt x_6733 v63_6776)).getD 0) > ((gt a0_5683 v36_6608).At)))) || (!(go_ravelref08_Less (api_Timer.mk v200_6778 v201_6779) (api_Timer.mk ((mget vm_6777 (gt x_6733 v63_6776)).getD 0) (gt x_6733 v63_6776))))) = true then
          inrO (
            inrO (
              some false))
        else
          nextO (IntKind.i64.wrap (v63_6776 + 1), mdel vm_6777 (gt x_6733 v63_6776), ((mget vm_6777 (gt x_6733 v63_6776)).getD 0), (gt x_6733 v63_6776))
      else none
    else
      inrO (
        (anyO (fun k_6789 v_6790 =>
            if (decide (v_6790 ≤ ((gt a0_5683 v36_6608).At))) = true then
              some true
            else
              some false) vm_6777).bind fun b_6788 =>
        if b_6788 = true then
          inrO (
            some false)
        else
          go_ravellaw08_HeapTimes_j14 v36_6608 x_6734 vm_6777)

noncomputable def go_ravellaw08_HeapTimes_s11 (a0_5683 : List ravellaw08_Op) (x_6238 : Bool) : ((List api_Timer) × Int × (List (Int × Int))) → Option (((List api_Timer) × Int × (List (Int × Int))) ⊕ (Bool))
  | (v4_6607, v36_6608, vm_6609) =>
    if (decide (v36_6608 < (a0_5683.length : Int))) = true then
      if 0 ≤ v36_6608 ∧ v36_6608 < (a0_5683.length : Int) then
        if ((Int.tmod ((gt a0_5683 v36_6608).Kind) 4) == 0) = true then
          (go_heap_Add v4_6607 (api_Timer.mk ((gt a0_5683 v36_6608).At) ((gt a0_5683 v36_6608).Id))).bind fun (x_6707, x_6708) =>
          if (((!((((decide (((gt a0_5683 v36_6608).Id) < 0)) || (decide (((gt a0_5683 v36_6608).At) < 0))) || (decide (((gt a0_5683 v36_6608).At) > 1125899906842624))) == (x_6708 == 1))) || ((!(((decide (((gt a0_5683 v36_6608).Id) < 0)) || (decide (((gt a0_5683 v36_6608).At) < 0))) || (decide (((gt a0_5683 v36_6608).At) > 1125899906842624)))) && (!(((mget vm_6609 ((gt a0_5683 v36_6608).Id)).isSome) == (x_6708 == 6))))) || (x_6708 == 7)) = true then
            inrO (
              some false)
          else
            if (x_6708 == 0) = true then
              go_ravellaw08_HeapTimes_j14 v36_6608 x_6707 (mput vm_6609 ((gt a0_5683 v36_6608).Id) ((gt a0_5683 v36_6608).At))
            else
              go_ravellaw08_HeapTimes_j14 v36_6608 v4_6607 vm_6609
        else
          if ((Int.tmod ((gt a0_5683 v36_6608).Kind) 4) == 1) = true then
            (go_heap_Cancel v4_6607 ((gt a0_5683 v36_6608).Id)).bind fun (x_6718, x_6719) =>
            if ((!((x_6719 == 0) == ((mget vm_6609 ((gt a0_5683 v36_6608).Id)).isSome))) || ((x_6719 != 0) && (x_6719 != 5))) = true then
              inrO (
                some false)
            else
              if (x_6719 == 0) = true then
                go_ravellaw08_HeapTimes_j14 v36_6608 x_6718 (mdel vm_6609 ((gt a0_5683 v36_6608).Id))
              else
                go_ravellaw08_HeapTimes_j14 v36_6608 v4_6607 vm_6609
          else
            if ((Int.tmod ((gt a0_5683 v36_6608).Kind) 4) == 2) = true then
              (go_heap_Reset v4_6607 ((gt a0_5683 v36_6608).Id) ((gt a0_5683 v36_6608).At)).bind fun (x_6726, x_6727) =>
              if (!((x_6727 == 0) == ((((mget vm_6609 ((gt a0_5683 v36_6608).Id)).isSome) && (decide (((gt a0_5683 v36_6608).At) ≥ 0))) && (decide (((gt a0_5683 v36_6608).At) ≤ 1125899906842624))))) = true then
                inrO (
                  some false)
              else
                if (x_6727 == 0) = true then
                  go_ravellaw08_HeapTimes_j14 v36_6608 x_6726 (mput vm_6609 ((gt a0_5683 v36_6608).Id) ((gt a0_5683 v36_6608).At))
                else
                  go_ravellaw08_HeapTimes_j14 v36_6608 v4_6607 vm_6609
            else
              (go_heap_Expire v4_6607 ((gt a0_5683 v36_6608).At)).bind fun (x_6733, x_6734, x_6735) =>
              if (x_6735 != 0) = true then
                inrO (
                  some false)
              else
                whileO (go_ravellaw08_HeapTimes_s16 a0_5683 v36_6608 x_6733 x_6734) (0, vm_6609, -1, 0)
      else none
    else
      inrO (
        some x_6238)

noncomputable def go_ravellaw08_HeapTimes (a0_5683 : List ravellaw08_Op) : Option Bool :=
  (go_ravellaw08_live).bind fun x_6238 =>
  if (!x_6238) = true then
    some false
  else
    if (decide ((a0_5683.length : Int) > 120)) = true then
      some x_6238
    else
      whileO (go_ravellaw08_HeapTimes_s11 a0_5683 x_6238) ([], 0, [])

theorem go_ravellaw08_HeapTimes_sc (a0_5683 : List ravellaw08_Op) (r : Bool) (h : go_ravellaw08_HeapTimes a0_5683 = some r) : SC Try.prog gl 4 [V.sl 3 (rws ravellaw08_Op.cells a0_5683)] (V.bool r) := by
  rw [go_ravellaw08_HeapTimes] at h
  refine SC.of E_good Try.func4 rfl (fun _ _ => Try.call4 _ _) rfl ?_
  repeat (first | refine Safe.seq ?_ | refine Safe.skip ?_ | with_reducible refine thenQ.n ?_ | with_reducible refine blockQ.n ?_)
  refine Safe.region ?_
  refine SafeOps.quiet0 E_good rfl rfl rfl (v := V.bool false) (.fn rfl) ?_
  refine SafeOps.nil ?_
  repeat (first | refine Safe.seq ?_ | refine Safe.skip ?_ | with_reducible refine thenQ.n ?_ | with_reducible refine blockQ.n ?_)
  refine Safe.region ?_
  refine bindG h ?_
  intro x_6238 he6239 h
  refine SafeOps.quiet0 E_good rfl rfl rfl (v := V.bool x_6238) (.callP rfl rfl (go_ravellaw08_live_sc  _ he6239) rfl) ?_
  refine SafeOps.quiet0 E_good rfl rfl rfl (v := V.bool x_6238) (.fn rfl) ?_
  refine SafeOps.nil ?_
  repeat (first | refine Safe.seq ?_ | refine Safe.skip ?_ | with_reducible refine thenQ.n ?_ | with_reducible refine blockQ.n ?_)
  refine Safe.region ?_
  refine SafeOps.quiet0 E_good rfl rfl rfl (v := V.bool x_6238) (.fn rfl) ?_
  refine SafeOps.quiet0 E_good rfl rfl rfl (v := V.bool (!x_6238)) (.fn rfl) ?_
  refine SafeOps.nil ?_
  repeat (first | refine Safe.seq ?_ | refine Safe.skip ?_ | with_reducible refine thenQ.n ?_ | with_reducible refine blockQ.n ?_)
  refine ifG h (fun hc6240 h => ?_) (fun hc6240 h => ?_)
  · skip
    refine Safe.condK rfl hc6240 ?_
    repeat (first | refine Safe.seq ?_ | refine Safe.skip ?_ | with_reducible refine thenQ.n ?_ | with_reducible refine blockQ.n ?_)
    refine Safe.region ?_
    refine SafeOps.quiet0 E_good rfl rfl rfl (v := V.bool false) (.fn rfl) ?_
    refine SafeOps.nil ?_
    repeat (first | refine Safe.seq ?_ | refine Safe.skip ?_ | with_reducible refine thenQ.n ?_ | with_reducible refine blockQ.n ?_)
    refine Safe.ret ?_
    repeat (first | with_reducible refine thenQ.r ?_ | with_reducible refine blockQ.r ?_)
    obtain rfl := Option.some.inj h
    exact retQ.gen (vs := [V.bool false]) rfl (.tmp (v := V.bool false) rfl .nil) (.free rfl) (by simp) (.inr rfl)
  · skip
    refine Safe.condN rfl hc6240 ?_
    repeat (first | refine Safe.seq ?_ | refine Safe.skip ?_ | with_reducible refine thenQ.n ?_ | with_reducible refine blockQ.n ?_)
    refine Safe.region ?_
    refine SafeOps.quiet0 E_good rfl rfl rfl (v := V.sl 3 (rws ravellaw08_Op.cells a0_5683)) (.fn rfl) ?_
    refine SafeOps.quiet0 E_good rfl rfl rfl (v := V.int .i64 (a0_5683.length : Int)) (.fnE rfl lenE) ?_
    refine SafeOps.quiet0 E_good rfl rfl rfl (v := V.bool (decide ((a0_5683.length : Int) > 120))) (.fn rfl) ?_
    refine SafeOps.nil ?_
    repeat (first | refine Safe.seq ?_ | refine Safe.skip ?_ | with_reducible refine thenQ.n ?_ | with_reducible refine blockQ.n ?_)
    refine ifG h (fun hc6241 h => ?_) (fun hc6241 h => ?_)
    · skip
      refine Safe.condK rfl hc6241 ?_
      repeat (first | refine Safe.seq ?_ | refine Safe.skip ?_ | with_reducible refine thenQ.n ?_ | with_reducible refine blockQ.n ?_)
      refine Safe.region ?_
      refine SafeOps.quiet0 E_good rfl rfl rfl (v := V.bool x_6238) (.fn rfl) ?_
      refine SafeOps.quiet0 E_good rfl rfl rfl (v := V.bool x_6238) (.fn rfl) ?_
      refine SafeOps.nil ?_
      repeat (first | refine Safe.seq ?_ | refine Safe.skip ?_ | with_reducible refine thenQ.n ?_ | with_reducible refine blockQ.n ?_)
      refine Safe.ret ?_
      repeat (first | with_reducible refine thenQ.r ?_ | with_reducible refine blockQ.r ?_)
      obtain rfl := Option.some.inj h
      exact retQ.gen (vs := [V.bool x_6238]) rfl (.tmp (v := V.bool x_6238) rfl .nil) (.free rfl) (by simp) (.inr rfl)
    · skip
      refine Safe.condN rfl hc6241 ?_
      repeat (first | refine Safe.seq ?_ | refine Safe.skip ?_ | with_reducible refine thenQ.n ?_ | with_reducible refine blockQ.n ?_)
      refine Safe.region ?_
      refine SafeOps.quiet0 E_good rfl rfl rfl (v := V.nils) (.fn rfl) ?_
      refine SafeOps.nil ?_
      repeat (first | refine Safe.seq ?_ | refine Safe.skip ?_ | with_reducible refine thenQ.n ?_ | with_reducible refine blockQ.n ?_)
      refine Safe.region ?_
      refine SafeOps.quiet1 E_good rfl rfl rfl (.mkMapM (fun n : Int => V.int .i64 n) (fun n : Int => V.int .i64 n)) rfl ?_
      refine SafeOps.quiet0 E_good rfl rfl rfl (v := V.mapr [33]) (.fn rfl) ?_
      refine SafeOps.nil ?_
      repeat (first | refine Safe.seq ?_ | refine Safe.skip ?_ | with_reducible refine thenQ.n ?_ | with_reducible refine blockQ.n ?_)
      refine Safe.region ?_
      refine SafeOps.quiet0 E_good rfl rfl rfl (v := V.sl 3 (rws ravellaw08_Op.cells a0_5683)) (.fn rfl) ?_
      refine SafeOps.quiet0 E_good rfl rfl rfl (v := V.int .i64 (a0_5683.length : Int)) (.fnE rfl lenE) ?_
      refine SafeOps.quiet0 E_good rfl rfl rfl (v := V.int .i64 0) (.fn rfl) ?_
      refine SafeOps.nil ?_
      repeat (first | refine Safe.seq ?_ | refine Safe.skip ?_ | with_reducible refine thenQ.n ?_ | with_reducible refine blockQ.n ?_)
      refine Safe.block ?_
      repeat (first | refine Safe.seq ?_ | refine Safe.skip ?_ | with_reducible refine thenQ.n ?_ | with_reducible refine blockQ.n ?_)
      refine Safe.loopW (fun ((v4_6607, v36_6608, vm_6609) : (List api_Timer) × Int × (List (Int × Int))) => ⟨Try.f4.ntmps, [(3, V.bool x_6238), (4, V.ref [7000, 118, 4] 0 (rws api_Timer.cells v4_6607).length), (5, V.mapr [33]), (34, V.sl 3 (rws ravellaw08_Op.cells a0_5683)), (35, V.int .i64 (a0_5683.length : Int)), (36, V.int .i64 v36_6608)], [([33], Go.AM.Obj.map (mps (fun n : Int => V.int .i64 n) (fun n : Int => V.int .i64 n) vm_6609)), ([7000, 118, 4], Obj.rows 2 (rws api_Timer.cells v4_6607) false)], [], []⟩) h (.empty [7000, 118, 4] 2 rfl (.cov ⟨rfl, rfl, (upT_cons (.refl _) (upT_cons (.nilref _) (upT_cons (.refl _) (upT_cons (.refl _) (upT_cons (.refl _) (upT_cons (.refl _) upT_nil)))))), (upOb_cons rfl (.refl _) (upOb_cons rfl (.refl _) upOb_nil)), upOut_nil, rfl⟩)) ?_
      rintro ⟨v4_6607, v36_6608, vm_6609⟩ ohr6610 h hr6610
      replace h : go_ravellaw08_HeapTimes_s11 a0_5683 x_6238 (v4_6607, v36_6608, vm_6609) = some ohr6610 := h
      rw [go_ravellaw08_HeapTimes_s11] at h
      repeat (first | refine Safe.seq ?_ | refine Safe.skip ?_ | with_reducible refine thenQ.n ?_ | with_reducible refine blockQ.n ?_)
      refine Safe.region ?_
      refine SafeOps.quiet0 E_good rfl rfl rfl (v := V.bool (decide (v36_6608 < (a0_5683.length : Int)))) (.fn rfl) ?_
      refine SafeOps.nil ?_
      repeat (first | refine Safe.seq ?_ | refine Safe.skip ?_ | with_reducible refine thenQ.n ?_ | with_reducible refine blockQ.n ?_)
      refine ifG h (fun hc6611 h => ?_) (fun hc6611 h => ?_)
      · skip
        refine Safe.condK rfl hc6611 ?_
        repeat (first | refine Safe.seq ?_ | refine Safe.skip ?_ | with_reducible refine thenQ.n ?_ | with_reducible refine blockQ.n ?_)
        refine Safe.block ?_
        repeat (first | refine Safe.seq ?_ | refine Safe.skip ?_ | with_reducible refine thenQ.n ?_ | with_reducible refine blockQ.n ?_)
        refine Safe.region ?_
        refine okG h (fun hb6612 h => ?_)
        refine SafeOps.quiet0 E_good rfl rfl rfl (v := V.spt 3 (rws ravellaw08_Op.cells a0_5683) (Int.toNat v36_6608) 0) (.idxSlM (f := ravellaw08_Op.cells) rfl rfl rfl rfl rfl hb6612) ?_
        refine SafeOps.quiet0 E_good rfl rfl rfl (v := V.agg [V.int .i64 ((gt a0_5683 v36_6608).Kind), V.int .i64 ((gt a0_5683 v36_6608).Id), V.int .i64 ((gt a0_5683 v36_6608).At)]) (.load rfl rfl (.sptM (f := ravellaw08_Op.cells) hb6612 rfl) rfl) ?_
        refine SafeOps.quiet1 E_good rfl rfl rfl (.alloc rfl rfl) rfl ?_
        refine SafeOps.store (z := Obj.box [V.int .i64 ((gt a0_5683 v36_6608).Kind), V.int .i64 ((gt a0_5683 v36_6608).Id), V.int .i64 ((gt a0_5683 v36_6608).At)]) E_good rfl rfl rfl rfl rfl rfl rfl (.boxM (c := 3) rfl rfl (Nat.le_of_ble_eq_true rfl) rfl) ?_
        refine SafeOps.nil ?_
        repeat (first | refine Safe.seq ?_ | refine Safe.skip ?_ | with_reducible refine thenQ.n ?_ | with_reducible refine blockQ.n ?_)
        refine Safe.region ?_
        refine SafeOps.quiet0 E_good rfl rfl rfl (v := V.mapr [33]) (.fn rfl) ?_
        refine SafeOps.quiet0 E_good rfl rfl rfl (v := V.ptr [7] 0 1) (.fn rfl) ?_
        refine SafeOps.quiet0 E_good rfl rfl rfl (v := V.int .i64 ((gt a0_5683 v36_6608).Id)) (.load rfl rfl (.box rfl rfl) rfl) ?_
        refine SafeOps.quiet0 E_good rfl rfl rfl (v := V.tup [V.int .i64 ((mget vm_6609 ((gt a0_5683 v36_6608).Id)).getD 0), V.bool ((mget vm_6609 ((gt a0_5683 v36_6608).Id)).isSome)]) (.lookM2 (fv := (fun n : Int => V.int .i64 n)) (m := vm_6609) (kk := (gt a0_5683 v36_6608).Id) (z0 := 0) (keyI .i64) rfl rfl rfl rfl rfl rfl rfl rfl rfl rfl) ?_
        refine SafeOps.quiet0 E_good rfl rfl rfl (v := V.tup [V.int .i64 ((mget vm_6609 ((gt a0_5683 v36_6608).Id)).getD 0), V.bool ((mget vm_6609 ((gt a0_5683 v36_6608).Id)).isSome)]) (.fn rfl) ?_
        refine SafeOps.quiet0 E_good rfl rfl rfl (v := V.int .i64 ((mget vm_6609 ((gt a0_5683 v36_6608).Id)).getD 0)) (.fn rfl) ?_
        refine SafeOps.quiet0 E_good rfl rfl rfl (v := V.bool ((mget vm_6609 ((gt a0_5683 v36_6608).Id)).isSome)) (.fn rfl) ?_
        refine SafeOps.quiet0 E_good rfl rfl rfl (v := V.int .i64 ((mget vm_6609 ((gt a0_5683 v36_6608).Id)).getD 0)) (.fn rfl) ?_
        refine SafeOps.quiet0 E_good rfl rfl rfl (v := V.bool ((mget vm_6609 ((gt a0_5683 v36_6608).Id)).isSome)) (.fn rfl) ?_
        refine SafeOps.nil ?_
        repeat (first | refine Safe.seq ?_ | refine Safe.skip ?_ | with_reducible refine thenQ.n ?_ | with_reducible refine blockQ.n ?_)
        refine Safe.region ?_
        refine SafeOps.quiet0 E_good rfl rfl rfl (v := V.ptr [7] 0 0) (.fn rfl) ?_
        refine SafeOps.quiet0 E_good rfl rfl rfl (v := V.int .i64 ((gt a0_5683 v36_6608).Kind)) (.load rfl rfl (.box rfl rfl) rfl) ?_
        refine SafeOps.quiet0 E_good rfl rfl rfl (v := V.int .i64 (Int.tmod ((gt a0_5683 v36_6608).Kind) 4)) (.remV rfl rfl (by decide)) ?_
        refine SafeOps.nil ?_
        repeat (first | refine Safe.seq ?_ | refine Safe.skip ?_ | with_reducible refine thenQ.n ?_ | with_reducible refine blockQ.n ?_)
        refine Safe.joinT (fun ((v4_6699, vm_6700) : (List api_Timer) × (List (Int × Int))) => go_ravellaw08_HeapTimes_j14 v36_6608 v4_6699 vm_6700 = some ohr6610) (fun ((v4_6699, vm_6700) : (List api_Timer) × (List (Int × Int))) => ⟨Try.f4.ntmps, [(3, V.bool x_6238), (4, V.ref [7000, 118, 4] 0 (rws api_Timer.cells v4_6699).length), (5, V.mapr [33]), (34, V.sl 3 (rws ravellaw08_Op.cells a0_5683)), (35, V.int .i64 (a0_5683.length : Int)), (36, V.int .i64 v36_6608)], [([33], Go.AM.Obj.map (mps (fun n : Int => V.int .i64 n) (fun n : Int => V.int .i64 n) vm_6700)), ([7000, 118, 4], Obj.rows 2 (rws api_Timer.cells v4_6699) false)], [], []⟩) ?_ (fun HJ6701 => ?_)
        · rintro ⟨v4_6699, vm_6700⟩ h
          replace h : go_ravellaw08_HeapTimes_j14 v36_6608 v4_6699 vm_6700 = some ohr6610 := h
          rw [go_ravellaw08_HeapTimes_j14] at h
          repeat (first | refine Safe.seq ?_ | refine Safe.skip ?_ | with_reducible refine thenQ.n ?_ | with_reducible refine blockQ.n ?_)
          refine Safe.region ?_
          refine SafeOps.quiet0 E_good rfl rfl rfl (v := V.ref [7000, 118, 4] 0 (rws api_Timer.cells v4_6699).length) (.fn rfl) ?_
          refine bindG h ?_
          intro x_6702 he6703 h
          refine SafeOps.quiet0 E_good rfl rfl rfl (v := V.int .i64 x_6702) (.callS rfl (.cons (.full rfl rfl) .nil) (go_heap_Check_sc v4_6699 _ he6703) (.plain rfl) rfl) ?_
          refine SafeOps.quiet0 E_good rfl rfl rfl (v := V.bool (x_6702 != 0)) (.fn rfl) ?_
          refine SafeOps.quiet0 E_good rfl rfl rfl (v := V.bool (x_6702 != 0)) (.fn rfl) ?_
          refine SafeOps.bjoin 6 225 (b := ((x_6702 != 0) || ((v4_6699.length : Int) != (vm_6700.length : Int)))) (b1 := true) (b0 := ((v4_6699.length : Int) != (vm_6700.length : Int))) (fun hc6704 K => ?_) (fun hc6704 K => ?_) bj_or ?_
          · skip
            refine SafeOps.skip (congrArg (fun b => some (!b)) hc6704) rfl rfl ?_
            refine SafeOps.skip (congrArg (fun b => some (!b)) hc6704) rfl rfl ?_
            refine SafeOps.skip (congrArg (fun b => some (!b)) hc6704) rfl rfl ?_
            refine SafeOps.skip (congrArg (fun b => some (!b)) hc6704) rfl rfl ?_
            refine SafeOps.skip (congrArg (fun b => some (!b)) hc6704) rfl rfl ?_
            refine SafeOps.quiet0 E_good rfl rfl rfl (v := V.bool true) (.pickK rfl hc6704 rfl) ?_
            exact SafeOps.drop' 6 rfl rfl rfl K
          · skip
            refine SafeOps.quiet0 E_good (congrArg (fun b => some (!b)) hc6704) rfl rfl (v := V.ref [7000, 118, 4] 0 (rws api_Timer.cells v4_6699).length) (.fn rfl) ?_
            refine SafeOps.quiet0 E_good (congrArg (fun b => some (!b)) hc6704) rfl rfl (v := V.int .i64 (v4_6699.length : Int)) (.fnE rfl lenE) ?_
            refine SafeOps.quiet0 E_good (congrArg (fun b => some (!b)) hc6704) rfl rfl (v := V.mapr [33]) (.fn rfl) ?_
            refine SafeOps.quiet0 E_good (congrArg (fun b => some (!b)) hc6704) rfl rfl (v := V.int .i64 (vm_6700.length : Int)) (.lenMM (fk := (fun n : Int => V.int .i64 n)) (fv := (fun n : Int => V.int .i64 n)) (m := vm_6700) rfl rfl rfl) ?_
            refine SafeOps.quiet0 E_good (congrArg (fun b => some (!b)) hc6704) rfl rfl (v := V.bool ((v4_6699.length : Int) != (vm_6700.length : Int))) (.fn rfl) ?_
            refine SafeOps.quiet0 E_good rfl rfl rfl (v := V.bool ((v4_6699.length : Int) != (vm_6700.length : Int))) (.pickK rfl hc6704 rfl) ?_
            exact SafeOps.drop' 6 rfl rfl rfl K
          refine SafeOps.nil ?_
          repeat (first | refine Safe.seq ?_ | refine Safe.skip ?_ | with_reducible refine thenQ.n ?_ | with_reducible refine blockQ.n ?_)
          refine ifG h (fun hc6705 h => ?_) (fun hc6705 h => ?_)
          · skip
            refine Safe.condK rfl hc6705 ?_
            repeat (first | refine Safe.seq ?_ | refine Safe.skip ?_ | with_reducible refine thenQ.n ?_ | with_reducible refine blockQ.n ?_)
            refine Safe.region ?_
            refine SafeOps.quiet0 E_good rfl rfl rfl (v := V.bool false) (.fn rfl) ?_
            refine SafeOps.nil ?_
            repeat (first | refine Safe.seq ?_ | refine Safe.skip ?_ | with_reducible refine thenQ.n ?_ | with_reducible refine blockQ.n ?_)
            refine Safe.ret ?_
            repeat (first | with_reducible refine thenQ.r ?_ | with_reducible refine blockQ.r ?_)
            replace h := inr_out h hr6610
            obtain rfl := Option.some.inj h
            exact retQ.gen (vs := [V.bool false]) rfl (.tmp (v := V.bool false) rfl .nil) (.free rfl) (by simp) (.inr rfl)
          · skip
            refine Safe.condN rfl hc6705 ?_
            repeat (first | refine Safe.seq ?_ | refine Safe.skip ?_ | with_reducible refine thenQ.n ?_ | with_reducible refine blockQ.n ?_)
            refine Safe.region ?_
            refine SafeOps.quiet0 E_good rfl rfl rfl (v := V.int .i64 (IntKind.i64.wrap (v36_6608 + 1))) (.fn rfl) ?_
            refine SafeOps.quiet0 E_good rfl rfl rfl (v := V.int .i64 (IntKind.i64.wrap (v36_6608 + 1))) (.fn rfl) ?_
            refine SafeOps.nil ?_
            repeat (first | refine Safe.seq ?_ | refine Safe.skip ?_ | with_reducible refine thenQ.n ?_ | with_reducible refine blockQ.n ?_)
            exact ⟨_, next_out h, (.cov ⟨rfl, rfl, (upT_cons (.refl _) (upT_cons (.refl _) (upT_cons (.refl _) (upT_cons (.refl _) (upT_cons (.refl _) (upT_cons (.refl _) upT_nil)))))), (upOb_cons rfl (.refl _) (upOb_cons rfl (.refl _) upOb_nil)), upOut_nil, rfl⟩)⟩
        · skip
          refine Safe.block ?_
          repeat (first | refine Safe.seq ?_ | refine Safe.skip ?_ | with_reducible refine thenQ.n ?_ | with_reducible refine blockQ.n ?_)
          refine Safe.region ?_
          refine SafeOps.quiet0 E_good rfl rfl rfl (v := V.bool ((Int.tmod ((gt a0_5683 v36_6608).Kind) 4) == 0)) (.fn rfl) ?_
          refine SafeOps.quiet0 E_good rfl rfl rfl (v := V.bool ((Int.tmod ((gt a0_5683 v36_6608).Kind) 4) == 0)) (.fn rfl) ?_
          refine SafeOps.nil ?_
          repeat (first | refine Safe.seq ?_ | refine Safe.skip ?_ | with_reducible refine thenQ.n ?_ | with_reducible refine blockQ.n ?_)
          refine ifG h (fun hc6706 h => ?_) (fun hc6706 h => ?_)
          · skip
            refine Safe.condK rfl hc6706 ?_
            repeat (first | refine Safe.seq ?_ | refine Safe.skip ?_ | with_reducible refine thenQ.n ?_ | with_reducible refine blockQ.n ?_)
            refine Safe.region ?_
            refine SafeOps.quiet0 E_good rfl rfl rfl (v := V.ref [7000, 118, 4] 0 (rws api_Timer.cells v4_6607).length) (.fn rfl) ?_
            refine SafeOps.quiet0 E_good rfl rfl rfl (v := V.ptr [7] 0 2) (.fn rfl) ?_
            refine SafeOps.quiet0 E_good rfl rfl rfl (v := V.int .i64 ((gt a0_5683 v36_6608).At)) (.load rfl rfl (.box rfl rfl) rfl) ?_
            refine SafeOps.quiet0 E_good rfl rfl rfl (v := V.ptr [7] 0 1) (.fn rfl) ?_
            refine SafeOps.quiet0 E_good rfl rfl rfl (v := V.int .i64 ((gt a0_5683 v36_6608).Id)) (.load rfl rfl (.box rfl rfl) rfl) ?_
            refine SafeOps.quiet0 E_good rfl rfl rfl (v := V.agg [V.int .i64 ((gt a0_5683 v36_6608).At), V.int .i64 ((gt a0_5683 v36_6608).Id)]) (.fn rfl) ?_
            refine bindG h ?_
            rintro ⟨x_6707, x_6708⟩ he6709 h
            refine SafeOps.quiet E_good rfl rfl rfl (v := V.tup [V.ref [114, 0] 0 (rws api_Timer.cells x_6707).length, V.int .i64 x_6708]) (.callS rfl (.cons (.full rfl rfl) (.cons (.free rfl) .nil)) (go_heap_Add_sc v4_6607 (api_Timer.mk ((gt a0_5683 v36_6608).At) ((gt a0_5683 v36_6608).Id)) _ he6709) (.tupL (.cons (.ownM (fun _ => rfl)) (.cons (.plain rfl) .nil))) rfl) rfl ?_
            refine SafeOps.quiet0 E_good rfl rfl rfl (v := V.tup [V.ref [114, 0] 0 (rws api_Timer.cells x_6707).length, V.int .i64 x_6708]) (.fn rfl) ?_
            refine SafeOps.quiet0 E_good rfl rfl rfl (v := V.ref [114, 0] 0 (rws api_Timer.cells x_6707).length) (.fn rfl) ?_
            refine SafeOps.quiet0 E_good rfl rfl rfl (v := V.int .i64 x_6708) (.fn rfl) ?_
            refine SafeOps.quiet0 E_good rfl rfl rfl (v := V.ref [114, 0] 0 (rws api_Timer.cells x_6707).length) (.fn rfl) ?_
            refine SafeOps.quiet0 E_good rfl rfl rfl (v := V.int .i64 x_6708) (.fn rfl) ?_
            refine SafeOps.nil ?_
            repeat (first | refine Safe.seq ?_ | refine Safe.skip ?_ | with_reducible refine thenQ.n ?_ | with_reducible refine blockQ.n ?_)
            refine Safe.region ?_
            refine SafeOps.quiet0 E_good rfl rfl rfl (v := V.ptr [7] 0 1) (.fn rfl) ?_
            refine SafeOps.quiet0 E_good rfl rfl rfl (v := V.int .i64 ((gt a0_5683 v36_6608).Id)) (.load rfl rfl (.box rfl rfl) rfl) ?_
            refine SafeOps.quiet0 E_good rfl rfl rfl (v := V.bool (decide (((gt a0_5683 v36_6608).Id) < 0))) (.fn rfl) ?_
            refine SafeOps.quiet0 E_good rfl rfl rfl (v := V.bool (decide (((gt a0_5683 v36_6608).Id) < 0))) (.fn rfl) ?_
            refine SafeOps.bjoin 4 124 (b := ((decide (((gt a0_5683 v36_6608).Id) < 0)) || (decide (((gt a0_5683 v36_6608).At) < 0)))) (b1 := true) (b0 := decide (((gt a0_5683 v36_6608).At) < 0)) (fun hc6710 K => ?_) (fun hc6710 K => ?_) bj_or ?_
            · skip
              refine SafeOps.skip (congrArg (fun b => some (!b)) hc6710) rfl rfl ?_
              refine SafeOps.skip (congrArg (fun b => some (!b)) hc6710) rfl rfl ?_
              refine SafeOps.skip (congrArg (fun b => some (!b)) hc6710) rfl rfl ?_
              refine SafeOps.quiet0 E_good rfl rfl rfl (v := V.bool true) (.pickK rfl hc6710 rfl) ?_
              exact SafeOps.drop' 4 rfl rfl rfl K
            · skip
              refine SafeOps.quiet0 E_good (congrArg (fun b => some (!b)) hc6710) rfl rfl (v := V.ptr [7] 0 2) (.fn rfl) ?_
              refine SafeOps.quiet0 E_good (congrArg (fun b => some (!b)) hc6710) rfl rfl (v := V.int .i64 ((gt a0_5683 v36_6608).At)) (.load rfl rfl (.box rfl rfl) rfl) ?_
              refine SafeOps.quiet0 E_good (congrArg (fun b => some (!b)) hc6710) rfl rfl (v := V.bool (decide (((gt a0_5683 v36_6608).At) < 0))) (.fn rfl) ?_
              refine SafeOps.quiet0 E_good rfl rfl rfl (v := V.bool (decide (((gt a0_5683 v36_6608).At) < 0))) (.pickK rfl hc6710 rfl) ?_
              exact SafeOps.drop' 4 rfl rfl rfl K
            refine SafeOps.quiet0 E_good rfl rfl rfl (v := V.bool ((decide (((gt a0_5683 v36_6608).Id) < 0)) || (decide (((gt a0_5683 v36_6608).At) < 0)))) (.fn rfl) ?_
            refine SafeOps.bjoin 4 129 (b := (((decide (((gt a0_5683 v36_6608).Id) < 0)) || (decide (((gt a0_5683 v36_6608).At) < 0))) || (decide (((gt a0_5683 v36_6608).At) > 1125899906842624)))) (b1 := true) (b0 := decide (((gt a0_5683 v36_6608).At) > 1125899906842624)) (fun hc6711 K => ?_) (fun hc6711 K => ?_) bj_or ?_
            · skip
              refine SafeOps.skip (congrArg (fun b => some (!b)) hc6711) rfl rfl ?_
              refine SafeOps.skip (congrArg (fun b => some (!b)) hc6711) rfl rfl ?_
              refine SafeOps.skip (congrArg (fun b => some (!b)) hc6711) rfl rfl ?_
              refine SafeOps.quiet0 E_good rfl rfl rfl (v := V.bool true) (.pickK rfl hc6711 rfl) ?_
              exact SafeOps.drop' 4 rfl rfl rfl K
            · skip
              refine SafeOps.quiet0 E_good (congrArg (fun b => some (!b)) hc6711) rfl rfl (v := V.ptr [7] 0 2) (.fn rfl) ?_
              refine SafeOps.quiet0 E_good (congrArg (fun b => some (!b)) hc6711) rfl rfl (v := V.int .i64 ((gt a0_5683 v36_6608).At)) (.load rfl rfl (.box rfl rfl) rfl) ?_
              refine SafeOps.quiet0 E_good (congrArg (fun b => some (!b)) hc6711) rfl rfl (v := V.bool (decide (((gt a0_5683 v36_6608).At) > 1125899906842624))) (.fn rfl) ?_
              refine SafeOps.quiet0 E_good rfl rfl rfl (v := V.bool (decide (((gt a0_5683 v36_6608).At) > 1125899906842624))) (.pickK rfl hc6711 rfl) ?_
              exact SafeOps.drop' 4 rfl rfl rfl K
            refine SafeOps.quiet0 E_good rfl rfl rfl (v := V.bool (((decide (((gt a0_5683 v36_6608).Id) < 0)) || (decide (((gt a0_5683 v36_6608).At) < 0))) || (decide (((gt a0_5683 v36_6608).At) > 1125899906842624)))) (.fn rfl) ?_
            refine SafeOps.nil ?_
            repeat (first | refine Safe.seq ?_ | refine Safe.skip ?_ | with_reducible refine thenQ.n ?_ | with_reducible refine blockQ.n ?_)
            refine Safe.region ?_
            refine SafeOps.quiet0 E_good rfl rfl rfl (v := V.bool (((decide (((gt a0_5683 v36_6608).Id) < 0)) || (decide (((gt a0_5683 v36_6608).At) < 0))) || (decide (((gt a0_5683 v36_6608).At) > 1125899906842624)))) (.fn rfl) ?_
            refine SafeOps.quiet0 E_good rfl rfl rfl (v := V.int .i64 x_6708) (.fn rfl) ?_
            refine SafeOps.quiet0 E_good rfl rfl rfl (v := V.bool (x_6708 == 1)) (.fn rfl) ?_
            refine SafeOps.quiet0 E_good rfl rfl rfl (v := V.bool (!((((decide (((gt a0_5683 v36_6608).Id) < 0)) || (decide (((gt a0_5683 v36_6608).At) < 0))) || (decide (((gt a0_5683 v36_6608).At) > 1125899906842624))) == (x_6708 == 1)))) (.fn rfl) ?_
            refine SafeOps.quiet0 E_good rfl rfl rfl (v := V.bool (!((((decide (((gt a0_5683 v36_6608).Id) < 0)) || (decide (((gt a0_5683 v36_6608).At) < 0))) || (decide (((gt a0_5683 v36_6608).At) > 1125899906842624))) == (x_6708 == 1)))) (.fn rfl) ?_
            refine SafeOps.bjoin 9 143 (b := ((!((((decide (((gt a0_5683 v36_6608).Id) < 0)) || (decide (((gt a0_5683 v36_6608).At) < 0))) || (decide (((gt a0_5683 v36_6608).At) > 1125899906842624))) == (x_6708 == 1))) || ((!(((decide (((gt a0_5683 v36_6608).Id) < 0)) || (decide (((gt a0_5683 v36_6608).At) < 0))) || (decide (((gt a0_5683 v36_6608).At) > 1125899906842624)))) && (!(((mget vm_6609 ((gt a0_5683 v36_6608).Id)).isSome) == (x_6708 == 6)))))) (b1 := true) (b0 := ((!(((decide (((gt a0_5683 v36_6608).Id) < 0)) || (decide (((gt a0_5683 v36_6608).At) < 0))) || (decide (((gt a0_5683 v36_6608).At) > 1125899906842624)))) && (!(((mget vm_6609 ((gt a0_5683 v36_6608).Id)).isSome) == (x_6708 == 6))))) (fun hc6712 K => ?_) (fun hc6712 K => ?_) bj_or ?_
            · skip
              refine SafeOps.skip (congrArg (fun b => some (!b)) hc6712) rfl rfl ?_
              refine SafeOps.skip (congrArg (fun b => some (!b)) hc6712) rfl rfl ?_
              refine SafeOps.skip (congrArg (fun b => some (!b)) hc6712) rfl rfl ?_
              refine SafeOps.skip rfl rfl rfl ?_
              refine SafeOps.skip rfl rfl rfl ?_
              refine SafeOps.skip rfl rfl rfl ?_
              refine SafeOps.skip rfl rfl rfl ?_
              refine SafeOps.skip (congrArg (fun b => some (!b)) hc6712) rfl rfl ?_
              refine SafeOps.quiet0 E_good rfl rfl rfl (v := V.bool true) (.pickK rfl hc6712 rfl) ?_
              exact SafeOps.drop' 9 rfl rfl rfl K
            · skip
              refine SafeOps.quiet0 E_good (congrArg (fun b => some (!b)) hc6712) rfl rfl (v := V.bool (((decide (((gt a0_5683 v36_6608).Id) < 0)) || (decide (((gt a0_5683 v36_6608).At) < 0))) || (decide (((gt a0_5683 v36_6608).At) > 1125899906842624)))) (.fn rfl) ?_
              refine SafeOps.quiet0 E_good (congrArg (fun b => some (!b)) hc6712) rfl rfl (v := V.bool (!(((decide (((gt a0_5683 v36_6608).Id) < 0)) || (decide (((gt a0_5683 v36_6608).At) < 0))) || (decide (((gt a0_5683 v36_6608).At) > 1125899906842624))))) (.fn rfl) ?_
              refine SafeOps.quiet0 E_good (congrArg (fun b => some (!b)) hc6712) rfl rfl (v := V.bool (!(((decide (((gt a0_5683 v36_6608).Id) < 0)) || (decide (((gt a0_5683 v36_6608).At) < 0))) || (decide (((gt a0_5683 v36_6608).At) > 1125899906842624))))) (.fn rfl) ?_
              refine SafeOps.bjoin 5 142 (b := ((!(((decide (((gt a0_5683 v36_6608).Id) < 0)) || (decide (((gt a0_5683 v36_6608).At) < 0))) || (decide (((gt a0_5683 v36_6608).At) > 1125899906842624)))) && (!(((mget vm_6609 ((gt a0_5683 v36_6608).Id)).isSome) == (x_6708 == 6))))) (b1 := (!(((mget vm_6609 ((gt a0_5683 v36_6608).Id)).isSome) == (x_6708 == 6)))) (b0 := false) (fun hc6713 K => ?_) (fun hc6713 K => ?_) bj_and ?_
              · skip
                refine SafeOps.quiet0 E_good (congrArg some hc6713) rfl rfl (v := V.bool ((mget vm_6609 ((gt a0_5683 v36_6608).Id)).isSome)) (.fn rfl) ?_
                refine SafeOps.quiet0 E_good (congrArg some hc6713) rfl rfl (v := V.int .i64 x_6708) (.fn rfl) ?_
                refine SafeOps.quiet0 E_good (congrArg some hc6713) rfl rfl (v := V.bool (x_6708 == 6)) (.fn rfl) ?_
                refine SafeOps.quiet0 E_good (congrArg some hc6713) rfl rfl (v := V.bool (!(((mget vm_6609 ((gt a0_5683 v36_6608).Id)).isSome) == (x_6708 == 6)))) (.fn rfl) ?_
                refine SafeOps.quiet0 E_good (congrArg (fun b => some (!b)) hc6712) rfl rfl (v := V.bool (!(((mget vm_6609 ((gt a0_5683 v36_6608).Id)).isSome) == (x_6708 == 6)))) (.pickK rfl hc6713 rfl) ?_
                exact SafeOps.drop' 5 rfl rfl rfl K
              · skip
                refine SafeOps.skip (congrArg some hc6713) rfl rfl ?_
                refine SafeOps.skip (congrArg some hc6713) rfl rfl ?_
                refine SafeOps.skip (congrArg some hc6713) rfl rfl ?_
                refine SafeOps.skip (congrArg some hc6713) rfl rfl ?_
                refine SafeOps.quiet0 E_good (congrArg (fun b => some (!b)) hc6712) rfl rfl (v := V.bool false) (.pickK rfl hc6713 rfl) ?_
                exact SafeOps.drop' 5 rfl rfl rfl K
              refine SafeOps.quiet0 E_good rfl rfl rfl (v := V.bool ((!(((decide (((gt a0_5683 v36_6608).Id) < 0)) || (decide (((gt a0_5683 v36_6608).At) < 0))) || (decide (((gt a0_5683 v36_6608).At) > 1125899906842624)))) && (!(((mget vm_6609 ((gt a0_5683 v36_6608).Id)).isSome) == (x_6708 == 6))))) (.pickK rfl hc6712 rfl) ?_
              exact SafeOps.drop' 5 rfl rfl rfl K
            refine SafeOps.quiet0 E_good rfl rfl rfl (v := V.bool ((!((((decide (((gt a0_5683 v36_6608).Id) < 0)) || (decide (((gt a0_5683 v36_6608).At) < 0))) || (decide (((gt a0_5683 v36_6608).At) > 1125899906842624))) == (x_6708 == 1))) || ((!(((decide (((gt a0_5683 v36_6608).Id) < 0)) || (decide (((gt a0_5683 v36_6608).At) < 0))) || (decide (((gt a0_5683 v36_6608).At) > 1125899906842624)))) && (!(((mget vm_6609 ((gt a0_5683 v36_6608).Id)).isSome) == (x_6708 == 6)))))) (.fn rfl) ?_
            refine SafeOps.bjoin 3 147 (b := (((!((((decide (((gt a0_5683 v36_6608).Id) < 0)) || (decide (((gt a0_5683 v36_6608).At) < 0))) || (decide (((gt a0_5683 v36_6608).At) > 1125899906842624))) == (x_6708 == 1))) || ((!(((decide (((gt a0_5683 v36_6608).Id) < 0)) || (decide (((gt a0_5683 v36_6608).At) < 0))) || (decide (((gt a0_5683 v36_6608).At) > 1125899906842624)))) && (!(((mget vm_6609 ((gt a0_5683 v36_6608).Id)).isSome) == (x_6708 == 6))))) || (x_6708 == 7))) (b1 := true) (b0 := (x_6708 == 7)) (fun hc6714 K => ?_) (fun hc6714 K => ?_) bj_or ?_
            · skip
              refine SafeOps.skip (congrArg (fun b => some (!b)) hc6714) rfl rfl ?_
              refine SafeOps.skip (congrArg (fun b => some (!b)) hc6714) rfl rfl ?_
              refine SafeOps.quiet0 E_good rfl rfl rfl (v := V.bool true) (.pickK rfl hc6714 rfl) ?_
              exact SafeOps.drop' 3 rfl rfl rfl K
            · skip
              refine SafeOps.quiet0 E_good (congrArg (fun b => some (!b)) hc6714) rfl rfl (v := V.int .i64 x_6708) (.fn rfl) ?_
              refine SafeOps.quiet0 E_good (congrArg (fun b => some (!b)) hc6714) rfl rfl (v := V.bool (x_6708 == 7)) (.fn rfl) ?_
              refine SafeOps.quiet0 E_good rfl rfl rfl (v := V.bool (x_6708 == 7)) (.pickK rfl hc6714 rfl) ?_
              exact SafeOps.drop' 3 rfl rfl rfl K
            refine SafeOps.nil ?_
            repeat (first | refine Safe.seq ?_ | refine Safe.skip ?_ | with_reducible refine thenQ.n ?_ | with_reducible refine blockQ.n ?_)
            refine ifG h (fun hc6715 h => ?_) (fun hc6715 h => ?_)
            · skip
              refine Safe.condK rfl hc6715 ?_
              repeat (first | refine Safe.seq ?_ | refine Safe.skip ?_ | with_reducible refine thenQ.n ?_ | with_reducible refine blockQ.n ?_)
              refine Safe.region ?_
              refine SafeOps.quiet0 E_good rfl rfl rfl (v := V.bool false) (.fn rfl) ?_
              refine SafeOps.nil ?_
              repeat (first | refine Safe.seq ?_ | refine Safe.skip ?_ | with_reducible refine thenQ.n ?_ | with_reducible refine blockQ.n ?_)
              refine Safe.ret ?_
              repeat (first | with_reducible refine thenQ.r ?_ | with_reducible refine blockQ.r ?_)
              replace h := inr_out h hr6610
              obtain rfl := Option.some.inj h
              exact retQ.gen (vs := [V.bool false]) rfl (.tmp (v := V.bool false) rfl .nil) (.free rfl) (by simp) (.inr rfl)
            · skip
              refine Safe.condN rfl hc6715 ?_
              repeat (first | refine Safe.seq ?_ | refine Safe.skip ?_ | with_reducible refine thenQ.n ?_ | with_reducible refine blockQ.n ?_)
              refine Safe.region ?_
              refine SafeOps.quiet0 E_good rfl rfl rfl (v := V.int .i64 x_6708) (.fn rfl) ?_
              refine SafeOps.quiet0 E_good rfl rfl rfl (v := V.bool (x_6708 == 0)) (.fn rfl) ?_
              refine SafeOps.nil ?_
              repeat (first | refine Safe.seq ?_ | refine Safe.skip ?_ | with_reducible refine thenQ.n ?_ | with_reducible refine blockQ.n ?_)
              refine ifG h (fun hc6716 h => ?_) (fun hc6716 h => ?_)
              · skip
                refine Safe.condK rfl hc6716 ?_
                repeat (first | refine Safe.seq ?_ | refine Safe.skip ?_ | with_reducible refine thenQ.n ?_ | with_reducible refine blockQ.n ?_)
                refine Safe.region ?_
                refine SafeOps.quiet0 E_good rfl rfl rfl (v := V.ref [114, 0] 0 (rws api_Timer.cells x_6707).length) (.fn rfl) ?_
                refine SafeOps.quiet0 E_good rfl rfl rfl (v := V.ref [114, 0] 0 (rws api_Timer.cells x_6707).length) (.fn rfl) ?_
                refine SafeOps.nil ?_
                repeat (first | refine Safe.seq ?_ | refine Safe.skip ?_ | with_reducible refine thenQ.n ?_ | with_reducible refine blockQ.n ?_)
                refine Safe.region ?_
                refine SafeOps.quiet0 E_good rfl rfl rfl (v := V.mapr [33]) (.fn rfl) ?_
                refine SafeOps.quiet0 E_good rfl rfl rfl (v := V.ptr [7] 0 1) (.fn rfl) ?_
                refine SafeOps.quiet0 E_good rfl rfl rfl (v := V.int .i64 ((gt a0_5683 v36_6608).Id)) (.load rfl rfl (.box rfl rfl) rfl) ?_
                refine SafeOps.quiet0 E_good rfl rfl rfl (v := V.ptr [7] 0 2) (.fn rfl) ?_
                refine SafeOps.quiet0 E_good rfl rfl rfl (v := V.int .i64 ((gt a0_5683 v36_6608).At)) (.load rfl rfl (.box rfl rfl) rfl) ?_
                refine SafeOps.mputM (fun n : Int => V.int .i64 n) (fun n : Int => V.int .i64 n) vm_6609 ((gt a0_5683 v36_6608).Id) ((gt a0_5683 v36_6608).At) E_good (keyI .i64) rfl (.inl rfl) rfl rfl rfl rfl rfl rfl rfl rfl rfl ?_
                refine SafeOps.nil ?_
                repeat (first | refine Safe.skip ?_ | with_reducible refine thenQ.n ?_ | with_reducible refine blockQ.n ?_)
                exact Safe.got (HJ6701 (x_6707, mput vm_6609 ((gt a0_5683 v36_6608).Id) ((gt a0_5683 v36_6608).At)) h) (.ren [114, 0] [7000, 118, 4] (.cov ⟨rfl, rfl, (upT_cons (.refl _) (upT_cons (.refl _) (upT_cons (.refl _) (upT_cons (.refl _) (upT_cons (.refl _) (upT_cons (.refl _) upT_nil)))))), (upOb_cons rfl (.refl _) (upOb_cons rfl (.refl _) upOb_nil)), upOut_nil, rfl⟩))
              · skip
                refine Safe.condN rfl hc6716 ?_
                repeat (first | refine Safe.skip ?_ | with_reducible refine thenQ.n ?_ | with_reducible refine blockQ.n ?_)
                exact Safe.got (HJ6701 (v4_6607, vm_6609) h) (.cov ⟨rfl, rfl, (upT_cons (.refl _) (upT_cons (.refl _) (upT_cons (.refl _) (upT_cons (.refl _) (upT_cons (.refl _) (upT_cons (.refl _) upT_nil)))))), (upOb_cons rfl (.refl _) (upOb_cons rfl (.refl _) upOb_nil)), upOut_nil, rfl⟩)
          · skip
            refine Safe.condN rfl hc6706 ?_
            repeat (first | refine Safe.seq ?_ | refine Safe.skip ?_ | with_reducible refine thenQ.n ?_ | with_reducible refine blockQ.n ?_)
            refine Safe.region ?_
            refine SafeOps.quiet0 E_good rfl rfl rfl (v := V.bool ((Int.tmod ((gt a0_5683 v36_6608).Kind) 4) == 1)) (.fn rfl) ?_
            refine SafeOps.quiet0 E_good rfl rfl rfl (v := V.bool ((Int.tmod ((gt a0_5683 v36_6608).Kind) 4) == 1)) (.fn rfl) ?_
            refine SafeOps.nil ?_
            repeat (first | refine Safe.seq ?_ | refine Safe.skip ?_ | with_reducible refine thenQ.n ?_ | with_reducible refine blockQ.n ?_)
            refine ifG h (fun hc6717 h => ?_) (fun hc6717 h => ?_)
            · skip
              refine Safe.condK rfl hc6717 ?_
              repeat (first | refine Safe.seq ?_ | refine Safe.skip ?_ | with_reducible refine thenQ.n ?_ | with_reducible refine blockQ.n ?_)
              refine Safe.region ?_
              refine SafeOps.quiet0 E_good rfl rfl rfl (v := V.ref [7000, 118, 4] 0 (rws api_Timer.cells v4_6607).length) (.fn rfl) ?_
              refine SafeOps.quiet0 E_good rfl rfl rfl (v := V.ptr [7] 0 1) (.fn rfl) ?_
              refine SafeOps.quiet0 E_good rfl rfl rfl (v := V.int .i64 ((gt a0_5683 v36_6608).Id)) (.load rfl rfl (.box rfl rfl) rfl) ?_
              refine bindG h ?_
              rintro ⟨x_6718, x_6719⟩ he6720 h
              refine SafeOps.quiet E_good rfl rfl rfl (v := V.tup [V.ref [162, 0] 0 (rws api_Timer.cells x_6718).length, V.int .i64 x_6719]) (.callS rfl (.cons (.full rfl rfl) (.cons (.free rfl) .nil)) (go_heap_Cancel_sc v4_6607 ((gt a0_5683 v36_6608).Id) _ he6720) (.tupL (.cons (.ownM (fun _ => rfl)) (.cons (.plain rfl) .nil))) rfl) rfl ?_
              refine SafeOps.quiet0 E_good rfl rfl rfl (v := V.tup [V.ref [162, 0] 0 (rws api_Timer.cells x_6718).length, V.int .i64 x_6719]) (.fn rfl) ?_
              refine SafeOps.quiet0 E_good rfl rfl rfl (v := V.ref [162, 0] 0 (rws api_Timer.cells x_6718).length) (.fn rfl) ?_
              refine SafeOps.quiet0 E_good rfl rfl rfl (v := V.int .i64 x_6719) (.fn rfl) ?_
              refine SafeOps.quiet0 E_good rfl rfl rfl (v := V.ref [162, 0] 0 (rws api_Timer.cells x_6718).length) (.fn rfl) ?_
              refine SafeOps.quiet0 E_good rfl rfl rfl (v := V.int .i64 x_6719) (.fn rfl) ?_
              refine SafeOps.nil ?_
              repeat (first | refine Safe.seq ?_ | refine Safe.skip ?_ | with_reducible refine thenQ.n ?_ | with_reducible refine blockQ.n ?_)
              refine Safe.region ?_
              refine SafeOps.quiet0 E_good rfl rfl rfl (v := V.int .i64 x_6719) (.fn rfl) ?_
              refine SafeOps.quiet0 E_good rfl rfl rfl (v := V.bool (x_6719 == 0)) (.fn rfl) ?_
              refine SafeOps.quiet0 E_good rfl rfl rfl (v := V.bool ((mget vm_6609 ((gt a0_5683 v36_6608).Id)).isSome)) (.fn rfl) ?_
              refine SafeOps.quiet0 E_good rfl rfl rfl (v := V.bool (!((x_6719 == 0) == ((mget vm_6609 ((gt a0_5683 v36_6608).Id)).isSome)))) (.fn rfl) ?_
              refine SafeOps.quiet0 E_good rfl rfl rfl (v := V.bool (!((x_6719 == 0) == ((mget vm_6609 ((gt a0_5683 v36_6608).Id)).isSome)))) (.fn rfl) ?_
              refine SafeOps.bjoin 7 176 (b := ((!((x_6719 == 0) == ((mget vm_6609 ((gt a0_5683 v36_6608).Id)).isSome))) || ((x_6719 != 0) && (x_6719 != 5)))) (b1 := true) (b0 := ((x_6719 != 0) && (x_6719 != 5))) (fun hc6721 K => ?_) (fun hc6721 K => ?_) bj_or ?_
              · skip
                refine SafeOps.skip (congrArg (fun b => some (!b)) hc6721) rfl rfl ?_
                refine SafeOps.skip (congrArg (fun b => some (!b)) hc6721) rfl rfl ?_
                refine SafeOps.skip (congrArg (fun b => some (!b)) hc6721) rfl rfl ?_
                refine SafeOps.skip rfl rfl rfl ?_
                refine SafeOps.skip rfl rfl rfl ?_
                refine SafeOps.skip (congrArg (fun b => some (!b)) hc6721) rfl rfl ?_
                refine SafeOps.quiet0 E_good rfl rfl rfl (v := V.bool true) (.pickK rfl hc6721 rfl) ?_
                exact SafeOps.drop' 7 rfl rfl rfl K
              · skip
                refine SafeOps.quiet0 E_good (congrArg (fun b => some (!b)) hc6721) rfl rfl (v := V.int .i64 x_6719) (.fn rfl) ?_
                refine SafeOps.quiet0 E_good (congrArg (fun b => some (!b)) hc6721) rfl rfl (v := V.bool (x_6719 != 0)) (.fn rfl) ?_
                refine SafeOps.quiet0 E_good (congrArg (fun b => some (!b)) hc6721) rfl rfl (v := V.bool (x_6719 != 0)) (.fn rfl) ?_
                refine SafeOps.bjoin 3 175 (b := ((x_6719 != 0) && (x_6719 != 5))) (b1 := (x_6719 != 5)) (b0 := false) (fun hc6722 K => ?_) (fun hc6722 K => ?_) bj_and ?_
                · skip
                  refine SafeOps.quiet0 E_good (congrArg some hc6722) rfl rfl (v := V.int .i64 x_6719) (.fn rfl) ?_
                  refine SafeOps.quiet0 E_good (congrArg some hc6722) rfl rfl (v := V.bool (x_6719 != 5)) (.fn rfl) ?_
                  refine SafeOps.quiet0 E_good (congrArg (fun b => some (!b)) hc6721) rfl rfl (v := V.bool (x_6719 != 5)) (.pickK rfl hc6722 rfl) ?_
                  exact SafeOps.drop' 3 rfl rfl rfl K
                · skip
                  refine SafeOps.skip (congrArg some hc6722) rfl rfl ?_
                  refine SafeOps.skip (congrArg some hc6722) rfl rfl ?_
                  refine SafeOps.quiet0 E_good (congrArg (fun b => some (!b)) hc6721) rfl rfl (v := V.bool false) (.pickK rfl hc6722 rfl) ?_
                  exact SafeOps.drop' 3 rfl rfl rfl K
                refine SafeOps.quiet0 E_good rfl rfl rfl (v := V.bool ((x_6719 != 0) && (x_6719 != 5))) (.pickK rfl hc6721 rfl) ?_
                exact SafeOps.drop' 5 rfl rfl rfl K
              refine SafeOps.nil ?_
              repeat (first | refine Safe.seq ?_ | refine Safe.skip ?_ | with_reducible refine thenQ.n ?_ | with_reducible refine blockQ.n ?_)
              refine ifG h (fun hc6723 h => ?_) (fun hc6723 h => ?_)
              · skip
                refine Safe.condK rfl hc6723 ?_
                repeat (first | refine Safe.seq ?_ | refine Safe.skip ?_ | with_reducible refine thenQ.n ?_ | with_reducible refine blockQ.n ?_)
                refine Safe.region ?_
                refine SafeOps.quiet0 E_good rfl rfl rfl (v := V.bool false) (.fn rfl) ?_
                refine SafeOps.nil ?_
                repeat (first | refine Safe.seq ?_ | refine Safe.skip ?_ | with_reducible refine thenQ.n ?_ | with_reducible refine blockQ.n ?_)
                refine Safe.ret ?_
                repeat (first | with_reducible refine thenQ.r ?_ | with_reducible refine blockQ.r ?_)
                replace h := inr_out h hr6610
                obtain rfl := Option.some.inj h
                exact retQ.gen (vs := [V.bool false]) rfl (.tmp (v := V.bool false) rfl .nil) (.free rfl) (by simp) (.inr rfl)
              · skip
                refine Safe.condN rfl hc6723 ?_
                repeat (first | refine Safe.seq ?_ | refine Safe.skip ?_ | with_reducible refine thenQ.n ?_ | with_reducible refine blockQ.n ?_)
                refine Safe.region ?_
                refine SafeOps.quiet0 E_good rfl rfl rfl (v := V.int .i64 x_6719) (.fn rfl) ?_
                refine SafeOps.quiet0 E_good rfl rfl rfl (v := V.bool (x_6719 == 0)) (.fn rfl) ?_
                refine SafeOps.nil ?_
                repeat (first | refine Safe.seq ?_ | refine Safe.skip ?_ | with_reducible refine thenQ.n ?_ | with_reducible refine blockQ.n ?_)
                refine ifG h (fun hc6724 h => ?_) (fun hc6724 h => ?_)
                · skip
                  refine Safe.condK rfl hc6724 ?_
                  repeat (first | refine Safe.seq ?_ | refine Safe.skip ?_ | with_reducible refine thenQ.n ?_ | with_reducible refine blockQ.n ?_)
                  refine Safe.region ?_
                  refine SafeOps.quiet0 E_good rfl rfl rfl (v := V.ref [162, 0] 0 (rws api_Timer.cells x_6718).length) (.fn rfl) ?_
                  refine SafeOps.quiet0 E_good rfl rfl rfl (v := V.ref [162, 0] 0 (rws api_Timer.cells x_6718).length) (.fn rfl) ?_
                  refine SafeOps.nil ?_
                  repeat (first | refine Safe.seq ?_ | refine Safe.skip ?_ | with_reducible refine thenQ.n ?_ | with_reducible refine blockQ.n ?_)
                  refine Safe.region ?_
                  refine SafeOps.quiet0 E_good rfl rfl rfl (v := V.mapr [33]) (.fn rfl) ?_
                  refine SafeOps.quiet0 E_good rfl rfl rfl (v := V.ptr [7] 0 1) (.fn rfl) ?_
                  refine SafeOps.quiet0 E_good rfl rfl rfl (v := V.int .i64 ((gt a0_5683 v36_6608).Id)) (.load rfl rfl (.box rfl rfl) rfl) ?_
                  refine SafeOps.mdelM (fun n : Int => V.int .i64 n) (fun n : Int => V.int .i64 n) vm_6609 ((gt a0_5683 v36_6608).Id) E_good (keyI .i64) rfl rfl rfl rfl rfl rfl rfl rfl rfl ?_
                  refine SafeOps.nil ?_
                  repeat (first | refine Safe.skip ?_ | with_reducible refine thenQ.n ?_ | with_reducible refine blockQ.n ?_)
                  exact Safe.got (HJ6701 (x_6718, mdel vm_6609 ((gt a0_5683 v36_6608).Id)) h) (.ren [162, 0] [7000, 118, 4] (.cov ⟨rfl, rfl, (upT_cons (.refl _) (upT_cons (.refl _) (upT_cons (.refl _) (upT_cons (.refl _) (upT_cons (.refl _) (upT_cons (.refl _) upT_nil)))))), (upOb_cons rfl (.refl _) (upOb_cons rfl (.refl _) upOb_nil)), upOut_nil, rfl⟩))
                · skip
                  refine Safe.condN rfl hc6724 ?_
                  repeat (first | refine Safe.skip ?_ | with_reducible refine thenQ.n ?_ | with_reducible refine blockQ.n ?_)
                  exact Safe.got (HJ6701 (v4_6607, vm_6609) h) (.cov ⟨rfl, rfl, (upT_cons (.refl _) (upT_cons (.refl _) (upT_cons (.refl _) (upT_cons (.refl _) (upT_cons (.refl _) (upT_cons (.refl _) upT_nil)))))), (upOb_cons rfl (.refl _) (upOb_cons rfl (.refl _) upOb_nil)), upOut_nil, rfl⟩)
            · skip
              refine Safe.condN rfl hc6717 ?_
              repeat (first | refine Safe.seq ?_ | refine Safe.skip ?_ | with_reducible refine thenQ.n ?_ | with_reducible refine blockQ.n ?_)
              refine Safe.region ?_
              refine SafeOps.quiet0 E_good rfl rfl rfl (v := V.bool ((Int.tmod ((gt a0_5683 v36_6608).Kind) 4) == 2)) (.fn rfl) ?_
              refine SafeOps.quiet0 E_good rfl rfl rfl (v := V.bool ((Int.tmod ((gt a0_5683 v36_6608).Kind) 4) == 2)) (.fn rfl) ?_
              refine SafeOps.nil ?_
              repeat (first | refine Safe.seq ?_ | refine Safe.skip ?_ | with_reducible refine thenQ.n ?_ | with_reducible refine blockQ.n ?_)
              refine ifG h (fun hc6725 h => ?_) (fun hc6725 h => ?_)
              · skip
                refine Safe.condK rfl hc6725 ?_
                repeat (first | refine Safe.seq ?_ | refine Safe.skip ?_ | with_reducible refine thenQ.n ?_ | with_reducible refine blockQ.n ?_)
                refine Safe.region ?_
                refine SafeOps.quiet0 E_good rfl rfl rfl (v := V.ref [7000, 118, 4] 0 (rws api_Timer.cells v4_6607).length) (.fn rfl) ?_
                refine SafeOps.quiet0 E_good rfl rfl rfl (v := V.ptr [7] 0 1) (.fn rfl) ?_
                refine SafeOps.quiet0 E_good rfl rfl rfl (v := V.int .i64 ((gt a0_5683 v36_6608).Id)) (.load rfl rfl (.box rfl rfl) rfl) ?_
                refine SafeOps.quiet0 E_good rfl rfl rfl (v := V.ptr [7] 0 2) (.fn rfl) ?_
                refine SafeOps.quiet0 E_good rfl rfl rfl (v := V.int .i64 ((gt a0_5683 v36_6608).At)) (.load rfl rfl (.box rfl rfl) rfl) ?_
                refine bindG h ?_
                rintro ⟨x_6726, x_6727⟩ he6728 h
                refine SafeOps.quiet E_good rfl rfl rfl (v := V.tup [V.ref [191, 0] 0 (rws api_Timer.cells x_6726).length, V.int .i64 x_6727]) (.callS rfl (.cons (.full rfl rfl) (.cons (.free rfl) (.cons (.free rfl) .nil))) (go_heap_Reset_sc v4_6607 ((gt a0_5683 v36_6608).Id) ((gt a0_5683 v36_6608).At) _ he6728) (.tupL (.cons (.ownM (fun _ => rfl)) (.cons (.plain rfl) .nil))) rfl) rfl ?_
                refine SafeOps.quiet0 E_good rfl rfl rfl (v := V.tup [V.ref [191, 0] 0 (rws api_Timer.cells x_6726).length, V.int .i64 x_6727]) (.fn rfl) ?_
                refine SafeOps.quiet0 E_good rfl rfl rfl (v := V.ref [191, 0] 0 (rws api_Timer.cells x_6726).length) (.fn rfl) ?_
                refine SafeOps.quiet0 E_good rfl rfl rfl (v := V.int .i64 x_6727) (.fn rfl) ?_
                refine SafeOps.quiet0 E_good rfl rfl rfl (v := V.ref [191, 0] 0 (rws api_Timer.cells x_6726).length) (.fn rfl) ?_
                refine SafeOps.quiet0 E_good rfl rfl rfl (v := V.int .i64 x_6727) (.fn rfl) ?_
                refine SafeOps.nil ?_
                repeat (first | refine Safe.seq ?_ | refine Safe.skip ?_ | with_reducible refine thenQ.n ?_ | with_reducible refine blockQ.n ?_)
                refine Safe.region ?_
                refine SafeOps.quiet0 E_good rfl rfl rfl (v := V.int .i64 x_6727) (.fn rfl) ?_
                refine SafeOps.quiet0 E_good rfl rfl rfl (v := V.bool (x_6727 == 0)) (.fn rfl) ?_
                refine SafeOps.quiet0 E_good rfl rfl rfl (v := V.bool ((mget vm_6609 ((gt a0_5683 v36_6608).Id)).isSome)) (.fn rfl) ?_
                refine SafeOps.quiet0 E_good rfl rfl rfl (v := V.bool ((mget vm_6609 ((gt a0_5683 v36_6608).Id)).isSome)) (.fn rfl) ?_
                refine SafeOps.bjoin 4 201 (b := (((mget vm_6609 ((gt a0_5683 v36_6608).Id)).isSome) && (decide (((gt a0_5683 v36_6608).At) ≥ 0)))) (b1 := decide (((gt a0_5683 v36_6608).At) ≥ 0)) (b0 := false) (fun hc6729 K => ?_) (fun hc6729 K => ?_) bj_and ?_
                · skip
                  refine SafeOps.quiet0 E_good (congrArg some hc6729) rfl rfl (v := V.ptr [7] 0 2) (.fn rfl) ?_
                  refine SafeOps.quiet0 E_good (congrArg some hc6729) rfl rfl (v := V.int .i64 ((gt a0_5683 v36_6608).At)) (.load rfl rfl (.box rfl rfl) rfl) ?_
                  refine SafeOps.quiet0 E_good (congrArg some hc6729) rfl rfl (v := V.bool (decide (((gt a0_5683 v36_6608).At) ≥ 0))) (.fn rfl) ?_
                  refine SafeOps.quiet0 E_good rfl rfl rfl (v := V.bool (decide (((gt a0_5683 v36_6608).At) ≥ 0))) (.pickK rfl hc6729 rfl) ?_
                  exact SafeOps.drop' 4 rfl rfl rfl K
                · skip
                  refine SafeOps.skip (congrArg some hc6729) rfl rfl ?_
                  refine SafeOps.skip (congrArg some hc6729) rfl rfl ?_
                  refine SafeOps.skip (congrArg some hc6729) rfl rfl ?_
                  refine SafeOps.quiet0 E_good rfl rfl rfl (v := V.bool false) (.pickK rfl hc6729 rfl) ?_
                  exact SafeOps.drop' 4 rfl rfl rfl K
                refine SafeOps.quiet0 E_good rfl rfl rfl (v := V.bool (((mget vm_6609 ((gt a0_5683 v36_6608).Id)).isSome) && (decide (((gt a0_5683 v36_6608).At) ≥ 0)))) (.fn rfl) ?_
                refine SafeOps.bjoin 4 206 (b := ((((mget vm_6609 ((gt a0_5683 v36_6608).Id)).isSome) && (decide (((gt a0_5683 v36_6608).At) ≥ 0))) && (decide (((gt a0_5683 v36_6608).At) ≤ 1125899906842624)))) (b1 := decide (((gt a0_5683 v36_6608).At) ≤ 1125899906842624)) (b0 := false) (fun hc6730 K => ?_) (fun hc6730 K => ?_) bj_and ?_
                · skip
                  refine SafeOps.quiet0 E_good (congrArg some hc6730) rfl rfl (v := V.ptr [7] 0 2) (.fn rfl) ?_
                  refine SafeOps.quiet0 E_good (congrArg some hc6730) rfl rfl (v := V.int .i64 ((gt a0_5683 v36_6608).At)) (.load rfl rfl (.box rfl rfl) rfl) ?_
                  refine SafeOps.quiet0 E_good (congrArg some hc6730) rfl rfl (v := V.bool (decide (((gt a0_5683 v36_6608).At) ≤ 1125899906842624))) (.fn rfl) ?_
                  refine SafeOps.quiet0 E_good rfl rfl rfl (v := V.bool (decide (((gt a0_5683 v36_6608).At) ≤ 1125899906842624))) (.pickK rfl hc6730 rfl) ?_
                  exact SafeOps.drop' 4 rfl rfl rfl K
                · skip
                  refine SafeOps.skip (congrArg some hc6730) rfl rfl ?_
                  refine SafeOps.skip (congrArg some hc6730) rfl rfl ?_
                  refine SafeOps.skip (congrArg some hc6730) rfl rfl ?_
                  refine SafeOps.quiet0 E_good rfl rfl rfl (v := V.bool false) (.pickK rfl hc6730 rfl) ?_
                  exact SafeOps.drop' 4 rfl rfl rfl K
                refine SafeOps.quiet0 E_good rfl rfl rfl (v := V.bool (!((x_6727 == 0) == ((((mget vm_6609 ((gt a0_5683 v36_6608).Id)).isSome) && (decide (((gt a0_5683 v36_6608).At) ≥ 0))) && (decide (((gt a0_5683 v36_6608).At) ≤ 1125899906842624)))))) (.fn rfl) ?_
                refine SafeOps.nil ?_
                repeat (first | refine Safe.seq ?_ | refine Safe.skip ?_ | with_reducible refine thenQ.n ?_ | with_reducible refine blockQ.n ?_)
                refine ifG h (fun hc6731 h => ?_) (fun hc6731 h => ?_)
                · skip
                  refine Safe.condK rfl hc6731 ?_
                  repeat (first | refine Safe.seq ?_ | refine Safe.skip ?_ | with_reducible refine thenQ.n ?_ | with_reducible refine blockQ.n ?_)
                  refine Safe.region ?_
                  refine SafeOps.quiet0 E_good rfl rfl rfl (v := V.bool false) (.fn rfl) ?_
                  refine SafeOps.nil ?_
                  repeat (first | refine Safe.seq ?_ | refine Safe.skip ?_ | with_reducible refine thenQ.n ?_ | with_reducible refine blockQ.n ?_)
                  refine Safe.ret ?_
                  repeat (first | with_reducible refine thenQ.r ?_ | with_reducible refine blockQ.r ?_)
                  replace h := inr_out h hr6610
                  obtain rfl := Option.some.inj h
                  exact retQ.gen (vs := [V.bool false]) rfl (.tmp (v := V.bool false) rfl .nil) (.free rfl) (by simp) (.inr rfl)
                · skip
                  refine Safe.condN rfl hc6731 ?_
                  repeat (first | refine Safe.seq ?_ | refine Safe.skip ?_ | with_reducible refine thenQ.n ?_ | with_reducible refine blockQ.n ?_)
                  refine Safe.region ?_
                  refine SafeOps.quiet0 E_good rfl rfl rfl (v := V.int .i64 x_6727) (.fn rfl) ?_
                  refine SafeOps.quiet0 E_good rfl rfl rfl (v := V.bool (x_6727 == 0)) (.fn rfl) ?_
                  refine SafeOps.nil ?_
                  repeat (first | refine Safe.seq ?_ | refine Safe.skip ?_ | with_reducible refine thenQ.n ?_ | with_reducible refine blockQ.n ?_)
                  refine ifG h (fun hc6732 h => ?_) (fun hc6732 h => ?_)
                  · skip
                    refine Safe.condK rfl hc6732 ?_
                    repeat (first | refine Safe.seq ?_ | refine Safe.skip ?_ | with_reducible refine thenQ.n ?_ | with_reducible refine blockQ.n ?_)
                    refine Safe.region ?_
                    refine SafeOps.quiet0 E_good rfl rfl rfl (v := V.ref [191, 0] 0 (rws api_Timer.cells x_6726).length) (.fn rfl) ?_
                    refine SafeOps.quiet0 E_good rfl rfl rfl (v := V.ref [191, 0] 0 (rws api_Timer.cells x_6726).length) (.fn rfl) ?_
                    refine SafeOps.nil ?_
                    repeat (first | refine Safe.seq ?_ | refine Safe.skip ?_ | with_reducible refine thenQ.n ?_ | with_reducible refine blockQ.n ?_)
                    refine Safe.region ?_
                    refine SafeOps.quiet0 E_good rfl rfl rfl (v := V.mapr [33]) (.fn rfl) ?_
                    refine SafeOps.quiet0 E_good rfl rfl rfl (v := V.ptr [7] 0 1) (.fn rfl) ?_
                    refine SafeOps.quiet0 E_good rfl rfl rfl (v := V.int .i64 ((gt a0_5683 v36_6608).Id)) (.load rfl rfl (.box rfl rfl) rfl) ?_
                    refine SafeOps.quiet0 E_good rfl rfl rfl (v := V.ptr [7] 0 2) (.fn rfl) ?_
                    refine SafeOps.quiet0 E_good rfl rfl rfl (v := V.int .i64 ((gt a0_5683 v36_6608).At)) (.load rfl rfl (.box rfl rfl) rfl) ?_
                    refine SafeOps.mputM (fun n : Int => V.int .i64 n) (fun n : Int => V.int .i64 n) vm_6609 ((gt a0_5683 v36_6608).Id) ((gt a0_5683 v36_6608).At) E_good (keyI .i64) rfl (.inl rfl) rfl rfl rfl rfl rfl rfl rfl rfl rfl ?_
                    refine SafeOps.nil ?_
                    repeat (first | refine Safe.skip ?_ | with_reducible refine thenQ.n ?_ | with_reducible refine blockQ.n ?_)
                    exact Safe.got (HJ6701 (x_6726, mput vm_6609 ((gt a0_5683 v36_6608).Id) ((gt a0_5683 v36_6608).At)) h) (.ren [191, 0] [7000, 118, 4] (.cov ⟨rfl, rfl, (upT_cons (.refl _) (upT_cons (.refl _) (upT_cons (.refl _) (upT_cons (.refl _) (upT_cons (.refl _) (upT_cons (.refl _) upT_nil)))))), (upOb_cons rfl (.refl _) (upOb_cons rfl (.refl _) upOb_nil)), upOut_nil, rfl⟩))
                  · skip
                    refine Safe.condN rfl hc6732 ?_
                    repeat (first | refine Safe.skip ?_ | with_reducible refine thenQ.n ?_ | with_reducible refine blockQ.n ?_)
                    exact Safe.got (HJ6701 (v4_6607, vm_6609) h) (.cov ⟨rfl, rfl, (upT_cons (.refl _) (upT_cons (.refl _) (upT_cons (.refl _) (upT_cons (.refl _) (upT_cons (.refl _) (upT_cons (.refl _) upT_nil)))))), (upOb_cons rfl (.refl _) (upOb_cons rfl (.refl _) upOb_nil)), upOut_nil, rfl⟩)
              · skip
                refine Safe.condN rfl hc6725 ?_
                repeat (first | refine Safe.seq ?_ | refine Safe.skip ?_ | with_reducible refine thenQ.n ?_ | with_reducible refine blockQ.n ?_)
                refine Safe.region ?_
                refine SafeOps.quiet0 E_good rfl rfl rfl (v := V.ref [7000, 118, 4] 0 (rws api_Timer.cells v4_6607).length) (.fn rfl) ?_
                refine SafeOps.quiet0 E_good rfl rfl rfl (v := V.ptr [7] 0 2) (.fn rfl) ?_
                refine SafeOps.quiet0 E_good rfl rfl rfl (v := V.int .i64 ((gt a0_5683 v36_6608).At)) (.load rfl rfl (.box rfl rfl) rfl) ?_
                refine bindG h ?_
                rintro ⟨x_6733, x_6734, x_6735⟩ he6736 h
                refine SafeOps.quiet E_good rfl rfl rfl (v := V.tup [V.ref [54, 0] 0 (rws (fun n => [V.int .i64 n]) x_6733).length, V.ref [54, 1] 0 (rws api_Timer.cells x_6734).length, V.int .i64 x_6735]) (.callS rfl (.cons (.full rfl rfl) (.cons (.free rfl) .nil)) (go_heap_Expire_sc v4_6607 ((gt a0_5683 v36_6608).At) _ he6736) (.tupL (.cons (.ownM (fun _ => rfl)) (.cons (.ownM (fun _ => rfl)) (.cons (.plain rfl) .nil)))) rfl) rfl ?_
                refine SafeOps.quiet0 E_good rfl rfl rfl (v := V.tup [V.ref [54, 0] 0 (rws (fun n => [V.int .i64 n]) x_6733).length, V.ref [54, 1] 0 (rws api_Timer.cells x_6734).length, V.int .i64 x_6735]) (.fn rfl) ?_
                refine SafeOps.quiet0 E_good rfl rfl rfl (v := V.ref [54, 0] 0 (rws (fun n => [V.int .i64 n]) x_6733).length) (.fn rfl) ?_
                refine SafeOps.quiet0 E_good rfl rfl rfl (v := V.ref [54, 1] 0 (rws api_Timer.cells x_6734).length) (.fn rfl) ?_
                refine SafeOps.quiet0 E_good rfl rfl rfl (v := V.int .i64 x_6735) (.fn rfl) ?_
                refine SafeOps.quiet0 E_good rfl rfl rfl (v := V.ref [54, 0] 0 (rws (fun n => [V.int .i64 n]) x_6733).length) (.fn rfl) ?_
                refine SafeOps.quiet0 E_good rfl rfl rfl (v := V.ref [54, 1] 0 (rws api_Timer.cells x_6734).length) (.fn rfl) ?_
                refine SafeOps.quiet0 E_good rfl rfl rfl (v := V.int .i64 x_6735) (.fn rfl) ?_
                refine SafeOps.nil ?_
                repeat (first | refine Safe.seq ?_ | refine Safe.skip ?_ | with_reducible refine thenQ.n ?_ | with_reducible refine blockQ.n ?_)
                refine Safe.region ?_
                refine SafeOps.quiet0 E_good rfl rfl rfl (v := V.int .i64 x_6735) (.fn rfl) ?_
                refine SafeOps.quiet0 E_good rfl rfl rfl (v := V.bool (x_6735 != 0)) (.fn rfl) ?_
                refine SafeOps.nil ?_
                repeat (first | refine Safe.seq ?_ | refine Safe.skip ?_ | with_reducible refine thenQ.n ?_ | with_reducible refine blockQ.n ?_)
                refine ifG h (fun hc6737 h => ?_) (fun hc6737 h => ?_)
                · skip
                  refine Safe.condK rfl hc6737 ?_
                  repeat (first | refine Safe.seq ?_ | refine Safe.skip ?_ | with_reducible refine thenQ.n ?_ | with_reducible refine blockQ.n ?_)
                  refine Safe.region ?_
                  refine SafeOps.quiet0 E_good rfl rfl rfl (v := V.bool false) (.fn rfl) ?_
                  refine SafeOps.nil ?_
                  repeat (first | refine Safe.seq ?_ | refine Safe.skip ?_ | with_reducible refine thenQ.n ?_ | with_reducible refine blockQ.n ?_)
                  refine Safe.ret ?_
                  repeat (first | with_reducible refine thenQ.r ?_ | with_reducible refine blockQ.r ?_)
                  replace h := inr_out h hr6610
                  obtain rfl := Option.some.inj h
                  exact retQ.gen (vs := [V.bool false]) rfl (.tmp (v := V.bool false) rfl .nil) (.free rfl) (by simp) (.inr rfl)
                · skip
                  refine Safe.condN rfl hc6737 ?_
                  repeat (first | refine Safe.seq ?_ | refine Safe.skip ?_ | with_reducible refine thenQ.n ?_ | with_reducible refine blockQ.n ?_)
                  refine Safe.region ?_
                  refine SafeOps.quiet0 E_good rfl rfl rfl (v := V.agg [V.int .i64 (-1), V.int .i64 0]) (.fn rfl) ?_
                  refine SafeOps.quiet1 E_good rfl rfl rfl (.alloc rfl rfl) rfl ?_
                  refine SafeOps.store (z := Obj.box [V.int .i64 (-1), V.int .i64 0]) E_good rfl rfl rfl rfl rfl rfl rfl (.boxM (c := 2) rfl rfl (Nat.le_of_ble_eq_true rfl) rfl) ?_
                  refine SafeOps.nil ?_
                  repeat (first | refine Safe.seq ?_ | refine Safe.skip ?_ | with_reducible refine thenQ.n ?_ | with_reducible refine blockQ.n ?_)
                  refine Safe.region ?_
                  refine SafeOps.quiet0 E_good rfl rfl rfl (v := V.ref [54, 0] 0 (rws (fun n => [V.int .i64 n]) x_6733).length) (.fn rfl) ?_
                  refine SafeOps.quiet0 E_good rfl rfl rfl (v := V.int .i64 (x_6733.length : Int)) (.fnE rfl lenE) ?_
                  refine SafeOps.quiet0 E_good rfl rfl rfl (v := V.int .i64 0) (.fn rfl) ?_
                  refine SafeOps.nil ?_
                  repeat (first | refine Safe.seq ?_ | refine Safe.skip ?_ | with_reducible refine thenQ.n ?_ | with_reducible refine blockQ.n ?_)
                  refine Safe.block ?_
                  repeat (first | refine Safe.seq ?_ | refine Safe.skip ?_ | with_reducible refine thenQ.n ?_ | with_reducible refine blockQ.n ?_)
                  refine Safe.loopW (fun ((v63_6776, vm_6777, v200_6778, v201_6779) : Int × (List (Int × Int)) × Int × Int) => ⟨Try.f4.ntmps, [(3, V.bool x_6238), (5, V.mapr [33]), (7, V.ptr [7] 0 0), (18, V.ref [54, 1] 0 (rws api_Timer.cells x_6734).length), (20, V.ptr [20] 0 0), (34, V.sl 3 (rws ravellaw08_Op.cells a0_5683)), (35, V.int .i64 (a0_5683.length : Int)), (36, V.int .i64 v36_6608), (61, V.ref [54, 0] 0 (rws (fun n => [V.int .i64 n]) x_6733).length), (62, V.int .i64 (x_6733.length : Int)), (63, V.int .i64 v63_6776)], [([7], Obj.box [V.int .i64 ((gt a0_5683 v36_6608).Kind), V.int .i64 ((gt a0_5683 v36_6608).Id), V.int .i64 ((gt a0_5683 v36_6608).At)]), ([20], Obj.box [V.int .i64 v200_6778, V.int .i64 v201_6779]), ([33], Go.AM.Obj.map (mps (fun n : Int => V.int .i64 n) (fun n : Int => V.int .i64 n) vm_6777)), ([54, 0], Obj.rows 1 (rws (fun n => [V.int .i64 n]) x_6733) false), ([54, 1], Obj.rows 2 (rws api_Timer.cells x_6734) false)], [], []⟩) h (.cov ⟨rfl, rfl, (upT_cons (.refl _) (upT_cons (.refl _) (upT_cons (.refl _) (upT_cons (.refl _) (upT_cons (.refl _) (upT_cons (.refl _) (upT_cons (.refl _) (upT_cons (.refl _) (upT_cons (.refl _) (upT_cons (.refl _) (upT_cons (.refl _) upT_nil))))))))))), (upOb_cons rfl (.refl _) (upOb_cons rfl (.refl _) (upOb_cons rfl (.refl _) (upOb_cons rfl (.refl _) (upOb_cons rfl (.refl _) upOb_nil))))), upOut_nil, rfl⟩) ?_
                  rintro ⟨v63_6776, vm_6777, v200_6778, v201_6779⟩ ohr6780 h hr6780
                  replace h : go_ravellaw08_HeapTimes_s16 a0_5683 v36_6608 x_6733 x_6734 (v63_6776, vm_6777, v200_6778, v201_6779) = some ohr6780 := h
                  rw [go_ravellaw08_HeapTimes_s16] at h
                  repeat (first | refine Safe.seq ?_ | refine Safe.skip ?_ | with_reducible refine thenQ.n ?_ | with_reducible refine blockQ.n ?_)
                  refine Safe.region ?_
                  refine SafeOps.quiet0 E_good rfl rfl rfl (v := V.bool (decide (v63_6776 < (x_6733.length : Int)))) (.fn rfl) ?_
                  refine SafeOps.nil ?_
                  repeat (first | refine Safe.seq ?_ | refine Safe.skip ?_ | with_reducible refine thenQ.n ?_ | with_reducible refine blockQ.n ?_)
                  refine ifG h (fun hc6781 h => ?_) (fun hc6781 h => ?_)
                  · skip
                    refine Safe.condK rfl hc6781 ?_
                    repeat (first | refine Safe.seq ?_ | refine Safe.skip ?_ | with_reducible refine thenQ.n ?_ | with_reducible refine blockQ.n ?_)
                    refine Safe.block ?_
                    repeat (first | refine Safe.seq ?_ | refine Safe.skip ?_ | with_reducible refine thenQ.n ?_ | with_reducible refine blockQ.n ?_)
                    refine Safe.region ?_
                    refine okG h (fun hb6782 h => ?_)
                    refine SafeOps.quiet0 E_good rfl rfl rfl (v := V.ptr [54, 0] (0 + Int.toNat v63_6776) 0) (.idxRefM (f := (fun n => [V.int .i64 n])) (xs := x_6733) rfl rfl rfl rfl rfl rfl hb6782) ?_
                    refine SafeOps.quiet0 E_good rfl rfl rfl (v := V.int .i64 (gt x_6733 v63_6776)) (.load rfl rfl (.rowsM (f := (fun n => [V.int .i64 n])) (xs := x_6733) hb6782 rfl rfl) rfl) ?_
                    refine SafeOps.quiet0 E_good rfl rfl rfl (v := V.int .i64 (gt x_6733 v63_6776)) (.fn rfl) ?_
                    refine SafeOps.nil ?_
                    repeat (first | refine Safe.seq ?_ | refine Safe.skip ?_ | with_reducible refine thenQ.n ?_ | with_reducible refine blockQ.n ?_)
                    refine Safe.region ?_
                    refine SafeOps.quiet0 E_good rfl rfl rfl (v := V.mapr [33]) (.fn rfl) ?_
                    refine SafeOps.quiet0 E_good rfl rfl rfl (v := V.int .i64 (gt x_6733 v63_6776)) (.fn rfl) ?_
                    refine SafeOps.quiet0 E_good rfl rfl rfl (v := V.tup [V.int .i64 ((mget vm_6777 (gt x_6733 v63_6776)).getD 0), V.bool ((mget vm_6777 (gt x_6733 v63_6776)).isSome)]) (.lookM2 (fv := (fun n : Int => V.int .i64 n)) (m := vm_6777) (kk := (gt x_6733 v63_6776)) (z0 := 0) (keyI .i64) rfl rfl rfl rfl rfl rfl rfl rfl rfl rfl) ?_
                    refine SafeOps.quiet0 E_good rfl rfl rfl (v := V.tup [V.int .i64 ((mget vm_6777 (gt x_6733 v63_6776)).getD 0), V.bool ((mget vm_6777 (gt x_6733 v63_6776)).isSome)]) (.fn rfl) ?_
                    refine SafeOps.quiet0 E_good rfl rfl rfl (v := V.int .i64 ((mget vm_6777 (gt x_6733 v63_6776)).getD 0)) (.fn rfl) ?_
                    refine SafeOps.quiet0 E_good rfl rfl rfl (v := V.bool ((mget vm_6777 (gt x_6733 v63_6776)).isSome)) (.fn rfl) ?_
                    refine SafeOps.quiet0 E_good rfl rfl rfl (v := V.int .i64 ((mget vm_6777 (gt x_6733 v63_6776)).getD 0)) (.fn rfl) ?_
                    refine SafeOps.quiet0 E_good rfl rfl rfl (v := V.bool ((mget vm_6777 (gt x_6733 v63_6776)).isSome)) (.fn rfl) ?_
                    refine SafeOps.nil ?_
                    repeat (first | refine Safe.seq ?_ | refine Safe.skip ?_ | with_reducible refine thenQ.n ?_ | with_reducible refine blockQ.n ?_)
                    refine Safe.region ?_
                    refine SafeOps.quiet0 E_good rfl rfl rfl (v := V.int .i64 ((mget vm_6777 (gt x_6733 v63_6776)).getD 0)) (.fn rfl) ?_
                    refine SafeOps.quiet0 E_good rfl rfl rfl (v := V.int .i64 (gt x_6733 v63_6776)) (.fn rfl) ?_
                    refine SafeOps.quiet0 E_good rfl rfl rfl (v := V.agg [V.int .i64 ((mget vm_6777 (gt x_6733 v63_6776)).getD 0), V.int .i64 (gt x_6733 v63_6776)]) (.fn rfl) ?_
                    refine SafeOps.quiet1 E_good rfl rfl rfl (.alloc rfl rfl) rfl ?_
                    refine SafeOps.store (z := Obj.box [V.int .i64 ((mget vm_6777 (gt x_6733 v63_6776)).getD 0), V.int .i64 (gt x_6733 v63_6776)]) E_good rfl rfl rfl rfl rfl rfl rfl (.boxM (c := 2) rfl rfl (Nat.le_of_ble_eq_true rfl) rfl) ?_
                    refine SafeOps.nil ?_
                    repeat (first | refine Safe.seq ?_ | refine Safe.skip ?_ | with_reducible refine thenQ.n ?_ | with_reducible refine blockQ.n ?_)
                    refine Safe.region ?_
                    refine SafeOps.quiet0 E_good rfl rfl rfl (v := V.bool ((mget vm_6777 (gt x_6733 v63_6776)).isSome)) (.fn rfl) ?_
                    refine SafeOps.quiet0 E_good rfl rfl rfl (v := V.bool (!((mget vm_6777 (gt x_6733 v63_6776)).isSome))) (.fn rfl) ?_
                    refine SafeOps.quiet0 E_good rfl rfl rfl (v := V.bool (!((mget vm_6777 (gt x_6733 v63_6776)).isSome))) (.fn rfl) ?_
                    refine SafeOps.bjoin 5 83 (b := ((!((mget vm_6777 (gt x_6733 v63_6776)).isSome)) || (decide (((mget vm_6777 (gt x_6733 v63_6776)).getD 0) > ((gt a0_5683 v36_6608).At))))) (b1 := true) (b0 := decide (((mget vm_6777 (gt x_6733 v63_6776)).getD 0) > ((gt a0_5683 v36_6608).At))) (fun hc6783 K => ?_) (fun hc6783 K => ?_) bj_or ?_
                    · skip
                      refine SafeOps.skip (congrArg (fun b => some (!b)) hc6783) rfl rfl ?_
                      refine SafeOps.skip (congrArg (fun b => some (!b)) hc6783) rfl rfl ?_
                      refine SafeOps.skip (congrArg (fun b => some (!b)) hc6783) rfl rfl ?_
                      refine SafeOps.skip (congrArg (fun b => some (!b)) hc6783) rfl rfl ?_
                      refine SafeOps.quiet0 E_good rfl rfl rfl (v := V.bool true) (.pickK rfl hc6783 rfl) ?_
                      exact SafeOps.drop' 5 rfl rfl rfl K
                    · skip
                      refine SafeOps.quiet0 E_good (congrArg (fun b => some (!b)) hc6783) rfl rfl (v := V.int .i64 ((mget vm_6777 (gt x_6733 v63_6776)).getD 0)) (.fn rfl) ?_
                      refine SafeOps.quiet0 E_good (congrArg (fun b => some (!b)) hc6783) rfl rfl (v := V.ptr [7] 0 2) (.fn rfl) ?_
                      refine SafeOps.quiet0 E_good (congrArg (fun b => some (!b)) hc6783) rfl rfl (v := V.int .i64 ((gt a0_5683 v36_6608).At)) (.load rfl rfl (.box rfl rfl) rfl) ?_
                      refine SafeOps.quiet0 E_good (congrArg (fun b => some (!b)) hc6783) rfl rfl (v := V.bool (decide (((mget vm_6777 (gt x_6733 v63_6776)).getD 0) > ((gt a0_5683 v36_6608).At)))) (.fn rfl) ?_
                      refine SafeOps.quiet0 E_good rfl rfl rfl (v := V.bool (decide (((mget vm_6777 (gt x_6733 v63_6776)).getD 0) > ((gt a0_5683 v36_6608).At)))) (.pickK rfl hc6783 rfl) ?_
                      exact SafeOps.drop' 5 rfl rfl rfl K
                    refine SafeOps.quiet0 E_good rfl rfl rfl (v := V.bool ((!((mget vm_6777 (gt x_6733 v63_6776)).isSome)) || (decide (((mget vm_6777 (gt x_6733 v63_6776)).getD 0) > ((gt a0_5683 v36_6608).At))))) (.fn rfl) ?_
                    refine SafeOps.bjoin 5 89 (b := (((!((mget vm_6777 (gt x_6733 v63_6776)).isSome)) || (decide (((mget vm_6777 (gt x_6733 v63_6776)).getD 0) > ((gt a0_5683 v36_6608).At)))) || (!(go_ravelref08_Less (api_Timer.mk v200_6778 v201_6779) (api_Timer.mk ((mget vm_6777 (gt x_6733 v63_6776)).getD 0) (gt x_6733 v63_6776)))))) (b1 := true) (b0 := (!(go_ravelref08_Less (api_Timer.mk v200_6778 v201_6779) (api_Timer.mk ((mget vm_6777 (gt x_6733 v63_6776)).getD 0) (gt x_6733 v63_6776))))) (fun hc6784 K => ?_) (fun hc6784 K => ?_) bj_or ?_
                    · skip
                      refine SafeOps.skip (congrArg (fun b => some (!b)) hc6784) rfl rfl ?_
                      refine SafeOps.skip (congrArg (fun b => some (!b)) hc6784) rfl rfl ?_
                      refine SafeOps.skip (congrArg (fun b => some (!b)) hc6784) rfl rfl ?_
                      refine SafeOps.skip (congrArg (fun b => some (!b)) hc6784) rfl rfl ?_
                      refine SafeOps.quiet0 E_good rfl rfl rfl (v := V.bool true) (.pickK rfl hc6784 rfl) ?_
                      exact SafeOps.drop' 5 rfl rfl rfl K
                    · skip
                      refine SafeOps.quiet0 E_good (congrArg (fun b => some (!b)) hc6784) rfl rfl (v := V.agg [V.int .i64 v200_6778, V.int .i64 v201_6779]) (.load rfl rfl (.box rfl rfl) rfl) ?_
                      refine SafeOps.quiet0 E_good (congrArg (fun b => some (!b)) hc6784) rfl rfl (v := V.agg [V.int .i64 ((mget vm_6777 (gt x_6733 v63_6776)).getD 0), V.int .i64 (gt x_6733 v63_6776)]) (.load rfl rfl (.box rfl rfl) rfl) ?_
                      refine SafeOps.quiet0 E_good (congrArg (fun b => some (!b)) hc6784) rfl rfl (v := V.bool (go_ravelref08_Less (api_Timer.mk v200_6778 v201_6779) (api_Timer.mk ((mget vm_6777 (gt x_6733 v63_6776)).getD 0) (gt x_6733 v63_6776)))) (.callP rfl rfl (go_ravelref08_Less_sc (api_Timer.mk v200_6778 v201_6779) (api_Timer.mk ((mget vm_6777 (gt x_6733 v63_6776)).getD 0) (gt x_6733 v63_6776)) _ rfl) rfl) ?_
                      refine SafeOps.quiet0 E_good (congrArg (fun b => some (!b)) hc6784) rfl rfl (v := V.bool (!(go_ravelref08_Less (api_Timer.mk v200_6778 v201_6779) (api_Timer.mk ((mget vm_6777 (gt x_6733 v63_6776)).getD 0) (gt x_6733 v63_6776))))) (.fn rfl) ?_
                      refine SafeOps.quiet0 E_good rfl rfl rfl (v := V.bool (!(go_ravelref08_Less (api_Timer.mk v200_6778 v201_6779) (api_Timer.mk ((mget vm_6777 (gt x_6733 v63_6776)).getD 0) (gt x_6733 v63_6776))))) (.pickK rfl hc6784 rfl) ?_
                      exact SafeOps.drop' 5 rfl rfl rfl K
                    refine SafeOps.nil ?_
                    repeat (first | refine Safe.seq ?_ | refine Safe.skip ?_ | with_reducible refine thenQ.n ?_ | with_reducible refine blockQ.n ?_)
                    refine ifG h (fun hc6785 h => ?_) (fun hc6785 h => ?_)
                    · skip
                      refine Safe.condK rfl hc6785 ?_
                      repeat (first | refine Safe.seq ?_ | refine Safe.skip ?_ | with_reducible refine thenQ.n ?_ | with_reducible refine blockQ.n ?_)
                      refine Safe.region ?_
                      refine SafeOps.quiet0 E_good rfl rfl rfl (v := V.bool false) (.fn rfl) ?_
                      refine SafeOps.nil ?_
                      repeat (first | refine Safe.seq ?_ | refine Safe.skip ?_ | with_reducible refine thenQ.n ?_ | with_reducible refine blockQ.n ?_)
                      refine Safe.ret ?_
                      repeat (first | with_reducible refine thenQ.r ?_ | with_reducible refine blockQ.r ?_)
                      replace h := inr_out h hr6780
                      replace h := inr_out h hr6610
                      obtain rfl := Option.some.inj h
                      exact retQ.gen (vs := [V.bool false]) rfl (.tmp (v := V.bool false) rfl .nil) (.free rfl) (by simp) (.inr rfl)
                    · skip
                      refine Safe.condN rfl hc6785 ?_
                      repeat (first | refine Safe.seq ?_ | refine Safe.skip ?_ | with_reducible refine thenQ.n ?_ | with_reducible refine blockQ.n ?_)
                      refine Safe.region ?_
                      refine SafeOps.quiet0 E_good rfl rfl rfl (v := V.agg [V.int .i64 ((mget vm_6777 (gt x_6733 v63_6776)).getD 0), V.int .i64 (gt x_6733 v63_6776)]) (.load rfl rfl (.box rfl rfl) rfl) ?_
                      refine SafeOps.store (z := Obj.box [V.int .i64 ((mget vm_6777 (gt x_6733 v63_6776)).getD 0), V.int .i64 (gt x_6733 v63_6776)]) E_good rfl rfl rfl rfl rfl rfl rfl (.boxM (c := 2) rfl rfl (Nat.le_of_ble_eq_true rfl) rfl) ?_
                      refine SafeOps.nil ?_
                      repeat (first | refine Safe.seq ?_ | refine Safe.skip ?_ | with_reducible refine thenQ.n ?_ | with_reducible refine blockQ.n ?_)
                      refine Safe.region ?_
                      refine SafeOps.quiet0 E_good rfl rfl rfl (v := V.mapr [33]) (.fn rfl) ?_
                      refine SafeOps.quiet0 E_good rfl rfl rfl (v := V.int .i64 (gt x_6733 v63_6776)) (.fn rfl) ?_
                      refine SafeOps.mdelM (fun n : Int => V.int .i64 n) (fun n : Int => V.int .i64 n) vm_6777 (gt x_6733 v63_6776) E_good (keyI .i64) rfl rfl rfl rfl rfl rfl rfl rfl rfl ?_
                      refine SafeOps.nil ?_
                      repeat (first | refine Safe.seq ?_ | refine Safe.skip ?_ | with_reducible refine thenQ.n ?_ | with_reducible refine blockQ.n ?_)
                      refine Safe.region ?_
                      refine SafeOps.quiet0 E_good rfl rfl rfl (v := V.int .i64 (IntKind.i64.wrap (v63_6776 + 1))) (.fn rfl) ?_
                      refine SafeOps.quiet0 E_good rfl rfl rfl (v := V.int .i64 (IntKind.i64.wrap (v63_6776 + 1))) (.fn rfl) ?_
                      refine SafeOps.nil ?_
                      repeat (first | refine Safe.seq ?_ | refine Safe.skip ?_ | with_reducible refine thenQ.n ?_ | with_reducible refine blockQ.n ?_)
                      exact ⟨_, next_out h, (.cov ⟨rfl, rfl, (upT_cons (.refl _) (upT_cons (.refl _) (upT_cons (.refl _) (upT_cons (.refl _) (upT_cons (.refl _) (upT_cons (.refl _) (upT_cons (.refl _) (upT_cons (.refl _) (upT_cons (.refl _) (upT_cons (.refl _) (upT_cons (.refl _) upT_nil))))))))))), (upOb_cons rfl (.refl _) (upOb_cons rfl (.refl _) (upOb_cons rfl (.refl _) (upOb_cons rfl (.refl _) (upOb_cons rfl (.refl _) upOb_nil))))), upOut_nil, rfl⟩)⟩
                  · skip
                    refine Safe.condN rfl hc6781 ?_
                    repeat (first | refine Safe.seq ?_ | refine Safe.skip ?_ | with_reducible refine thenQ.n ?_ | with_reducible refine blockQ.n ?_)
                    refine Safe.exit ?_
                    repeat (first | with_reducible refine thenQ.e ?_ | with_reducible refine blockQ.x rfl ?_ | with_reducible refine blockQ.y rfl ?_)
                    replace h := inr_out h hr6780
                    repeat (first | refine Safe.seq ?_ | refine Safe.skip ?_ | with_reducible refine thenQ.n ?_ | with_reducible refine blockQ.n ?_)
                    refine Safe.region ?_
                    refine SafeOps.quiet0 E_good rfl rfl rfl (v := V.mapr [33]) (.fn rfl) ?_
                    refine SafeOps.rangeM E_good rfl rfl rfl rfl rfl rfl rfl rfl (fun ms6786 ck6786 hl6786 hs6786 => ?_)
                    replace hl6786 : ms6786.size = vm_6777.length := by simpa [mps] using hl6786
                    refine SafeOps.nil ?_
                    repeat (first | refine Safe.seq ?_ | refine Safe.skip ?_ | with_reducible refine thenQ.n ?_ | with_reducible refine blockQ.n ?_)
                    refine Safe.block ?_
                    repeat (first | refine Safe.seq ?_ | refine Safe.skip ?_ | with_reducible refine thenQ.n ?_ | with_reducible refine blockQ.n ?_)
                    refine bindG h ?_
                    intro b_6788 hb6787 h06787
                    refine Safe.loopM hb6787 hl6786 hs6786 (fun seen6787 => ⟨Try.f4.ntmps, [(3, V.bool x_6238), (5, V.mapr [33]), (7, V.ptr [7] 0 0), (18, V.ref [54, 1] 0 (rws api_Timer.cells x_6734).length), (34, V.sl 3 (rws ravellaw08_Op.cells a0_5683)), (35, V.int .i64 (a0_5683.length : Int)), (36, V.int .i64 v36_6608), (95, V.itr [95])], [([7], Obj.box [V.int .i64 ((gt a0_5683 v36_6608).Kind), V.int .i64 ((gt a0_5683 v36_6608).Id), V.int .i64 ((gt a0_5683 v36_6608).At)]), ([33], Go.AM.Obj.gmap (mps (fun n : Int => V.int .i64 n) (fun n : Int => V.int .i64 n) vm_6777) ms6786 ck6786), ([54, 1], Obj.rows 2 (rws api_Timer.cells x_6734) false), ([95], Go.AM.Obj.iter (some [33]) (mps (fun n : Int => V.int .i64 n) (fun n : Int => V.int .i64 n) vm_6777) ms6786 ck6786 ck6786 seen6787)], [], []⟩) (.cov ⟨rfl, rfl, (upT_cons (.refl _) (upT_cons (.refl _) (upT_cons (.refl _) (upT_cons (.refl _) (upT_cons (.refl _) (upT_cons (.refl _) (upT_cons (.refl _) (upT_cons (.refl _) upT_nil)))))))), (upOb_cons rfl (.refl _) (upOb_cons rfl (.refl _) (upOb_cons rfl (.refl _) (upOb_cons rfl (.refl _) upOb_nil)))), upOut_nil, rfl⟩) ?_
                    intro seen6787 hF6787
                    repeat (first | refine Safe.seq ?_ | refine Safe.skip ?_ | with_reducible refine thenQ.n ?_ | with_reducible refine blockQ.n ?_)
                    refine Safe.region ?_
                    refine SafeOps.nextM (fun n : Int => V.int .i64 n) (fun n : Int => V.int .i64 n) rfl rfl rfl rfl rfl rfl rfl (fun im6787 hi6787 k_6789 v_6790 hkv6787 hns6787 => ?_) (fun hall6787 => ?_)
                    · skip
                      obtain ⟨c6787, hc6787, hcb6787⟩ := anyO_get hb6787 hi6787 hkv6787
                      have h : (if (decide (v_6790 ≤ ((gt a0_5683 v36_6608).At))) = true then some true else some false) = some c6787 := hc6787
                      refine SafeOps.quiet0 E_good rfl rfl rfl (v := V.bool true) (.fn rfl) ?_
                      refine SafeOps.nil ?_
                      repeat (first | refine Safe.seq ?_ | refine Safe.skip ?_ | with_reducible refine thenQ.n ?_ | with_reducible refine blockQ.n ?_)
                      refine Safe.condK rfl rfl ?_
                      repeat (first | refine Safe.seq ?_ | refine Safe.skip ?_ | with_reducible refine thenQ.n ?_ | with_reducible refine blockQ.n ?_)
                      refine Safe.block ?_
                      repeat (first | refine Safe.seq ?_ | refine Safe.skip ?_ | with_reducible refine thenQ.n ?_ | with_reducible refine blockQ.n ?_)
                      refine Safe.region ?_
                      refine SafeOps.entryM (fun n : Int => V.int .i64 n) (fun n : Int => V.int .i64 n) (i := im6787) (k := k_6789) (v := v_6790) rfl rfl rfl rfl rfl rfl rfl hi6787 hkv6787 ?_
                      refine SafeOps.quiet0 E_good rfl rfl rfl (v := V.int .i64 v_6790) (.fn rfl) ?_
                      refine SafeOps.quiet0 E_good rfl rfl rfl (v := V.int .i64 v_6790) (.fn rfl) ?_
                      refine SafeOps.nil ?_
                      repeat (first | refine Safe.seq ?_ | refine Safe.skip ?_ | with_reducible refine thenQ.n ?_ | with_reducible refine blockQ.n ?_)
                      refine Safe.region ?_
                      refine SafeOps.quiet0 E_good rfl rfl rfl (v := V.int .i64 v_6790) (.fn rfl) ?_
                      refine SafeOps.quiet0 E_good rfl rfl rfl (v := V.ptr [7] 0 2) (.fn rfl) ?_
                      refine SafeOps.quiet0 E_good rfl rfl rfl (v := V.int .i64 ((gt a0_5683 v36_6608).At)) (.load rfl rfl (.box rfl rfl) rfl) ?_
                      refine SafeOps.quiet0 E_good rfl rfl rfl (v := V.bool (decide (v_6790 ≤ ((gt a0_5683 v36_6608).At)))) (.fn rfl) ?_
                      refine SafeOps.nil ?_
                      repeat (first | refine Safe.seq ?_ | refine Safe.skip ?_ | with_reducible refine thenQ.n ?_ | with_reducible refine blockQ.n ?_)
                      refine ifG h (fun hc6791 h => ?_) (fun hc6791 h => ?_)
                      · skip
                        refine Safe.condK rfl hc6791 ?_
                        repeat (first | refine Safe.seq ?_ | refine Safe.skip ?_ | with_reducible refine thenQ.n ?_ | with_reducible refine blockQ.n ?_)
                        refine Safe.region ?_
                        refine SafeOps.quiet0 E_good rfl rfl rfl (v := V.bool false) (.fn rfl) ?_
                        refine SafeOps.nil ?_
                        repeat (first | refine Safe.seq ?_ | refine Safe.skip ?_ | with_reducible refine thenQ.n ?_ | with_reducible refine blockQ.n ?_)
                        refine Safe.ret ?_
                        repeat (first | with_reducible refine thenQ.r ?_ | with_reducible refine blockQ.r ?_)
                        have hct6787 := (Option.some.inj h).symm
                        replace h := ifT_out h06787 (hcb6787 hct6787)
                        replace h := inr_out h hr6610
                        obtain rfl := Option.some.inj h
                        exact retQ.gen (vs := [V.bool false]) rfl (.tmp (v := V.bool false) rfl .nil) (.free rfl) (by simp) (.inr rfl)
                      · skip
                        refine Safe.condN rfl hc6791 ?_
                        repeat (first | refine Safe.seq ?_ | refine Safe.skip ?_ | with_reducible refine thenQ.n ?_ | with_reducible refine blockQ.n ?_)
                        exact ⟨im6787, hi6787, k_6789, v_6790, hkv6787, hns6787, hc6787.trans h.symm, (.cov ⟨rfl, rfl, (upT_cons (.refl _) (upT_cons (.refl _) (upT_cons (.refl _) (upT_cons (.refl _) (upT_cons (.refl _) (upT_cons (.refl _) (upT_cons (.refl _) (upT_cons (.refl _) upT_nil)))))))), (upOb_cons rfl (.refl _) (upOb_cons rfl (.refl _) (upOb_cons rfl (.refl _) (upOb_cons rfl (.refl _) upOb_nil)))), upOut_nil, rfl⟩)⟩
                    · skip
                      replace h := ifF_out h06787 (anyO_none hb6787 (fun i hi => hF6787 i hi (hall6787 i hi)))
                      refine SafeOps.quiet0 E_good rfl rfl rfl (v := V.bool false) (.fn rfl) ?_
                      refine SafeOps.nil ?_
                      repeat (first | refine Safe.seq ?_ | refine Safe.skip ?_ | with_reducible refine thenQ.n ?_ | with_reducible refine blockQ.n ?_)
                      refine Safe.ungm [33] rfl rfl ?_
                      repeat (first | refine Safe.seq ?_ | refine Safe.skip ?_ | with_reducible refine thenQ.n ?_ | with_reducible refine blockQ.n ?_)
                      refine Safe.condN rfl rfl ?_
                      repeat (first | refine Safe.seq ?_ | refine Safe.skip ?_ | with_reducible refine thenQ.n ?_ | with_reducible refine blockQ.n ?_)
                      refine Safe.exit ?_
                      repeat (first | with_reducible refine thenQ.e ?_ | with_reducible refine blockQ.x rfl ?_ | with_reducible refine blockQ.y rfl ?_)
                      repeat (first | refine Safe.seq ?_ | refine Safe.skip ?_ | with_reducible refine thenQ.n ?_ | with_reducible refine blockQ.n ?_)
                      refine Safe.region ?_
                      refine SafeOps.quiet0 E_good rfl rfl rfl (v := V.ref [54, 1] 0 (rws api_Timer.cells x_6734).length) (.fn rfl) ?_
                      refine SafeOps.quiet0 E_good rfl rfl rfl (v := V.ref [54, 1] 0 (rws api_Timer.cells x_6734).length) (.fn rfl) ?_
                      refine SafeOps.nil ?_
                      repeat (first | refine Safe.skip ?_ | with_reducible refine thenQ.n ?_ | with_reducible refine blockQ.n ?_)
                      exact Safe.got (HJ6701 (x_6734, vm_6777) h) (.ren [54, 1] [7000, 118, 4] (.cov ⟨rfl, rfl, (upT_cons (.refl _) (upT_cons (.refl _) (upT_cons (.refl _) (upT_cons (.refl _) (upT_cons (.refl _) (upT_cons (.refl _) upT_nil)))))), (upOb_cons rfl (.refl _) (upOb_cons rfl (.refl _) upOb_nil)), upOut_nil, rfl⟩))
      · skip
        refine Safe.condN rfl hc6611 ?_
        repeat (first | refine Safe.seq ?_ | refine Safe.skip ?_ | with_reducible refine thenQ.n ?_ | with_reducible refine blockQ.n ?_)
        refine Safe.exit ?_
        repeat (first | with_reducible refine thenQ.e ?_ | with_reducible refine blockQ.x rfl ?_ | with_reducible refine blockQ.y rfl ?_)
        replace h := inr_out h hr6610
        repeat (first | refine Safe.seq ?_ | refine Safe.skip ?_ | with_reducible refine thenQ.n ?_ | with_reducible refine blockQ.n ?_)
        refine Safe.region ?_
        refine SafeOps.quiet0 E_good rfl rfl rfl (v := V.bool x_6238) (.fn rfl) ?_
        refine SafeOps.quiet0 E_good rfl rfl rfl (v := V.bool x_6238) (.fn rfl) ?_
        refine SafeOps.nil ?_
        repeat (first | refine Safe.seq ?_ | refine Safe.skip ?_ | with_reducible refine thenQ.n ?_ | with_reducible refine blockQ.n ?_)
        refine Safe.ret ?_
        repeat (first | with_reducible refine thenQ.r ?_ | with_reducible refine blockQ.r ?_)
        obtain rfl := Option.some.inj h
        exact retQ.gen (vs := [V.bool x_6238]) rfl (.tmp (v := V.bool x_6238) rfl .nil) (.free rfl) (by simp) (.inr rfl)
end Go.Proofs.Ytbcapidhhbkkcaa
