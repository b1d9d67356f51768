/- Helper lemmas for the claim's theorem: an abstract machine over the model, proved sound; no condition beyond each lemma's own. -/
import Derived.Test.YtbcapidhhbkkcaaT2
set_option linter.unusedVariables false
set_option linter.unusedSimpArgs false
set_option linter.unnecessarySimpa false
set_option linter.unusedSectionVars false
namespace Go.Proofs.Ytbcapidhhbkkcaa
open Go Go.AM
set_option maxRecDepth 100000
set_option maxHeartbeats 1000000
set_option linter.unusedVariables false
set_option linter.unusedSimpArgs false
variable {gl : List (Nat × List V)}
noncomputable def go_ravellaw08_HeapOrders_j12 (v12_5529 : List api_Timer) (v11_5645 : List api_Timer) (v99_5646 : Int) (v10_5653 : List api_Timer) : Option (((List api_Timer) × (List api_Timer) × Int) ⊕ (Bool)) :=
  if 0 ≤ v99_5646 ∧ v99_5646 < (v12_5529.length : Int) then
    (go_heap_Add v11_5645 (gt v12_5529 v99_5646)).bind fun (x_5656, x_5657) =>
    if (x_5657 == 0) = true then
      nextO (v10_5653, x_5656, IntKind.i64.wrap (v99_5646 + 1))
    else
      nextO (v10_5653, v11_5645, IntKind.i64.wrap (v99_5646 + 1))
  else none

noncomputable def go_ravellaw08_HeapOrders_s11 (a0_5255 : List api_Timer) (a2_5257 : Int) (a3_5258 : Int) (x_5471 : Bool) (v12_5529 : List api_Timer) : ((List api_Timer) × (List api_Timer) × Int) → Option (((List api_Timer) × (List api_Timer) × Int) ⊕ (Bool))
  | (v10_5644, v11_5645, v99_5646) =>
    if (decide (v99_5646 < (a0_5255.length : Int))) = true then
      if 0 ≤ v99_5646 ∧ v99_5646 < (a0_5255.length : Int) then
        (go_heap_Add v10_5644 (gt a0_5255 v99_5646)).bind fun (x_5650, x_5651) =>
        if (x_5651 == 0) = true then
          go_ravellaw08_HeapOrders_j12 v12_5529 v11_5645 v99_5646 x_5650
        else
          go_ravellaw08_HeapOrders_j12 v12_5529 v11_5645 v99_5646 v10_5644
      else none
    else
      inrO (
        (go_heap_Same v10_5644 v11_5645).bind fun x_5661 =>
        if (!x_5661) = true then
          some false
        else
          (go_heap_Reset v10_5644 a2_5257 a3_5258).bind fun (x_5664, x_5665) =>
          (go_heap_Cancel v10_5644 a2_5257).bind fun (x_5667, x_5668) =>
          if ((x_5665 != 0) || (x_5668 != 0)) = true then
            some (x_5471 && (x_5665 != 0))
          else
            (go_heap_Add x_5667 (api_Timer.mk a3_5258 a2_5257)).bind fun (x_5674, x_5675) =>
            if (x_5471 && (x_5675 == 0)) = true then
              (go_heap_Same x_5664 x_5674).bind fun x_5681 =>
              some x_5681
            else
              some false)

noncomputable def go_ravellaw08_HeapOrders_s4 (a0_5255 : List api_Timer) (a2_5257 : Int) (a3_5258 : Int) (x_5471 : Bool) (v12_5529 : List api_Timer) : (Int × (List (Int × Bool))) → Option ((Int × (List (Int × Bool))) ⊕ (Bool))
  | (v84_5563, vm_5564) =>
    if (decide (v84_5563 < (a0_5255.length : Int))) = true then
      if 0 ≤ v84_5563 ∧ v84_5563 < (a0_5255.length : Int) then
        if ((mget vm_5564 ((gt a0_5255 v84_5563).Id)).getD false) = true then
          inrO (
            some x_5471)
        else
          nextO (IntKind.i64.wrap (v84_5563 + 1), mput vm_5564 ((gt a0_5255 v84_5563).Id) true)
      else none
    else
      inrO (
        whileO (go_ravellaw08_HeapOrders_s11 a0_5255 a2_5257 a3_5258 x_5471 v12_5529) ([], [], 0))

noncomputable def go_ravellaw08_HeapOrders_s2 (a0_5255 : List api_Timer) (a1_5256 : List Int) (a2_5257 : Int) (a3_5258 : Int) (x_5471 : Bool) : ((List api_Timer) × Int) → Option (((List api_Timer) × Int) ⊕ (Bool))
  | (v12_5529, v48_5530) =>
    if (decide (v48_5530 < (a1_5256.length : Int))) = true then
      if 0 ≤ v48_5530 ∧ v48_5530 < (a1_5256.length : Int) then
        if (decide ((v12_5529.length : Int) > 0)) = true then
          if (v12_5529.length : Int) ≠ 0 then
            if (v12_5529.length : Int) ≠ 0 then
              if 0 ≤ (Int.tmod v48_5530 (v12_5529.length : Int)) ∧ (Int.tmod v48_5530 (v12_5529.length : Int)) < (v12_5529.length : Int) then
                if 0 ≤ (Int.tmod (IntKind.i64.wrap (gt a1_5256 v48_5530)) (v12_5529.length : Int)) ∧ (Int.tmod (IntKind.i64.wrap (gt a1_5256 v48_5530)) (v12_5529.length : Int)) < (v12_5529.length : Int) then
                  if 0 ≤ (Int.tmod v48_5530 (v12_5529.length : Int)) ∧ (Int.tmod v48_5530 (v12_5529.length : Int)) < (v12_5529.length : Int) then
                    if 0 ≤ (Int.tmod (IntKind.i64.wrap (gt a1_5256 v48_5530)) (v12_5529.length : Int)) ∧ (Int.tmod (IntKind.i64.wrap (gt a1_5256 v48_5530)) (v12_5529.length : Int)) < ((st v12_5529 (Int.tmod v48_5530 (v12_5529.length : Int)) (gt v12_5529 (Int.tmod (IntKind.i64.wrap (gt a1_5256 v48_5530)) (v12_5529.length : Int)))).length : Int) then
                      nextO (st (st v12_5529 (Int.tmod v48_5530 (v12_5529.length : Int)) (gt v12_5529 (Int.tmod (IntKind.i64.wrap (gt a1_5256 v48_5530)) (v12_5529.length : Int)))) (Int.tmod (IntKind.i64.wrap (gt a1_5256 v48_5530)) (v12_5529.length : Int)) (gt v12_5529 (Int.tmod v48_5530 (v12_5529.length : Int))), IntKind.i64.wrap (v48_5530 + 1))
                    else none
                  else none
                else none
              else none
            else none
          else none
        else
          nextO (v12_5529, IntKind.i64.wrap (v48_5530 + 1))
      else none
    else
      inrO (
        whileO (go_ravellaw08_HeapOrders_s4 a0_5255 a2_5257 a3_5258 x_5471 v12_5529) (0, []))

noncomputable def go_ravellaw08_HeapOrders (a0_5255 : List api_Timer) (a1_5256 : List Int) (a2_5257 : Int) (a3_5258 : Int) : Option Bool :=
  (go_ravellaw08_live).bind fun x_5471 =>
  if (!x_5471) = true then
    some false
  else
    if ((decide ((a0_5255.length : Int) > 60)) || (decide ((a1_5256.length : Int) > 100))) = true then
      some x_5471
    else
      if few ([] ++ a0_5255).length then
        whileO (go_ravellaw08_HeapOrders_s2 a0_5255 a1_5256 a2_5257 a3_5258 x_5471) ([] ++ a0_5255, 0)
      else none

theorem go_ravellaw08_HeapOrders_sc (a0_5255 : List api_Timer) (a1_5256 : List Int) (a2_5257 : Int) (a3_5258 : Int) (r : Bool) (h : go_ravellaw08_HeapOrders a0_5255 a1_5256 a2_5257 a3_5258 = some r) : SC Try.prog gl 9 [V.sl 2 (rws api_Timer.cells a0_5255), V.sl 1 (rws (fun n => [V.int .u8 n]) a1_5256), V.int .i64 a2_5257, V.int .i64 a3_5258] (V.bool r) := by
  rw [go_ravellaw08_HeapOrders] at h
  refine SC.of E_good Try.func9 rfl (fun _ _ => Try.call9 _ _) rfl ?_
  repeat (first | refine Safe.seq ?_ | refine Safe.skip ?_ | with_reducible refine thenQ.n ?_ | with_reducible refine blockQ.n ?_)
  refine Safe.region ?_
  refine SafeOps.quiet0 E_good rfl rfl rfl (v := V.bool false) (.fn rfl) ?_
  refine SafeOps.nil ?_
  repeat (first | refine Safe.seq ?_ | refine Safe.skip ?_ | with_reducible refine thenQ.n ?_ | with_reducible refine blockQ.n ?_)
  refine Safe.region ?_
  refine bindG h ?_
  intro x_5471 he5472 h
  refine SafeOps.quiet0 E_good rfl rfl rfl (v := V.bool x_5471) (.callP rfl rfl (go_ravellaw08_live_sc  _ he5472) rfl) ?_
  refine SafeOps.quiet0 E_good rfl rfl rfl (v := V.bool x_5471) (.fn rfl) ?_
  refine SafeOps.nil ?_
  repeat (first | refine Safe.seq ?_ | refine Safe.skip ?_ | with_reducible refine thenQ.n ?_ | with_reducible refine blockQ.n ?_)
  refine Safe.region ?_
  refine SafeOps.quiet0 E_good rfl rfl rfl (v := V.bool x_5471) (.fn rfl) ?_
  refine SafeOps.quiet0 E_good rfl rfl rfl (v := V.bool (!x_5471)) (.fn rfl) ?_
  refine SafeOps.nil ?_
  repeat (first | refine Safe.seq ?_ | refine Safe.skip ?_ | with_reducible refine thenQ.n ?_ | with_reducible refine blockQ.n ?_)
  refine ifG h (fun hc5473 h => ?_) (fun hc5473 h => ?_)
  · skip
    refine Safe.condK rfl hc5473 ?_
    repeat (first | refine Safe.seq ?_ | refine Safe.skip ?_ | with_reducible refine thenQ.n ?_ | with_reducible refine blockQ.n ?_)
    refine Safe.region ?_
    refine SafeOps.quiet0 E_good rfl rfl rfl (v := V.bool false) (.fn rfl) ?_
    refine SafeOps.nil ?_
    repeat (first | refine Safe.seq ?_ | refine Safe.skip ?_ | with_reducible refine thenQ.n ?_ | with_reducible refine blockQ.n ?_)
    refine Safe.ret ?_
    repeat (first | with_reducible refine thenQ.r ?_ | with_reducible refine blockQ.r ?_)
    obtain rfl := Option.some.inj h
    exact retQ.gen (vs := [V.bool false]) rfl (.tmp (v := V.bool false) rfl .nil) (.free rfl) (by simp) (.inr rfl)
  · skip
    refine Safe.condN rfl hc5473 ?_
    repeat (first | refine Safe.seq ?_ | refine Safe.skip ?_ | with_reducible refine thenQ.n ?_ | with_reducible refine blockQ.n ?_)
    refine Safe.region ?_
    refine SafeOps.quiet0 E_good rfl rfl rfl (v := V.sl 2 (rws api_Timer.cells a0_5255)) (.fn rfl) ?_
    refine SafeOps.quiet0 E_good rfl rfl rfl (v := V.int .i64 (a0_5255.length : Int)) (.fnE rfl lenE) ?_
    refine SafeOps.quiet0 E_good rfl rfl rfl (v := V.bool (decide ((a0_5255.length : Int) > 60))) (.fn rfl) ?_
    refine SafeOps.quiet0 E_good rfl rfl rfl (v := V.bool (decide ((a0_5255.length : Int) > 60))) (.fn rfl) ?_
    refine SafeOps.bjoin 4 42 (b := ((decide ((a0_5255.length : Int) > 60)) || (decide ((a1_5256.length : Int) > 100)))) (b1 := true) (b0 := decide ((a1_5256.length : Int) > 100)) (fun hc5474 K => ?_) (fun hc5474 K => ?_) bj_or ?_
    · skip
      refine SafeOps.skip (congrArg (fun b => some (!b)) hc5474) rfl rfl ?_
      refine SafeOps.skip (congrArg (fun b => some (!b)) hc5474) rfl rfl ?_
      refine SafeOps.skip (congrArg (fun b => some (!b)) hc5474) rfl rfl ?_
      refine SafeOps.quiet0 E_good rfl rfl rfl (v := V.bool true) (.pickK rfl hc5474 rfl) ?_
      exact SafeOps.drop' 4 rfl rfl rfl K
    · skip
      refine SafeOps.quiet0 E_good (congrArg (fun b => some (!b)) hc5474) rfl rfl (v := V.sl 1 (rws (fun n => [V.int .u8 n]) a1_5256)) (.fn rfl) ?_
      refine SafeOps.quiet0 E_good (congrArg (fun b => some (!b)) hc5474) rfl rfl (v := V.int .i64 (a1_5256.length : Int)) (.fnE rfl lenE) ?_
      refine SafeOps.quiet0 E_good (congrArg (fun b => some (!b)) hc5474) rfl rfl (v := V.bool (decide ((a1_5256.length : Int) > 100))) (.fn rfl) ?_
      refine SafeOps.quiet0 E_good rfl rfl rfl (v := V.bool (decide ((a1_5256.length : Int) > 100))) (.pickK rfl hc5474 rfl) ?_
      exact SafeOps.drop' 4 rfl rfl rfl K
    refine SafeOps.nil ?_
    repeat (first | refine Safe.seq ?_ | refine Safe.skip ?_ | with_reducible refine thenQ.n ?_ | with_reducible refine blockQ.n ?_)
    refine ifG h (fun hc5475 h => ?_) (fun hc5475 h => ?_)
    · skip
      refine Safe.condK rfl hc5475 ?_
      repeat (first | refine Safe.seq ?_ | refine Safe.skip ?_ | with_reducible refine thenQ.n ?_ | with_reducible refine blockQ.n ?_)
      refine Safe.region ?_
      refine SafeOps.quiet0 E_good rfl rfl rfl (v := V.bool x_5471) (.fn rfl) ?_
      refine SafeOps.quiet0 E_good rfl rfl rfl (v := V.bool x_5471) (.fn rfl) ?_
      refine SafeOps.nil ?_
      repeat (first | refine Safe.seq ?_ | refine Safe.skip ?_ | with_reducible refine thenQ.n ?_ | with_reducible refine blockQ.n ?_)
      refine Safe.ret ?_
      repeat (first | with_reducible refine thenQ.r ?_ | with_reducible refine blockQ.r ?_)
      obtain rfl := Option.some.inj h
      exact retQ.gen (vs := [V.bool x_5471]) rfl (.tmp (v := V.bool x_5471) rfl .nil) (.free rfl) (by simp) (.inr rfl)
    · skip
      refine Safe.condN rfl hc5475 ?_
      repeat (first | refine Safe.seq ?_ | refine Safe.skip ?_ | with_reducible refine thenQ.n ?_ | with_reducible refine blockQ.n ?_)
      refine Safe.region ?_
      refine SafeOps.quiet0 E_good rfl rfl rfl (v := V.nils) (.fn rfl) ?_
      refine SafeOps.quiet0 E_good rfl rfl rfl (v := V.nils) (.fn rfl) ?_
      refine SafeOps.nil ?_
      repeat (first | refine Safe.seq ?_ | refine Safe.skip ?_ | with_reducible refine thenQ.n ?_ | with_reducible refine blockQ.n ?_)
      refine Safe.region ?_
      refine SafeOps.quiet0 E_good rfl rfl rfl (v := V.sl 2 (rws api_Timer.cells a0_5255)) (.fn rfl) ?_
      refine okG h (fun hb5476 h => ?_)
      refine SafeOps.appendM api_Timer.cells (xs := []) (ys := a0_5255) E_good rfl rfl rfl rfl rfl rfl rfl rfl rfl .nils (.sl _) (fun _ => rfl) hb5476 ?_
      refine SafeOps.quiet0 E_good rfl rfl rfl (v := V.ref [45] 0 (rws api_Timer.cells ([] ++ a0_5255)).length) (.fn rfl) ?_
      refine SafeOps.nil ?_
      repeat (first | refine Safe.seq ?_ | refine Safe.skip ?_ | with_reducible refine thenQ.n ?_ | with_reducible refine blockQ.n ?_)
      refine Safe.region ?_
      refine SafeOps.quiet0 E_good rfl rfl rfl (v := V.sl 1 (rws (fun n => [V.int .u8 n]) a1_5256)) (.fn rfl) ?_
      refine SafeOps.quiet0 E_good rfl rfl rfl (v := V.int .i64 (a1_5256.length : Int)) (.fnE rfl lenE) ?_
      refine SafeOps.quiet0 E_good rfl rfl rfl (v := V.int .i64 0) (.fn rfl) ?_
      refine SafeOps.nil ?_
      repeat (first | refine Safe.seq ?_ | refine Safe.skip ?_ | with_reducible refine thenQ.n ?_ | with_reducible refine blockQ.n ?_)
      refine Safe.block ?_
      repeat (first | refine Safe.seq ?_ | refine Safe.skip ?_ | with_reducible refine thenQ.n ?_ | with_reducible refine blockQ.n ?_)
      refine Safe.loopW (fun ((v12_5529, v48_5530) : (List api_Timer) × Int) => ⟨Try.f9.ntmps, [(0, V.sl 2 (rws api_Timer.cells a0_5255)), (2, V.int .i64 a2_5257), (3, V.int .i64 a3_5258), (9, V.bool x_5471), (10, V.nils), (11, V.nils), (12, V.ref [45] 0 (rws api_Timer.cells v12_5529).length), (46, V.sl 1 (rws (fun n => [V.int .u8 n]) a1_5256)), (47, V.int .i64 (a1_5256.length : Int)), (48, V.int .i64 v48_5530)], [([45], Obj.rows 2 (rws api_Timer.cells v12_5529) false)], [], []⟩) h (.cov ⟨rfl, rfl, (upT_cons (.refl _) (upT_cons (.refl _) (upT_cons (.refl _) (upT_cons (.refl _) (upT_cons (.refl _) (upT_cons (.refl _) (upT_cons (.refl _) (upT_cons (.refl _) (upT_cons (.refl _) (upT_cons (.refl _) upT_nil)))))))))), (upOb_cons rfl (.refl _) upOb_nil), upOut_nil, rfl⟩) ?_
      rintro ⟨v12_5529, v48_5530⟩ ohr5531 h hr5531
      replace h : go_ravellaw08_HeapOrders_s2 a0_5255 a1_5256 a2_5257 a3_5258 x_5471 (v12_5529, v48_5530) = some ohr5531 := h
      rw [go_ravellaw08_HeapOrders_s2] at h
      repeat (first | refine Safe.seq ?_ | refine Safe.skip ?_ | with_reducible refine thenQ.n ?_ | with_reducible refine blockQ.n ?_)
      refine Safe.region ?_
      refine SafeOps.quiet0 E_good rfl rfl rfl (v := V.bool (decide (v48_5530 < (a1_5256.length : Int)))) (.fn rfl) ?_
      refine SafeOps.nil ?_
      repeat (first | refine Safe.seq ?_ | refine Safe.skip ?_ | with_reducible refine thenQ.n ?_ | with_reducible refine blockQ.n ?_)
      refine ifG h (fun hc5532 h => ?_) (fun hc5532 h => ?_)
      · skip
        refine Safe.condK rfl hc5532 ?_
        repeat (first | refine Safe.seq ?_ | refine Safe.skip ?_ | with_reducible refine thenQ.n ?_ | with_reducible refine blockQ.n ?_)
        refine Safe.block ?_
        repeat (first | refine Safe.seq ?_ | refine Safe.skip ?_ | with_reducible refine thenQ.n ?_ | with_reducible refine blockQ.n ?_)
        refine Safe.region ?_
        refine SafeOps.quiet0 E_good rfl rfl rfl (v := V.int .i64 v48_5530) (.fn rfl) ?_
        refine okG h (fun hb5533 h => ?_)
        refine SafeOps.quiet0 E_good rfl rfl rfl (v := V.spt 1 (rws (fun n => [V.int .u8 n]) a1_5256) (Int.toNat v48_5530) 0) (.idxSlM (f := (fun n => [V.int .u8 n])) rfl rfl rfl rfl rfl hb5533) ?_
        refine SafeOps.quiet0 E_good rfl rfl rfl (v := V.int .u8 (gt a1_5256 v48_5530)) (.load rfl rfl (.sptM (f := (fun n => [V.int .u8 n])) hb5533 rfl) rfl) ?_
        refine SafeOps.quiet0 E_good rfl rfl rfl (v := V.int .i64 v48_5530) (.fn rfl) ?_
        refine SafeOps.quiet0 E_good rfl rfl rfl (v := V.int .u8 (gt a1_5256 v48_5530)) (.fn rfl) ?_
        refine SafeOps.nil ?_
        repeat (first | refine Safe.seq ?_ | refine Safe.skip ?_ | with_reducible refine thenQ.n ?_ | with_reducible refine blockQ.n ?_)
        refine Safe.region ?_
        refine SafeOps.quiet0 E_good rfl rfl rfl (v := V.ref [45] 0 (rws api_Timer.cells v12_5529).length) (.fn rfl) ?_
        refine SafeOps.quiet0 E_good rfl rfl rfl (v := V.int .i64 (v12_5529.length : Int)) (.fnE rfl lenE) ?_
        refine SafeOps.quiet0 E_good rfl rfl rfl (v := V.bool (decide ((v12_5529.length : Int) > 0))) (.fn rfl) ?_
        refine SafeOps.nil ?_
        repeat (first | refine Safe.seq ?_ | refine Safe.skip ?_ | with_reducible refine thenQ.n ?_ | with_reducible refine blockQ.n ?_)
        refine ifG h (fun hc5534 h => ?_) (fun hc5534 h => ?_)
        · skip
          refine Safe.condK rfl hc5534 ?_
          repeat (first | refine Safe.seq ?_ | refine Safe.skip ?_ | with_reducible refine thenQ.n ?_ | with_reducible refine blockQ.n ?_)
          refine Safe.region ?_
          refine SafeOps.quiet0 E_good rfl rfl rfl (v := V.int .i64 v48_5530) (.fn rfl) ?_
          refine SafeOps.quiet0 E_good rfl rfl rfl (v := V.ref [45] 0 (rws api_Timer.cells v12_5529).length) (.fn rfl) ?_
          refine SafeOps.quiet0 E_good rfl rfl rfl (v := V.int .i64 (v12_5529.length : Int)) (.fnE rfl lenE) ?_
          refine okG h (fun hb5535 h => ?_)
          refine SafeOps.quiet0 E_good rfl rfl rfl (v := V.int .i64 (Int.tmod v48_5530 (v12_5529.length : Int))) (.remV rfl rfl hb5535) ?_
          refine SafeOps.quiet0 E_good rfl rfl rfl (v := V.int .i64 (Int.tmod v48_5530 (v12_5529.length : Int))) (.fn rfl) ?_
          refine SafeOps.nil ?_
          repeat (first | refine Safe.seq ?_ | refine Safe.skip ?_ | with_reducible refine thenQ.n ?_ | with_reducible refine blockQ.n ?_)
          refine Safe.region ?_
          refine SafeOps.quiet0 E_good rfl rfl rfl (v := V.int .u8 (gt a1_5256 v48_5530)) (.fn rfl) ?_
          refine SafeOps.quiet0 E_good rfl rfl rfl (v := V.int .i64 (IntKind.i64.wrap (gt a1_5256 v48_5530))) (.fn rfl) ?_
          refine SafeOps.quiet0 E_good rfl rfl rfl (v := V.ref [45] 0 (rws api_Timer.cells v12_5529).length) (.fn rfl) ?_
          refine SafeOps.quiet0 E_good rfl rfl rfl (v := V.int .i64 (v12_5529.length : Int)) (.fnE rfl lenE) ?_
          refine okG h (fun hb5536 h => ?_)
          refine SafeOps.quiet0 E_good rfl rfl rfl (v := V.int .i64 (Int.tmod (IntKind.i64.wrap (gt a1_5256 v48_5530)) (v12_5529.length : Int))) (.remV rfl rfl hb5536) ?_
          refine SafeOps.quiet0 E_good rfl rfl rfl (v := V.int .i64 (Int.tmod (IntKind.i64.wrap (gt a1_5256 v48_5530)) (v12_5529.length : Int))) (.fn rfl) ?_
          refine SafeOps.nil ?_
          repeat (first | refine Safe.seq ?_ | refine Safe.skip ?_ | with_reducible refine thenQ.n ?_ | with_reducible refine blockQ.n ?_)
          refine Safe.region ?_
          refine SafeOps.quiet0 E_good rfl rfl rfl (v := V.ref [45] 0 (rws api_Timer.cells v12_5529).length) (.fn rfl) ?_
          refine SafeOps.quiet0 E_good rfl rfl rfl (v := V.int .i64 (Int.tmod v48_5530 (v12_5529.length : Int))) (.fn rfl) ?_
          refine okG h (fun hb5537 h => ?_)
          refine SafeOps.quiet0 E_good rfl rfl rfl (v := V.ptr [45] (0 + Int.toNat (Int.tmod v48_5530 (v12_5529.length : Int))) 0) (.idxRefM (f := api_Timer.cells) (xs := v12_5529) rfl rfl rfl rfl rfl rfl hb5537) ?_
          refine SafeOps.quiet0 E_good rfl rfl rfl (v := V.agg [V.int .i64 ((gt v12_5529 (Int.tmod v48_5530 (v12_5529.length : Int))).At), V.int .i64 ((gt v12_5529 (Int.tmod v48_5530 (v12_5529.length : Int))).Id)]) (.load rfl rfl (.rowsM (f := api_Timer.cells) (xs := v12_5529) hb5537 rfl rfl) rfl) ?_
          refine SafeOps.quiet1 E_good rfl rfl rfl (.alloc rfl rfl) rfl ?_
          refine SafeOps.store (z := Obj.box [V.int .i64 ((gt v12_5529 (Int.tmod v48_5530 (v12_5529.length : Int))).At), V.int .i64 ((gt v12_5529 (Int.tmod v48_5530 (v12_5529.length : Int))).Id)]) E_good rfl rfl rfl rfl rfl rfl rfl (.boxM (c := 2) rfl rfl (Nat.le_of_ble_eq_true rfl) rfl) ?_
          refine SafeOps.nil ?_
          repeat (first | refine Safe.seq ?_ | refine Safe.skip ?_ | with_reducible refine thenQ.n ?_ | with_reducible refine blockQ.n ?_)
          refine Safe.region ?_
          refine SafeOps.quiet0 E_good rfl rfl rfl (v := V.ref [45] 0 (rws api_Timer.cells v12_5529).length) (.fn rfl) ?_
          refine SafeOps.quiet0 E_good rfl rfl rfl (v := V.int .i64 (Int.tmod v48_5530 (v12_5529.length : Int))) (.fn rfl) ?_
          refine SafeOps.quiet0 E_good rfl rfl rfl (v := V.ref [45] 0 (rws api_Timer.cells v12_5529).length) (.fn rfl) ?_
          refine SafeOps.quiet0 E_good rfl rfl rfl (v := V.int .i64 (Int.tmod (IntKind.i64.wrap (gt a1_5256 v48_5530)) (v12_5529.length : Int))) (.fn rfl) ?_
          refine okG h (fun hb5538 h => ?_)
          refine SafeOps.quiet0 E_good rfl rfl rfl (v := V.ptr [45] (0 + Int.toNat (Int.tmod (IntKind.i64.wrap (gt a1_5256 v48_5530)) (v12_5529.length : Int))) 0) (.idxRefM (f := api_Timer.cells) (xs := v12_5529) rfl rfl rfl rfl rfl rfl hb5538) ?_
          refine SafeOps.quiet0 E_good rfl rfl rfl (v := V.agg [V.int .i64 ((gt v12_5529 (Int.tmod (IntKind.i64.wrap (gt a1_5256 v48_5530)) (v12_5529.length : Int))).At), V.int .i64 ((gt v12_5529 (Int.tmod (IntKind.i64.wrap (gt a1_5256 v48_5530)) (v12_5529.length : Int))).Id)]) (.load rfl rfl (.rowsM (f := api_Timer.cells) (xs := v12_5529) hb5538 rfl rfl) rfl) ?_
          refine okG h (fun hb5539 h => ?_)
          refine SafeOps.quiet0 E_good rfl rfl rfl (v := V.ptr [45] (0 + Int.toNat (Int.tmod v48_5530 (v12_5529.length : Int))) 0) (.idxRefM (f := api_Timer.cells) (xs := v12_5529) rfl rfl rfl rfl rfl rfl hb5539) ?_
          refine SafeOps.store (z := Obj.rows 2 (rws api_Timer.cells (st v12_5529 (Int.tmod v48_5530 (v12_5529.length : Int)) (gt v12_5529 (Int.tmod (IntKind.i64.wrap (gt a1_5256 v48_5530)) (v12_5529.length : Int))))) false) E_good rfl rfl rfl rfl rfl rfl rfl (.rowsM (f := api_Timer.cells) (xs := v12_5529) (y := (gt v12_5529 (Int.tmod (IntKind.i64.wrap (gt a1_5256 v48_5530)) (v12_5529.length : Int)))) hb5539 rfl rfl rfl rfl) ?_
          refine SafeOps.see 12 (u := V.ref [45] 0 (rws api_Timer.cells (st v12_5529 (Int.tmod v48_5530 (v12_5529.length : Int)) (gt v12_5529 (Int.tmod (IntKind.i64.wrap (gt a1_5256 v48_5530)) (v12_5529.length : Int))))).length) rfl (.len (by simp [rws, st])) ?_
          refine SafeOps.see 53 (u := V.ref [45] 0 (rws api_Timer.cells (st v12_5529 (Int.tmod v48_5530 (v12_5529.length : Int)) (gt v12_5529 (Int.tmod (IntKind.i64.wrap (gt a1_5256 v48_5530)) (v12_5529.length : Int))))).length) rfl (.len (by simp [rws, st])) ?_
          refine SafeOps.see 57 (u := V.ref [45] 0 (rws api_Timer.cells (st v12_5529 (Int.tmod v48_5530 (v12_5529.length : Int)) (gt v12_5529 (Int.tmod (IntKind.i64.wrap (gt a1_5256 v48_5530)) (v12_5529.length : Int))))).length) rfl (.len (by simp [rws, st])) ?_
          refine SafeOps.see 62 (u := V.ref [45] 0 (rws api_Timer.cells (st v12_5529 (Int.tmod v48_5530 (v12_5529.length : Int)) (gt v12_5529 (Int.tmod (IntKind.i64.wrap (gt a1_5256 v48_5530)) (v12_5529.length : Int))))).length) rfl (.len (by simp [rws, st])) ?_
          refine SafeOps.see 65 (u := V.ref [45] 0 (rws api_Timer.cells (st v12_5529 (Int.tmod v48_5530 (v12_5529.length : Int)) (gt v12_5529 (Int.tmod (IntKind.i64.wrap (gt a1_5256 v48_5530)) (v12_5529.length : Int))))).length) rfl (.len (by simp [rws, st])) ?_
          refine SafeOps.see 69 (u := V.ref [45] 0 (rws api_Timer.cells (st v12_5529 (Int.tmod v48_5530 (v12_5529.length : Int)) (gt v12_5529 (Int.tmod (IntKind.i64.wrap (gt a1_5256 v48_5530)) (v12_5529.length : Int))))).length) rfl (.len (by simp [rws, st])) ?_
          refine SafeOps.see 71 (u := V.ref [45] 0 (rws api_Timer.cells (st v12_5529 (Int.tmod v48_5530 (v12_5529.length : Int)) (gt v12_5529 (Int.tmod (IntKind.i64.wrap (gt a1_5256 v48_5530)) (v12_5529.length : Int))))).length) rfl (.len (by simp [rws, st])) ?_
          refine SafeOps.nil ?_
          repeat (first | refine Safe.seq ?_ | refine Safe.skip ?_ | with_reducible refine thenQ.n ?_ | with_reducible refine blockQ.n ?_)
          refine Safe.region ?_
          refine SafeOps.quiet0 E_good rfl rfl rfl (v := V.ref [45] 0 (rws api_Timer.cells (st v12_5529 (Int.tmod v48_5530 (v12_5529.length : Int)) (gt v12_5529 (Int.tmod (IntKind.i64.wrap (gt a1_5256 v48_5530)) (v12_5529.length : Int))))).length) (.fn rfl) ?_
          refine SafeOps.quiet0 E_good rfl rfl rfl (v := V.int .i64 (Int.tmod (IntKind.i64.wrap (gt a1_5256 v48_5530)) (v12_5529.length : Int))) (.fn rfl) ?_
          refine SafeOps.quiet0 E_good rfl rfl rfl (v := V.agg [V.int .i64 ((gt v12_5529 (Int.tmod v48_5530 (v12_5529.length : Int))).At), V.int .i64 ((gt v12_5529 (Int.tmod v48_5530 (v12_5529.length : Int))).Id)]) (.load rfl rfl (.box rfl rfl) rfl) ?_
          refine okG h (fun hb5540 h => ?_)
          refine SafeOps.quiet0 E_good rfl rfl rfl (v := V.ptr [45] (0 + Int.toNat (Int.tmod (IntKind.i64.wrap (gt a1_5256 v48_5530)) (v12_5529.length : Int))) 0) (.idxRefM (f := api_Timer.cells) (xs := st v12_5529 (Int.tmod v48_5530 (v12_5529.length : Int)) (gt v12_5529 (Int.tmod (IntKind.i64.wrap (gt a1_5256 v48_5530)) (v12_5529.length : Int)))) rfl rfl rfl rfl rfl rfl hb5540) ?_
          refine SafeOps.store (z := Obj.rows 2 (rws api_Timer.cells (st (st v12_5529 (Int.tmod v48_5530 (v12_5529.length : Int)) (gt v12_5529 (Int.tmod (IntKind.i64.wrap (gt a1_5256 v48_5530)) (v12_5529.length : Int)))) (Int.tmod (IntKind.i64.wrap (gt a1_5256 v48_5530)) (v12_5529.length : Int)) (gt v12_5529 (Int.tmod v48_5530 (v12_5529.length : Int))))) false) E_good rfl rfl rfl rfl rfl rfl rfl (.rowsM (f := api_Timer.cells) (xs := st v12_5529 (Int.tmod v48_5530 (v12_5529.length : Int)) (gt v12_5529 (Int.tmod (IntKind.i64.wrap (gt a1_5256 v48_5530)) (v12_5529.length : Int)))) (y := (gt v12_5529 (Int.tmod v48_5530 (v12_5529.length : Int)))) hb5540 rfl rfl rfl rfl) ?_
          refine SafeOps.see 12 (u := V.ref [45] 0 (rws api_Timer.cells (st (st v12_5529 (Int.tmod v48_5530 (v12_5529.length : Int)) (gt v12_5529 (Int.tmod (IntKind.i64.wrap (gt a1_5256 v48_5530)) (v12_5529.length : Int)))) (Int.tmod (IntKind.i64.wrap (gt a1_5256 v48_5530)) (v12_5529.length : Int)) (gt v12_5529 (Int.tmod v48_5530 (v12_5529.length : Int))))).length) rfl (.len (by simp [rws, st])) ?_
          refine SafeOps.see 53 (u := V.ref [45] 0 (rws api_Timer.cells (st (st v12_5529 (Int.tmod v48_5530 (v12_5529.length : Int)) (gt v12_5529 (Int.tmod (IntKind.i64.wrap (gt a1_5256 v48_5530)) (v12_5529.length : Int)))) (Int.tmod (IntKind.i64.wrap (gt a1_5256 v48_5530)) (v12_5529.length : Int)) (gt v12_5529 (Int.tmod v48_5530 (v12_5529.length : Int))))).length) rfl (.len (by simp [rws, st])) ?_
          refine SafeOps.see 57 (u := V.ref [45] 0 (rws api_Timer.cells (st (st v12_5529 (Int.tmod v48_5530 (v12_5529.length : Int)) (gt v12_5529 (Int.tmod (IntKind.i64.wrap (gt a1_5256 v48_5530)) (v12_5529.length : Int)))) (Int.tmod (IntKind.i64.wrap (gt a1_5256 v48_5530)) (v12_5529.length : Int)) (gt v12_5529 (Int.tmod v48_5530 (v12_5529.length : Int))))).length) rfl (.len (by simp [rws, st])) ?_
          refine SafeOps.see 62 (u := V.ref [45] 0 (rws api_Timer.cells (st (st v12_5529 (Int.tmod v48_5530 (v12_5529.length : Int)) (gt v12_5529 (Int.tmod (IntKind.i64.wrap (gt a1_5256 v48_5530)) (v12_5529.length : Int)))) (Int.tmod (IntKind.i64.wrap (gt a1_5256 v48_5530)) (v12_5529.length : Int)) (gt v12_5529 (Int.tmod v48_5530 (v12_5529.length : Int))))).length) rfl (.len (by simp [rws, st])) ?_
          refine SafeOps.see 65 (u := V.ref [45] 0 (rws api_Timer.cells (st (st v12_5529 (Int.tmod v48_5530 (v12_5529.length : Int)) (gt v12_5529 (Int.tmod (IntKind.i64.wrap (gt a1_5256 v48_5530)) (v12_5529.length : Int)))) (Int.tmod (IntKind.i64.wrap (gt a1_5256 v48_5530)) (v12_5529.length : Int)) (gt v12_5529 (Int.tmod v48_5530 (v12_5529.length : Int))))).length) rfl (.len (by simp [rws, st])) ?_
          refine SafeOps.see 69 (u := V.ref [45] 0 (rws api_Timer.cells (st (st v12_5529 (Int.tmod v48_5530 (v12_5529.length : Int)) (gt v12_5529 (Int.tmod (IntKind.i64.wrap (gt a1_5256 v48_5530)) (v12_5529.length : Int)))) (Int.tmod (IntKind.i64.wrap (gt a1_5256 v48_5530)) (v12_5529.length : Int)) (gt v12_5529 (Int.tmod v48_5530 (v12_5529.length : Int))))).length) rfl (.len (by simp [rws, st])) ?_
          refine SafeOps.see 71 (u := V.ref [45] 0 (rws api_Timer.cells (st (st v12_5529 (Int.tmod v48_5530 (v12_5529.length : Int)) (gt v12_5529 (Int.tmod (IntKind.i64.wrap (gt a1_5256 v48_5530)) (v12_5529.length : Int)))) (Int.tmod (IntKind.i64.wrap (gt a1_5256 v48_5530)) (v12_5529.length : Int)) (gt v12_5529 (Int.tmod v48_5530 (v12_5529.length : Int))))).length) rfl (.len (by simp [rws, st])) ?_
          refine SafeOps.see 76 (u := V.ref [45] 0 (rws api_Timer.cells (st (st v12_5529 (Int.tmod v48_5530 (v12_5529.length : Int)) (gt v12_5529 (Int.tmod (IntKind.i64.wrap (gt a1_5256 v48_5530)) (v12_5529.length : Int)))) (Int.tmod (IntKind.i64.wrap (gt a1_5256 v48_5530)) (v12_5529.length : Int)) (gt v12_5529 (Int.tmod v48_5530 (v12_5529.length : Int))))).length) rfl (.len (by simp [rws, st])) ?_
          refine SafeOps.nil ?_
          repeat (first | refine Safe.seq ?_ | refine Safe.skip ?_ | with_reducible refine thenQ.n ?_ | with_reducible refine blockQ.n ?_)
          refine Safe.region ?_
          refine SafeOps.quiet0 E_good rfl rfl rfl (v := V.int .i64 (IntKind.i64.wrap (v48_5530 + 1))) (.fn rfl) ?_
          refine SafeOps.quiet0 E_good rfl rfl rfl (v := V.int .i64 (IntKind.i64.wrap (v48_5530 + 1))) (.fn rfl) ?_
          refine SafeOps.nil ?_
          repeat (first | refine Safe.seq ?_ | refine Safe.skip ?_ | with_reducible refine thenQ.n ?_ | with_reducible refine blockQ.n ?_)
          exact ⟨_, next_out h, (.cov ⟨rfl, rfl, (upT_cons (.refl _) (upT_cons (.refl _) (upT_cons (.refl _) (upT_cons (.refl _) (upT_cons (.refl _) (upT_cons (.refl _) (upT_cons (.refl _) (upT_cons (.refl _) (upT_cons (.refl _) (upT_cons (.refl _) upT_nil)))))))))), (upOb_cons rfl (.refl _) upOb_nil), upOut_nil, rfl⟩)⟩
        · skip
          refine Safe.condN rfl hc5534 ?_
          repeat (first | refine Safe.seq ?_ | refine Safe.skip ?_ | with_reducible refine thenQ.n ?_ | with_reducible refine blockQ.n ?_)
          refine Safe.region ?_
          refine SafeOps.quiet0 E_good rfl rfl rfl (v := V.int .i64 (IntKind.i64.wrap (v48_5530 + 1))) (.fn rfl) ?_
          refine SafeOps.quiet0 E_good rfl rfl rfl (v := V.int .i64 (IntKind.i64.wrap (v48_5530 + 1))) (.fn rfl) ?_
          refine SafeOps.nil ?_
          repeat (first | refine Safe.seq ?_ | refine Safe.skip ?_ | with_reducible refine thenQ.n ?_ | with_reducible refine blockQ.n ?_)
          exact ⟨_, next_out h, (.cov ⟨rfl, rfl, (upT_cons (.refl _) (upT_cons (.refl _) (upT_cons (.refl _) (upT_cons (.refl _) (upT_cons (.refl _) (upT_cons (.refl _) (upT_cons (.refl _) (upT_cons (.refl _) (upT_cons (.refl _) (upT_cons (.refl _) upT_nil)))))))))), (upOb_cons rfl (.refl _) upOb_nil), upOut_nil, rfl⟩)⟩
      · skip
        refine Safe.condN rfl hc5532 ?_
        repeat (first | refine Safe.seq ?_ | refine Safe.skip ?_ | with_reducible refine thenQ.n ?_ | with_reducible refine blockQ.n ?_)
        refine Safe.exit ?_
        repeat (first | with_reducible refine thenQ.e ?_ | with_reducible refine blockQ.x rfl ?_ | with_reducible refine blockQ.y rfl ?_)
        replace h := inr_out h hr5531
        repeat (first | refine Safe.seq ?_ | refine Safe.skip ?_ | with_reducible refine thenQ.n ?_ | with_reducible refine blockQ.n ?_)
        refine Safe.region ?_
        refine SafeOps.quiet1 E_good rfl rfl rfl (.mkMapM (fun n : Int => V.int .i64 n) (fun b : Bool => V.bool b)) rfl ?_
        refine SafeOps.quiet0 E_good rfl rfl rfl (v := V.mapr [81]) (.fn rfl) ?_
        refine SafeOps.nil ?_
        repeat (first | refine Safe.seq ?_ | refine Safe.skip ?_ | with_reducible refine thenQ.n ?_ | with_reducible refine blockQ.n ?_)
        refine Safe.region ?_
        refine SafeOps.quiet0 E_good rfl rfl rfl (v := V.sl 2 (rws api_Timer.cells a0_5255)) (.fn rfl) ?_
        refine SafeOps.quiet0 E_good rfl rfl rfl (v := V.int .i64 (a0_5255.length : Int)) (.fnE rfl lenE) ?_
        refine SafeOps.quiet0 E_good rfl rfl rfl (v := V.int .i64 0) (.fn rfl) ?_
        refine SafeOps.nil ?_
        repeat (first | refine Safe.seq ?_ | refine Safe.skip ?_ | with_reducible refine thenQ.n ?_ | with_reducible refine blockQ.n ?_)
        refine Safe.block ?_
        repeat (first | refine Safe.seq ?_ | refine Safe.skip ?_ | with_reducible refine thenQ.n ?_ | with_reducible refine blockQ.n ?_)
        refine Safe.loopW (fun ((v84_5563, vm_5564) : Int × (List (Int × Bool))) => ⟨Try.f9.ntmps, [(0, V.sl 2 (rws api_Timer.cells a0_5255)), (2, V.int .i64 a2_5257), (3, V.int .i64 a3_5258), (9, V.bool x_5471), (10, V.nils), (11, V.nils), (12, V.ref [45] 0 (rws api_Timer.cells v12_5529).length), (18, V.mapr [81]), (82, V.sl 2 (rws api_Timer.cells a0_5255)), (83, V.int .i64 (a0_5255.length : Int)), (84, V.int .i64 v84_5563)], [([45], Obj.rows 2 (rws api_Timer.cells v12_5529) false), ([81], Go.AM.Obj.map (mps (fun n : Int => V.int .i64 n) (fun b : Bool => V.bool b) vm_5564))], [], []⟩) h (.cov ⟨rfl, rfl, (upT_cons (.refl _) (upT_cons (.refl _) (upT_cons (.refl _) (upT_cons (.refl _) (upT_cons (.refl _) (upT_cons (.refl _) (upT_cons (.refl _) (upT_cons (.refl _) (upT_cons (.refl _) (upT_cons (.refl _) (upT_cons (.refl _) upT_nil))))))))))), (upOb_cons rfl (.refl _) (upOb_cons rfl (.refl _) upOb_nil)), upOut_nil, rfl⟩) ?_
        rintro ⟨v84_5563, vm_5564⟩ ohr5565 h hr5565
        replace h : go_ravellaw08_HeapOrders_s4 a0_5255 a2_5257 a3_5258 x_5471 v12_5529 (v84_5563, vm_5564) = some ohr5565 := h
        rw [go_ravellaw08_HeapOrders_s4] at h
        repeat (first | refine Safe.seq ?_ | refine Safe.skip ?_ | with_reducible refine thenQ.n ?_ | with_reducible refine blockQ.n ?_)
        refine Safe.region ?_
        refine SafeOps.quiet0 E_good rfl rfl rfl (v := V.bool (decide (v84_5563 < (a0_5255.length : Int)))) (.fn rfl) ?_
        refine SafeOps.nil ?_
        repeat (first | refine Safe.seq ?_ | refine Safe.skip ?_ | with_reducible refine thenQ.n ?_ | with_reducible refine blockQ.n ?_)
        refine ifG h (fun hc5566 h => ?_) (fun hc5566 h => ?_)
        · skip
          refine Safe.condK rfl hc5566 ?_
          repeat (first | refine Safe.seq ?_ | refine Safe.skip ?_ | with_reducible refine thenQ.n ?_ | with_reducible refine blockQ.n ?_)
          refine Safe.block ?_
          repeat (first | refine Safe.seq ?_ | refine Safe.skip ?_ | with_reducible refine thenQ.n ?_ | with_reducible refine blockQ.n ?_)
          refine Safe.region ?_
          refine okG h (fun hb5567 h => ?_)
          refine SafeOps.quiet0 E_good rfl rfl rfl (v := V.spt 2 (rws api_Timer.cells a0_5255) (Int.toNat v84_5563) 0) (.idxSlM (f := api_Timer.cells) rfl rfl rfl rfl rfl hb5567) ?_
          refine SafeOps.quiet0 E_good rfl rfl rfl (v := V.agg [V.int .i64 ((gt a0_5255 v84_5563).At), V.int .i64 ((gt a0_5255 v84_5563).Id)]) (.load rfl rfl (.sptM (f := api_Timer.cells) hb5567 rfl) rfl) ?_
          refine SafeOps.quiet1 E_good rfl rfl rfl (.alloc rfl rfl) rfl ?_
          refine SafeOps.store (z := Obj.box [V.int .i64 ((gt a0_5255 v84_5563).At), V.int .i64 ((gt a0_5255 v84_5563).Id)]) E_good rfl rfl rfl rfl rfl rfl rfl (.boxM (c := 2) rfl rfl (Nat.le_of_ble_eq_true rfl) rfl) ?_
          refine SafeOps.nil ?_
          repeat (first | refine Safe.seq ?_ | refine Safe.skip ?_ | with_reducible refine thenQ.n ?_ | with_reducible refine blockQ.n ?_)
          refine Safe.region ?_
          refine SafeOps.quiet0 E_good rfl rfl rfl (v := V.mapr [81]) (.fn rfl) ?_
          refine SafeOps.quiet0 E_good rfl rfl rfl (v := V.ptr [20] 0 1) (.fn rfl) ?_
          refine SafeOps.quiet0 E_good rfl rfl rfl (v := V.int .i64 ((gt a0_5255 v84_5563).Id)) (.load rfl rfl (.box rfl rfl) rfl) ?_
          refine SafeOps.quiet0 E_good rfl rfl rfl (v := V.bool ((mget vm_5564 ((gt a0_5255 v84_5563).Id)).getD false)) (.lookM (fv := (fun b : Bool => V.bool b)) (m := vm_5564) (kk := (gt a0_5255 v84_5563).Id) (z0 := false) (keyI .i64) rfl rfl rfl rfl rfl rfl rfl rfl rfl rfl) ?_
          refine SafeOps.nil ?_
          repeat (first | refine Safe.seq ?_ | refine Safe.skip ?_ | with_reducible refine thenQ.n ?_ | with_reducible refine blockQ.n ?_)
          refine ifG h (fun hc5568 h => ?_) (fun hc5568 h => ?_)
          · skip
            refine Safe.condK rfl hc5568 ?_
            repeat (first | refine Safe.seq ?_ | refine Safe.skip ?_ | with_reducible refine thenQ.n ?_ | with_reducible refine blockQ.n ?_)
            refine Safe.region ?_
            refine SafeOps.quiet0 E_good rfl rfl rfl (v := V.bool x_5471) (.fn rfl) ?_
            refine SafeOps.quiet0 E_good rfl rfl rfl (v := V.bool x_5471) (.fn rfl) ?_
            refine SafeOps.nil ?_
            repeat (first | refine Safe.seq ?_ | refine Safe.skip ?_ | with_reducible refine thenQ.n ?_ | with_reducible refine blockQ.n ?_)
            refine Safe.ret ?_
            repeat (first | with_reducible refine thenQ.r ?_ | with_reducible refine blockQ.r ?_)
            replace h := inr_out h hr5565
            obtain rfl := Option.some.inj h
            exact retQ.gen (vs := [V.bool x_5471]) rfl (.tmp (v := V.bool x_5471) rfl .nil) (.free rfl) (by simp) (.inr rfl)
          · skip
            refine Safe.condN rfl hc5568 ?_
            repeat (first | refine Safe.seq ?_ | refine Safe.skip ?_ | with_reducible refine thenQ.n ?_ | with_reducible refine blockQ.n ?_)
            refine Safe.region ?_
            refine SafeOps.quiet0 E_good rfl rfl rfl (v := V.mapr [81]) (.fn rfl) ?_
            refine SafeOps.quiet0 E_good rfl rfl rfl (v := V.ptr [20] 0 1) (.fn rfl) ?_
            refine SafeOps.quiet0 E_good rfl rfl rfl (v := V.int .i64 ((gt a0_5255 v84_5563).Id)) (.load rfl rfl (.box rfl rfl) rfl) ?_
            refine SafeOps.mputM (fun n : Int => V.int .i64 n) (fun b : Bool => V.bool b) vm_5564 ((gt a0_5255 v84_5563).Id) true E_good (keyI .i64) rfl (.inl rfl) rfl rfl rfl rfl rfl rfl rfl rfl rfl ?_
            refine SafeOps.nil ?_
            repeat (first | refine Safe.seq ?_ | refine Safe.skip ?_ | with_reducible refine thenQ.n ?_ | with_reducible refine blockQ.n ?_)
            refine Safe.region ?_
            refine SafeOps.quiet0 E_good rfl rfl rfl (v := V.int .i64 (IntKind.i64.wrap (v84_5563 + 1))) (.fn rfl) ?_
            refine SafeOps.quiet0 E_good rfl rfl rfl (v := V.int .i64 (IntKind.i64.wrap (v84_5563 + 1))) (.fn rfl) ?_
            refine SafeOps.nil ?_
            repeat (first | refine Safe.seq ?_ | refine Safe.skip ?_ | with_reducible refine thenQ.n ?_ | with_reducible refine blockQ.n ?_)
            exact ⟨_, next_out h, (.cov ⟨rfl, rfl, (upT_cons (.refl _) (upT_cons (.refl _) (upT_cons (.refl _) (upT_cons (.refl _) (upT_cons (.refl _) (upT_cons (.refl _) (upT_cons (.refl _) (upT_cons (.refl _) (upT_cons (.refl _) (upT_cons (.refl _) (upT_cons (.refl _) upT_nil))))))))))), (upOb_cons rfl (.refl _) (upOb_cons rfl (.refl _) upOb_nil)), upOut_nil, rfl⟩)⟩
        · skip
          refine Safe.condN rfl hc5566 ?_
          repeat (first | refine Safe.seq ?_ | refine Safe.skip ?_ | with_reducible refine thenQ.n ?_ | with_reducible refine blockQ.n ?_)
          refine Safe.exit ?_
          repeat (first | with_reducible refine thenQ.e ?_ | with_reducible refine blockQ.x rfl ?_ | with_reducible refine blockQ.y rfl ?_)
          replace h := inr_out h hr5565
          repeat (first | refine Safe.seq ?_ | refine Safe.skip ?_ | with_reducible refine thenQ.n ?_ | with_reducible refine blockQ.n ?_)
          refine Safe.region ?_
          refine SafeOps.quiet0 E_good rfl rfl rfl (v := V.sl 2 (rws api_Timer.cells a0_5255)) (.fn rfl) ?_
          refine SafeOps.quiet0 E_good rfl rfl rfl (v := V.int .i64 (a0_5255.length : Int)) (.fnE rfl lenE) ?_
          refine SafeOps.quiet0 E_good rfl rfl rfl (v := V.int .i64 0) (.fn rfl) ?_
          refine SafeOps.nil ?_
          repeat (first | refine Safe.seq ?_ | refine Safe.skip ?_ | with_reducible refine thenQ.n ?_ | with_reducible refine blockQ.n ?_)
          refine Safe.block ?_
          repeat (first | refine Safe.seq ?_ | refine Safe.skip ?_ | with_reducible refine thenQ.n ?_ | with_reducible refine blockQ.n ?_)
          refine Safe.loopW (fun ((v10_5644, v11_5645, v99_5646) : (List api_Timer) × (List api_Timer) × Int) => ⟨Try.f9.ntmps, [(0, V.sl 2 (rws api_Timer.cells a0_5255)), (2, V.int .i64 a2_5257), (3, V.int .i64 a3_5258), (9, V.bool x_5471), (10, V.ref [7000, 118, 10] 0 (rws api_Timer.cells v10_5644).length), (11, V.ref [7000, 118, 11] 0 (rws api_Timer.cells v11_5645).length), (12, V.ref [45] 0 (rws api_Timer.cells v12_5529).length), (98, V.int .i64 (a0_5255.length : Int)), (99, V.int .i64 v99_5646)], [([45], Obj.rows 2 (rws api_Timer.cells v12_5529) false), ([7000, 118, 10], Obj.rows 2 (rws api_Timer.cells v10_5644) false), ([7000, 118, 11], Obj.rows 2 (rws api_Timer.cells v11_5645) false)], [], []⟩) h (.empty [7000, 118, 10] 2 rfl (.empty [7000, 118, 11] 2 rfl (.cov ⟨rfl, rfl, (upT_cons (.refl _) (upT_cons (.refl _) (upT_cons (.refl _) (upT_cons (.refl _) (upT_cons (.nilref _) (upT_cons (.nilref _) (upT_cons (.refl _) (upT_cons (.refl _) (upT_cons (.refl _) upT_nil))))))))), (upOb_cons rfl (.refl _) (upOb_cons rfl (.refl _) (upOb_cons rfl (.refl _) upOb_nil))), upOut_nil, rfl⟩))) ?_
          rintro ⟨v10_5644, v11_5645, v99_5646⟩ ohr5647 h hr5647
          replace h : go_ravellaw08_HeapOrders_s11 a0_5255 a2_5257 a3_5258 x_5471 v12_5529 (v10_5644, v11_5645, v99_5646) = some ohr5647 := h
          rw [go_ravellaw08_HeapOrders_s11] at h
          repeat (first | refine Safe.seq ?_ | refine Safe.skip ?_ | with_reducible refine thenQ.n ?_ | with_reducible refine blockQ.n ?_)
          refine Safe.region ?_
          refine SafeOps.quiet0 E_good rfl rfl rfl (v := V.bool (decide (v99_5646 < (a0_5255.length : Int)))) (.fn rfl) ?_
          refine SafeOps.nil ?_
          repeat (first | refine Safe.seq ?_ | refine Safe.skip ?_ | with_reducible refine thenQ.n ?_ | with_reducible refine blockQ.n ?_)
          refine ifG h (fun hc5648 h => ?_) (fun hc5648 h => ?_)
          · skip
            refine Safe.condK rfl hc5648 ?_
            repeat (first | refine Safe.seq ?_ | refine Safe.skip ?_ | with_reducible refine thenQ.n ?_ | with_reducible refine blockQ.n ?_)
            refine Safe.block ?_
            repeat (first | refine Safe.seq ?_ | refine Safe.skip ?_ | with_reducible refine thenQ.n ?_ | with_reducible refine blockQ.n ?_)
            refine Safe.region ?_
            refine SafeOps.quiet0 E_good rfl rfl rfl (v := V.int .i64 v99_5646) (.fn rfl) ?_
            refine SafeOps.quiet0 E_good rfl rfl rfl (v := V.int .i64 v99_5646) (.fn rfl) ?_
            refine SafeOps.nil ?_
            repeat (first | refine Safe.seq ?_ | refine Safe.skip ?_ | with_reducible refine thenQ.n ?_ | with_reducible refine blockQ.n ?_)
            refine Safe.region ?_
            refine SafeOps.quiet0 E_good rfl rfl rfl (v := V.ref [7000, 118, 10] 0 (rws api_Timer.cells v10_5644).length) (.fn rfl) ?_
            refine SafeOps.quiet0 E_good rfl rfl rfl (v := V.sl 2 (rws api_Timer.cells a0_5255)) (.fn rfl) ?_
            refine SafeOps.quiet0 E_good rfl rfl rfl (v := V.int .i64 v99_5646) (.fn rfl) ?_
            refine okG h (fun hb5649 h => ?_)
            refine SafeOps.quiet0 E_good rfl rfl rfl (v := V.spt 2 (rws api_Timer.cells a0_5255) (Int.toNat v99_5646) 0) (.idxSlM (f := api_Timer.cells) rfl rfl rfl rfl rfl hb5649) ?_
            refine SafeOps.quiet0 E_good rfl rfl rfl (v := V.agg [V.int .i64 ((gt a0_5255 v99_5646).At), V.int .i64 ((gt a0_5255 v99_5646).Id)]) (.load rfl rfl (.sptM (f := api_Timer.cells) hb5649 rfl) rfl) ?_
            refine bindG h ?_
            rintro ⟨x_5650, x_5651⟩ he5652 h
            refine SafeOps.quiet E_good rfl rfl rfl (v := V.tup [V.ref [108, 0] 0 (rws api_Timer.cells x_5650).length, V.int .i64 x_5651]) (.callS rfl (.cons (.full rfl rfl) (.cons (.free rfl) .nil)) (go_heap_Add_sc v10_5644 (gt a0_5255 v99_5646) _ he5652) (.tupL (.cons (.ownM (fun _ => rfl)) (.cons (.plain rfl) .nil))) rfl) rfl ?_
            refine SafeOps.quiet0 E_good rfl rfl rfl (v := V.tup [V.ref [108, 0] 0 (rws api_Timer.cells x_5650).length, V.int .i64 x_5651]) (.fn rfl) ?_
            refine SafeOps.quiet0 E_good rfl rfl rfl (v := V.ref [108, 0] 0 (rws api_Timer.cells x_5650).length) (.fn rfl) ?_
            refine SafeOps.quiet0 E_good rfl rfl rfl (v := V.int .i64 x_5651) (.fn rfl) ?_
            refine SafeOps.quiet0 E_good rfl rfl rfl (v := V.ref [108, 0] 0 (rws api_Timer.cells x_5650).length) (.fn rfl) ?_
            refine SafeOps.quiet0 E_good rfl rfl rfl (v := V.int .i64 x_5651) (.fn rfl) ?_
            refine SafeOps.nil ?_
            repeat (first | refine Safe.seq ?_ | refine Safe.skip ?_ | with_reducible refine thenQ.n ?_ | with_reducible refine blockQ.n ?_)
            refine Safe.region ?_
            refine SafeOps.quiet0 E_good rfl rfl rfl (v := V.int .i64 x_5651) (.fn rfl) ?_
            refine SafeOps.quiet0 E_good rfl rfl rfl (v := V.bool (x_5651 == 0)) (.fn rfl) ?_
            refine SafeOps.nil ?_
            repeat (first | refine Safe.seq ?_ | refine Safe.skip ?_ | with_reducible refine thenQ.n ?_ | with_reducible refine blockQ.n ?_)
            refine Safe.joinT (fun (v10_5653 : List api_Timer) => go_ravellaw08_HeapOrders_j12 v12_5529 v11_5645 v99_5646 v10_5653 = some ohr5647) (fun (v10_5653 : List api_Timer) => ⟨Try.f9.ntmps, [(0, V.sl 2 (rws api_Timer.cells a0_5255)), (2, V.int .i64 a2_5257), (3, V.int .i64 a3_5258), (9, V.bool x_5471), (10, V.ref [7000, 118, 10] 0 (rws api_Timer.cells v10_5653).length), (11, V.ref [7000, 118, 11] 0 (rws api_Timer.cells v11_5645).length), (12, V.ref [45] 0 (rws api_Timer.cells v12_5529).length), (21, V.int .i64 v99_5646), (98, V.int .i64 (a0_5255.length : Int)), (99, V.int .i64 v99_5646)], [([45], Obj.rows 2 (rws api_Timer.cells v12_5529) false), ([7000, 118, 10], Obj.rows 2 (rws api_Timer.cells v10_5653) false), ([7000, 118, 11], Obj.rows 2 (rws api_Timer.cells v11_5645) false)], [], []⟩) ?_ (fun HJ5654 => ?_)
            · intro v10_5653 h
              replace h : go_ravellaw08_HeapOrders_j12 v12_5529 v11_5645 v99_5646 v10_5653 = some ohr5647 := h
              rw [go_ravellaw08_HeapOrders_j12] at h
              repeat (first | refine Safe.seq ?_ | refine Safe.skip ?_ | with_reducible refine thenQ.n ?_ | with_reducible refine blockQ.n ?_)
              refine Safe.region ?_
              refine SafeOps.quiet0 E_good rfl rfl rfl (v := V.ref [7000, 118, 11] 0 (rws api_Timer.cells v11_5645).length) (.fn rfl) ?_
              refine SafeOps.quiet0 E_good rfl rfl rfl (v := V.ref [45] 0 (rws api_Timer.cells v12_5529).length) (.fn rfl) ?_
              refine SafeOps.quiet0 E_good rfl rfl rfl (v := V.int .i64 v99_5646) (.fn rfl) ?_
              refine okG h (fun hb5655 h => ?_)
              refine SafeOps.quiet0 E_good rfl rfl rfl (v := V.ptr [45] (0 + Int.toNat v99_5646) 0) (.idxRefM (f := api_Timer.cells) (xs := v12_5529) rfl rfl rfl rfl rfl rfl hb5655) ?_
              refine SafeOps.quiet0 E_good rfl rfl rfl (v := V.agg [V.int .i64 ((gt v12_5529 v99_5646).At), V.int .i64 ((gt v12_5529 v99_5646).Id)]) (.load rfl rfl (.rowsM (f := api_Timer.cells) (xs := v12_5529) hb5655 rfl rfl) rfl) ?_
              refine bindG h ?_
              rintro ⟨x_5656, x_5657⟩ he5658 h
              refine SafeOps.quiet E_good rfl rfl rfl (v := V.tup [V.ref [120, 0] 0 (rws api_Timer.cells x_5656).length, V.int .i64 x_5657]) (.callS rfl (.cons (.full rfl rfl) (.cons (.free rfl) .nil)) (go_heap_Add_sc v11_5645 (gt v12_5529 v99_5646) _ he5658) (.tupL (.cons (.ownM (fun _ => rfl)) (.cons (.plain rfl) .nil))) rfl) rfl ?_
              refine SafeOps.quiet0 E_good rfl rfl rfl (v := V.tup [V.ref [120, 0] 0 (rws api_Timer.cells x_5656).length, V.int .i64 x_5657]) (.fn rfl) ?_
              refine SafeOps.quiet0 E_good rfl rfl rfl (v := V.ref [120, 0] 0 (rws api_Timer.cells x_5656).length) (.fn rfl) ?_
              refine SafeOps.quiet0 E_good rfl rfl rfl (v := V.int .i64 x_5657) (.fn rfl) ?_
              refine SafeOps.quiet0 E_good rfl rfl rfl (v := V.ref [120, 0] 0 (rws api_Timer.cells x_5656).length) (.fn rfl) ?_
              refine SafeOps.quiet0 E_good rfl rfl rfl (v := V.int .i64 x_5657) (.fn rfl) ?_
              refine SafeOps.nil ?_
              repeat (first | refine Safe.seq ?_ | refine Safe.skip ?_ | with_reducible refine thenQ.n ?_ | with_reducible refine blockQ.n ?_)
              refine Safe.region ?_
              refine SafeOps.quiet0 E_good rfl rfl rfl (v := V.int .i64 x_5657) (.fn rfl) ?_
              refine SafeOps.quiet0 E_good rfl rfl rfl (v := V.bool (x_5657 == 0)) (.fn rfl) ?_
              refine SafeOps.nil ?_
              repeat (first | refine Safe.seq ?_ | refine Safe.skip ?_ | with_reducible refine thenQ.n ?_ | with_reducible refine blockQ.n ?_)
              refine ifG h (fun hc5659 h => ?_) (fun hc5659 h => ?_)
              · skip
                refine Safe.condK rfl hc5659 ?_
                repeat (first | refine Safe.seq ?_ | refine Safe.skip ?_ | with_reducible refine thenQ.n ?_ | with_reducible refine blockQ.n ?_)
                refine Safe.region ?_
                refine SafeOps.quiet0 E_good rfl rfl rfl (v := V.ref [120, 0] 0 (rws api_Timer.cells x_5656).length) (.fn rfl) ?_
                refine SafeOps.quiet0 E_good rfl rfl rfl (v := V.ref [120, 0] 0 (rws api_Timer.cells x_5656).length) (.fn rfl) ?_
                refine SafeOps.nil ?_
                repeat (first | refine Safe.seq ?_ | refine Safe.skip ?_ | with_reducible refine thenQ.n ?_ | with_reducible refine blockQ.n ?_)
                refine Safe.region ?_
                refine SafeOps.quiet0 E_good rfl rfl rfl (v := V.int .i64 (IntKind.i64.wrap (v99_5646 + 1))) (.fn rfl) ?_
                refine SafeOps.quiet0 E_good rfl rfl rfl (v := V.int .i64 (IntKind.i64.wrap (v99_5646 + 1))) (.fn rfl) ?_
                refine SafeOps.nil ?_
                repeat (first | refine Safe.seq ?_ | refine Safe.skip ?_ | with_reducible refine thenQ.n ?_ | with_reducible refine blockQ.n ?_)
                exact ⟨_, next_out h, (.ren [120, 0] [7000, 118, 11] (.cov ⟨rfl, rfl, (upT_cons (.refl _) (upT_cons (.refl _) (upT_cons (.refl _) (upT_cons (.refl _) (upT_cons (.refl _) (upT_cons (.refl _) (upT_cons (.refl _) (upT_cons (.refl _) (upT_cons (.refl _) upT_nil))))))))), (upOb_cons rfl (.refl _) (upOb_cons rfl (.refl _) (upOb_cons rfl (.refl _) upOb_nil))), upOut_nil, rfl⟩))⟩
              · skip
                refine Safe.condN rfl hc5659 ?_
                repeat (first | refine Safe.seq ?_ | refine Safe.skip ?_ | with_reducible refine thenQ.n ?_ | with_reducible refine blockQ.n ?_)
                refine Safe.region ?_
                refine SafeOps.quiet0 E_good rfl rfl rfl (v := V.int .i64 (IntKind.i64.wrap (v99_5646 + 1))) (.fn rfl) ?_
                refine SafeOps.quiet0 E_good rfl rfl rfl (v := V.int .i64 (IntKind.i64.wrap (v99_5646 + 1))) (.fn rfl) ?_
                refine SafeOps.nil ?_
                repeat (first | refine Safe.seq ?_ | refine Safe.skip ?_ | with_reducible refine thenQ.n ?_ | with_reducible refine blockQ.n ?_)
                exact ⟨_, next_out h, (.cov ⟨rfl, rfl, (upT_cons (.refl _) (upT_cons (.refl _) (upT_cons (.refl _) (upT_cons (.refl _) (upT_cons (.refl _) (upT_cons (.refl _) (upT_cons (.refl _) (upT_cons (.refl _) (upT_cons (.refl _) upT_nil))))))))), (upOb_cons rfl (.refl _) (upOb_cons rfl (.refl _) (upOb_cons rfl (.refl _) upOb_nil))), upOut_nil, rfl⟩)⟩
            · skip
              refine ifG h (fun hc5660 h => ?_) (fun hc5660 h => ?_)
              · skip
                refine Safe.condK rfl hc5660 ?_
                repeat (first | refine Safe.seq ?_ | refine Safe.skip ?_ | with_reducible refine thenQ.n ?_ | with_reducible refine blockQ.n ?_)
                refine Safe.region ?_
                refine SafeOps.quiet0 E_good rfl rfl rfl (v := V.ref [108, 0] 0 (rws api_Timer.cells x_5650).length) (.fn rfl) ?_
                refine SafeOps.quiet0 E_good rfl rfl rfl (v := V.ref [108, 0] 0 (rws api_Timer.cells x_5650).length) (.fn rfl) ?_
                refine SafeOps.nil ?_
                repeat (first | refine Safe.skip ?_ | with_reducible refine thenQ.n ?_ | with_reducible refine blockQ.n ?_)
                exact Safe.got (HJ5654 (x_5650) h) (.ren [108, 0] [7000, 118, 10] (.cov ⟨rfl, rfl, (upT_cons (.refl _) (upT_cons (.refl _) (upT_cons (.refl _) (upT_cons (.refl _) (upT_cons (.refl _) (upT_cons (.refl _) (upT_cons (.refl _) (upT_cons (.refl _) (upT_cons (.refl _) (upT_cons (.refl _) upT_nil)))))))))), (upOb_cons rfl (.refl _) (upOb_cons rfl (.refl _) (upOb_cons rfl (.refl _) upOb_nil))), upOut_nil, rfl⟩))
              · skip
                refine Safe.condN rfl hc5660 ?_
                repeat (first | refine Safe.skip ?_ | with_reducible refine thenQ.n ?_ | with_reducible refine blockQ.n ?_)
                exact Safe.got (HJ5654 (v10_5644) h) (.cov ⟨rfl, rfl, (upT_cons (.refl _) (upT_cons (.refl _) (upT_cons (.refl _) (upT_cons (.refl _) (upT_cons (.refl _) (upT_cons (.refl _) (upT_cons (.refl _) (upT_cons (.refl _) (upT_cons (.refl _) (upT_cons (.refl _) upT_nil)))))))))), (upOb_cons rfl (.refl _) (upOb_cons rfl (.refl _) (upOb_cons rfl (.refl _) upOb_nil))), upOut_nil, rfl⟩)
          · skip
            refine Safe.condN rfl hc5648 ?_
            repeat (first | refine Safe.seq ?_ | refine Safe.skip ?_ | with_reducible refine thenQ.n ?_ | with_reducible refine blockQ.n ?_)
            refine Safe.exit ?_
            repeat (first | with_reducible refine thenQ.e ?_ | with_reducible refine blockQ.x rfl ?_ | with_reducible refine blockQ.y rfl ?_)
            replace h := inr_out h hr5647
            repeat (first | refine Safe.seq ?_ | refine Safe.skip ?_ | with_reducible refine thenQ.n ?_ | with_reducible refine blockQ.n ?_)
            refine Safe.region ?_
            refine SafeOps.quiet0 E_good rfl rfl rfl (v := V.ref [7000, 118, 10] 0 (rws api_Timer.cells v10_5644).length) (.fn rfl) ?_
            refine SafeOps.quiet0 E_good rfl rfl rfl (v := V.ref [7000, 118, 11] 0 (rws api_Timer.cells v11_5645).length) (.fn rfl) ?_
            refine bindG h ?_
            intro x_5661 he5662 h
            refine SafeOps.quiet0 E_good rfl rfl rfl (v := V.bool x_5661) (.callS rfl (.cons (.full rfl rfl) (.cons (.full rfl rfl) .nil)) (go_heap_Same_sc v10_5644 v11_5645 _ he5662) (.plain rfl) rfl) ?_
            refine SafeOps.quiet0 E_good rfl rfl rfl (v := V.bool (!x_5661)) (.fn rfl) ?_
            refine SafeOps.nil ?_
            repeat (first | refine Safe.seq ?_ | refine Safe.skip ?_ | with_reducible refine thenQ.n ?_ | with_reducible refine blockQ.n ?_)
            refine ifG h (fun hc5663 h => ?_) (fun hc5663 h => ?_)
            · skip
              refine Safe.condK rfl hc5663 ?_
              repeat (first | refine Safe.seq ?_ | refine Safe.skip ?_ | with_reducible refine thenQ.n ?_ | with_reducible refine blockQ.n ?_)
              refine Safe.region ?_
              refine SafeOps.quiet0 E_good rfl rfl rfl (v := V.bool false) (.fn rfl) ?_
              refine SafeOps.nil ?_
              repeat (first | refine Safe.seq ?_ | refine Safe.skip ?_ | with_reducible refine thenQ.n ?_ | with_reducible refine blockQ.n ?_)
              refine Safe.ret ?_
              repeat (first | with_reducible refine thenQ.r ?_ | with_reducible refine blockQ.r ?_)
              obtain rfl := Option.some.inj h
              exact retQ.gen (vs := [V.bool false]) rfl (.tmp (v := V.bool false) rfl .nil) (.free rfl) (by simp) (.inr rfl)
            · skip
              refine Safe.condN rfl hc5663 ?_
              repeat (first | refine Safe.seq ?_ | refine Safe.skip ?_ | with_reducible refine thenQ.n ?_ | with_reducible refine blockQ.n ?_)
              refine Safe.region ?_
              refine SafeOps.quiet0 E_good rfl rfl rfl (v := V.ref [7000, 118, 10] 0 (rws api_Timer.cells v10_5644).length) (.fn rfl) ?_
              refine SafeOps.quiet0 E_good rfl rfl rfl (v := V.int .i64 a2_5257) (.fn rfl) ?_
              refine SafeOps.quiet0 E_good rfl rfl rfl (v := V.int .i64 a3_5258) (.fn rfl) ?_
              refine bindG h ?_
              rintro ⟨x_5664, x_5665⟩ he5666 h
              refine SafeOps.quiet E_good rfl rfl rfl (v := V.tup [V.ref [135, 0] 0 (rws api_Timer.cells x_5664).length, V.int .i64 x_5665]) (.callS rfl (.cons (.full rfl rfl) (.cons (.free rfl) (.cons (.free rfl) .nil))) (go_heap_Reset_sc v10_5644 a2_5257 a3_5258 _ he5666) (.tupL (.cons (.ownM (fun _ => rfl)) (.cons (.plain rfl) .nil))) rfl) rfl ?_
              refine SafeOps.quiet0 E_good rfl rfl rfl (v := V.tup [V.ref [135, 0] 0 (rws api_Timer.cells x_5664).length, V.int .i64 x_5665]) (.fn rfl) ?_
              refine SafeOps.quiet0 E_good rfl rfl rfl (v := V.ref [135, 0] 0 (rws api_Timer.cells x_5664).length) (.fn rfl) ?_
              refine SafeOps.quiet0 E_good rfl rfl rfl (v := V.int .i64 x_5665) (.fn rfl) ?_
              refine SafeOps.quiet0 E_good rfl rfl rfl (v := V.ref [135, 0] 0 (rws api_Timer.cells x_5664).length) (.fn rfl) ?_
              refine SafeOps.quiet0 E_good rfl rfl rfl (v := V.int .i64 x_5665) (.fn rfl) ?_
              refine SafeOps.nil ?_
              repeat (first | refine Safe.seq ?_ | refine Safe.skip ?_ | with_reducible refine thenQ.n ?_ | with_reducible refine blockQ.n ?_)
              refine Safe.region ?_
              refine SafeOps.quiet0 E_good rfl rfl rfl (v := V.ref [7000, 118, 10] 0 (rws api_Timer.cells v10_5644).length) (.fn rfl) ?_
              refine SafeOps.quiet0 E_good rfl rfl rfl (v := V.int .i64 a2_5257) (.fn rfl) ?_
              refine bindG h ?_
              rintro ⟨x_5667, x_5668⟩ he5669 h
              refine SafeOps.quiet E_good rfl rfl rfl (v := V.tup [V.ref [141, 0] 0 (rws api_Timer.cells x_5667).length, V.int .i64 x_5668]) (.callS rfl (.cons (.full rfl rfl) (.cons (.free rfl) .nil)) (go_heap_Cancel_sc v10_5644 a2_5257 _ he5669) (.tupL (.cons (.ownM (fun _ => rfl)) (.cons (.plain rfl) .nil))) rfl) rfl ?_
              refine SafeOps.quiet0 E_good rfl rfl rfl (v := V.tup [V.ref [141, 0] 0 (rws api_Timer.cells x_5667).length, V.int .i64 x_5668]) (.fn rfl) ?_
              refine SafeOps.quiet0 E_good rfl rfl rfl (v := V.ref [141, 0] 0 (rws api_Timer.cells x_5667).length) (.fn rfl) ?_
              refine SafeOps.quiet0 E_good rfl rfl rfl (v := V.int .i64 x_5668) (.fn rfl) ?_
              refine SafeOps.quiet0 E_good rfl rfl rfl (v := V.ref [141, 0] 0 (rws api_Timer.cells x_5667).length) (.fn rfl) ?_
              refine SafeOps.quiet0 E_good rfl rfl rfl (v := V.int .i64 x_5668) (.fn rfl) ?_
              refine SafeOps.nil ?_
              repeat (first | refine Safe.seq ?_ | refine Safe.skip ?_ | with_reducible refine thenQ.n ?_ | with_reducible refine blockQ.n ?_)
              refine Safe.region ?_
              refine SafeOps.quiet0 E_good rfl rfl rfl (v := V.int .i64 x_5665) (.fn rfl) ?_
              refine SafeOps.quiet0 E_good rfl rfl rfl (v := V.bool (x_5665 != 0)) (.fn rfl) ?_
              refine SafeOps.quiet0 E_good rfl rfl rfl (v := V.bool (x_5665 != 0)) (.fn rfl) ?_
              refine SafeOps.bjoin 3 149 (b := ((x_5665 != 0) || (x_5668 != 0))) (b1 := true) (b0 := (x_5668 != 0)) (fun hc5670 K => ?_) (fun hc5670 K => ?_) bj_or ?_
              · skip
                refine SafeOps.skip (congrArg (fun b => some (!b)) hc5670) rfl rfl ?_
                refine SafeOps.skip (congrArg (fun b => some (!b)) hc5670) rfl rfl ?_
                refine SafeOps.quiet0 E_good rfl rfl rfl (v := V.bool true) (.pickK rfl hc5670 rfl) ?_
                exact SafeOps.drop' 3 rfl rfl rfl K
              · skip
                refine SafeOps.quiet0 E_good (congrArg (fun b => some (!b)) hc5670) rfl rfl (v := V.int .i64 x_5668) (.fn rfl) ?_
                refine SafeOps.quiet0 E_good (congrArg (fun b => some (!b)) hc5670) rfl rfl (v := V.bool (x_5668 != 0)) (.fn rfl) ?_
                refine SafeOps.quiet0 E_good rfl rfl rfl (v := V.bool (x_5668 != 0)) (.pickK rfl hc5670 rfl) ?_
                exact SafeOps.drop' 3 rfl rfl rfl K
              refine SafeOps.nil ?_
              repeat (first | refine Safe.seq ?_ | refine Safe.skip ?_ | with_reducible refine thenQ.n ?_ | with_reducible refine blockQ.n ?_)
              refine ifG h (fun hc5672 h => ?_) (fun hc5672 h => ?_)
              · skip
                refine Safe.condK rfl hc5672 ?_
                repeat (first | refine Safe.seq ?_ | refine Safe.skip ?_ | with_reducible refine thenQ.n ?_ | with_reducible refine blockQ.n ?_)
                refine Safe.region ?_
                refine SafeOps.quiet0 E_good rfl rfl rfl (v := V.bool x_5471) (.fn rfl) ?_
                refine SafeOps.quiet0 E_good rfl rfl rfl (v := V.bool x_5471) (.fn rfl) ?_
                refine SafeOps.bjoin 3 154 (b := (x_5471 && (x_5665 != 0))) (b1 := (x_5665 != 0)) (b0 := false) (fun hc5673 K => ?_) (fun hc5673 K => ?_) bj_and ?_
                · skip
                  refine SafeOps.quiet0 E_good (congrArg some hc5673) rfl rfl (v := V.int .i64 x_5665) (.fn rfl) ?_
                  refine SafeOps.quiet0 E_good (congrArg some hc5673) rfl rfl (v := V.bool (x_5665 != 0)) (.fn rfl) ?_
                  refine SafeOps.quiet0 E_good rfl rfl rfl (v := V.bool (x_5665 != 0)) (.pickK rfl hc5673 rfl) ?_
                  exact SafeOps.drop' 3 rfl rfl rfl K
                · skip
                  refine SafeOps.skip (congrArg some hc5673) rfl rfl ?_
                  refine SafeOps.skip (congrArg some hc5673) rfl rfl ?_
                  refine SafeOps.quiet0 E_good rfl rfl rfl (v := V.bool false) (.pickK rfl hc5673 rfl) ?_
                  exact SafeOps.drop' 3 rfl rfl rfl K
                refine SafeOps.quiet0 E_good rfl rfl rfl (v := V.bool (x_5471 && (x_5665 != 0))) (.fn rfl) ?_
                refine SafeOps.nil ?_
                repeat (first | refine Safe.seq ?_ | refine Safe.skip ?_ | with_reducible refine thenQ.n ?_ | with_reducible refine blockQ.n ?_)
                refine Safe.ret ?_
                repeat (first | with_reducible refine thenQ.r ?_ | with_reducible refine blockQ.r ?_)
                obtain rfl := Option.some.inj h
                exact retQ.gen (vs := [V.bool (x_5471 && (x_5665 != 0))]) rfl (.tmp (v := V.bool (x_5471 && (x_5665 != 0))) rfl .nil) (.free rfl) (by simp) (.inr rfl)
              · skip
                refine Safe.condN rfl hc5672 ?_
                repeat (first | refine Safe.seq ?_ | refine Safe.skip ?_ | with_reducible refine thenQ.n ?_ | with_reducible refine blockQ.n ?_)
                refine Safe.region ?_
                refine SafeOps.quiet0 E_good rfl rfl rfl (v := V.ref [141, 0] 0 (rws api_Timer.cells x_5667).length) (.fn rfl) ?_
                refine SafeOps.quiet0 E_good rfl rfl rfl (v := V.int .i64 a3_5258) (.fn rfl) ?_
                refine SafeOps.quiet0 E_good rfl rfl rfl (v := V.int .i64 a2_5257) (.fn rfl) ?_
                refine SafeOps.quiet0 E_good rfl rfl rfl (v := V.agg [V.int .i64 a3_5258, V.int .i64 a2_5257]) (.fn rfl) ?_
                refine bindG h ?_
                rintro ⟨x_5674, x_5675⟩ he5676 h
                refine SafeOps.quiet E_good rfl rfl rfl (v := V.tup [V.ref [160, 0] 0 (rws api_Timer.cells x_5674).length, V.int .i64 x_5675]) (.callS rfl (.cons (.full rfl rfl) (.cons (.free rfl) .nil)) (go_heap_Add_sc x_5667 (api_Timer.mk a3_5258 a2_5257) _ he5676) (.tupL (.cons (.ownM (fun _ => rfl)) (.cons (.plain rfl) .nil))) rfl) rfl ?_
                refine SafeOps.quiet0 E_good rfl rfl rfl (v := V.tup [V.ref [160, 0] 0 (rws api_Timer.cells x_5674).length, V.int .i64 x_5675]) (.fn rfl) ?_
                refine SafeOps.quiet0 E_good rfl rfl rfl (v := V.ref [160, 0] 0 (rws api_Timer.cells x_5674).length) (.fn rfl) ?_
                refine SafeOps.quiet0 E_good rfl rfl rfl (v := V.int .i64 x_5675) (.fn rfl) ?_
                refine SafeOps.quiet0 E_good rfl rfl rfl (v := V.ref [160, 0] 0 (rws api_Timer.cells x_5674).length) (.fn rfl) ?_
                refine SafeOps.quiet0 E_good rfl rfl rfl (v := V.int .i64 x_5675) (.fn rfl) ?_
                refine SafeOps.nil ?_
                repeat (first | refine Safe.seq ?_ | refine Safe.skip ?_ | with_reducible refine thenQ.n ?_ | with_reducible refine blockQ.n ?_)
                refine Safe.region ?_
                refine SafeOps.quiet0 E_good rfl rfl rfl (v := V.bool x_5471) (.fn rfl) ?_
                refine SafeOps.quiet0 E_good rfl rfl rfl (v := V.bool x_5471) (.fn rfl) ?_
                refine SafeOps.bjoin 3 167 (b := (x_5471 && (x_5675 == 0))) (b1 := (x_5675 == 0)) (b0 := false) (fun hc5677 K => ?_) (fun hc5677 K => ?_) bj_and ?_
                · skip
                  refine SafeOps.quiet0 E_good (congrArg some hc5677) rfl rfl (v := V.int .i64 x_5675) (.fn rfl) ?_
                  refine SafeOps.quiet0 E_good (congrArg some hc5677) rfl rfl (v := V.bool (x_5675 == 0)) (.fn rfl) ?_
                  refine SafeOps.quiet0 E_good rfl rfl rfl (v := V.bool (x_5675 == 0)) (.pickK rfl hc5677 rfl) ?_
                  exact SafeOps.drop' 3 rfl rfl rfl K
                · skip
                  refine SafeOps.skip (congrArg some hc5677) rfl rfl ?_
                  refine SafeOps.skip (congrArg some hc5677) rfl rfl ?_
                  refine SafeOps.quiet0 E_good rfl rfl rfl (v := V.bool false) (.pickK rfl hc5677 rfl) ?_
                  exact SafeOps.drop' 3 rfl rfl rfl K
                refine SafeOps.quiet0 E_good rfl rfl rfl (v := V.bool (x_5471 && (x_5675 == 0))) (.fn rfl) ?_
                refine ifG h (fun hc5678 h => ?_) (fun hc5678 h => ?_)
                · skip
                  refine SafeOps.quiet0 E_good (congrArg some hc5678) rfl rfl (v := V.ref [135, 0] 0 (rws api_Timer.cells x_5664).length) (.fn rfl) ?_
                  refine SafeOps.quiet0 E_good (congrArg some hc5678) rfl rfl (v := V.ref [160, 0] 0 (rws api_Timer.cells x_5674).length) (.fn rfl) ?_
                  refine bindG h ?_
                  intro x_5681 he5682 h
                  refine SafeOps.quiet0 E_good (congrArg some hc5678) rfl rfl (v := V.bool x_5681) (.callS rfl (.cons (.full rfl rfl) (.cons (.full rfl rfl) .nil)) (go_heap_Same_sc x_5664 x_5674 _ he5682) (.plain rfl) rfl) ?_
                  refine SafeOps.quiet0 E_good rfl rfl rfl (v := V.bool x_5681) (.pickK rfl hc5678 rfl) ?_
                  refine SafeOps.quiet0 E_good rfl rfl rfl (v := V.bool x_5681) (.fn rfl) ?_
                  refine SafeOps.nil ?_
                  repeat (first | refine Safe.seq ?_ | refine Safe.skip ?_ | with_reducible refine thenQ.n ?_ | with_reducible refine blockQ.n ?_)
                  refine Safe.ret ?_
                  repeat (first | with_reducible refine thenQ.r ?_ | with_reducible refine blockQ.r ?_)
                  obtain rfl := Option.some.inj h
                  exact retQ.gen (vs := [V.bool x_5681]) rfl (.tmp (v := V.bool x_5681) rfl .nil) (.free rfl) (by simp) (.inr rfl)
                · skip
                  refine SafeOps.skip (congrArg some hc5678) rfl rfl ?_
                  refine SafeOps.skip (congrArg some hc5678) rfl rfl ?_
                  refine SafeOps.skip (congrArg some hc5678) rfl rfl ?_
                  refine SafeOps.quiet0 E_good rfl rfl rfl (v := V.bool false) (.pickK rfl hc5678 rfl) ?_
                  refine SafeOps.quiet0 E_good rfl rfl rfl (v := V.bool false) (.fn rfl) ?_
                  refine SafeOps.nil ?_
                  repeat (first | refine Safe.seq ?_ | refine Safe.skip ?_ | with_reducible refine thenQ.n ?_ | with_reducible refine blockQ.n ?_)
                  refine Safe.ret ?_
                  repeat (first | with_reducible refine thenQ.r ?_ | with_reducible refine blockQ.r ?_)
                  obtain rfl := Option.some.inj h
                  exact retQ.gen (vs := [V.bool false]) rfl (.tmp (v := V.bool false) rfl .nil) (.free rfl) (by simp) (.inr rfl)

@[ext] structure ravellaw08_Op where
  Kind : Int
  Id : Int
  At : Int
  deriving Inhabited
def ravellaw08_Op.cells (x : ravellaw08_Op) : List V := [V.int .i64 x.Kind, V.int .i64 x.Id, V.int .i64 x.At]
def ravellaw08_Op.zero : ravellaw08_Op := ⟨0, 0, 0⟩
def ravellaw08_Op.beq (x y : ravellaw08_Op) : Bool := ((x.Kind == y.Kind) && ((x.Id == y.Id) && ((x.At == y.At) && true)))
end Go.Proofs.Ytbcapidhhbkkcaa
