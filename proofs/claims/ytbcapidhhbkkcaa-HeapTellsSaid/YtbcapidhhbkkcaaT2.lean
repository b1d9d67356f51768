/- Helper lemmas for the claim's theorem: an abstract machine over the model, proved sound; no condition beyond each lemma's own. -/
import Derived.Test.YtbcapidhhbkkcaaT1
set_option linter.unusedVariables false
set_option linter.unusedSimpArgs false
set_option linter.unnecessarySimpa false
set_option linter.unusedSectionVars false
namespace Go.Proofs.Ytbcapidhhbkkcaa
open Go Go.AM
set_option maxRecDepth 100000
set_option maxHeartbeats 1000000
set_option linter.unusedVariables false
set_option linter.unusedSimpArgs false
variable {gl : List (Nat × List V)}
noncomputable def go_ravelref08_Sorted (a0_2146 : List api_Timer) : Option ((List api_Timer) × Int) :=
  (go_ravelref08_Check a0_2146).bind fun x_2152 =>
  if (x_2152 != 0) = true then
    some ([], 1)
  else
    (go_ravelref08_Order a0_2146).bind fun x_2155 =>
    some (x_2155, 0)

theorem go_ravelref08_Sorted_sc (a0_2146 : List api_Timer) (r : (List api_Timer) × Int) (h : go_ravelref08_Sorted a0_2146 = some r) : SC Try.prog gl 24 [V.sl 2 (rws api_Timer.cells a0_2146)] (V.tup [V.own 2 (rws api_Timer.cells r.1), V.int .i64 r.2]) := by
  rw [go_ravelref08_Sorted] at h
  refine SC.of E_good Try.func24 rfl (fun _ _ => Try.call24 _ _) rfl ?_
  repeat (first | refine Safe.seq ?_ | refine Safe.skip ?_ | with_reducible refine thenQ.n ?_ | with_reducible refine blockQ.n ?_)
  refine Safe.region ?_
  refine SafeOps.quiet0 E_good rfl rfl rfl (v := V.nils) (.fn rfl) ?_
  refine SafeOps.quiet0 E_good rfl rfl rfl (v := V.int .i64 0) (.fn rfl) ?_
  refine SafeOps.nil ?_
  repeat (first | refine Safe.seq ?_ | refine Safe.skip ?_ | with_reducible refine thenQ.n ?_ | with_reducible refine blockQ.n ?_)
  refine Safe.region ?_
  refine SafeOps.quiet0 E_good rfl rfl rfl (v := V.sl 2 (rws api_Timer.cells a0_2146)) (.fn rfl) ?_
  refine bindG h ?_
  intro x_2152 he2153 h
  refine SafeOps.quiet0 E_good rfl rfl rfl (v := V.int .i64 x_2152) (.callP rfl rfl (go_ravelref08_Check_sc a0_2146 _ he2153) rfl) ?_
  refine SafeOps.quiet0 E_good rfl rfl rfl (v := V.bool (x_2152 != 0)) (.fn rfl) ?_
  refine SafeOps.nil ?_
  repeat (first | refine Safe.seq ?_ | refine Safe.skip ?_ | with_reducible refine thenQ.n ?_ | with_reducible refine blockQ.n ?_)
  refine ifG h (fun hc2154 h => ?_) (fun hc2154 h => ?_)
  · skip
    refine Safe.condK rfl hc2154 ?_
    repeat (first | refine Safe.seq ?_ | refine Safe.skip ?_ | with_reducible refine thenQ.n ?_ | with_reducible refine blockQ.n ?_)
    refine Safe.region ?_
    refine SafeOps.quiet0 E_good rfl rfl rfl (v := V.nils) (.fn rfl) ?_
    refine SafeOps.quiet0 E_good rfl rfl rfl (v := V.int .i64 1) (.fn rfl) ?_
    refine SafeOps.nil ?_
    repeat (first | refine Safe.seq ?_ | refine Safe.skip ?_ | with_reducible refine thenQ.n ?_ | with_reducible refine blockQ.n ?_)
    refine Safe.ret ?_
    repeat (first | with_reducible refine thenQ.r ?_ | with_reducible refine blockQ.r ?_)
    obtain rfl := Option.some.inj h
    exact retQ.gen (vs := [V.nils, V.int .i64 1]) rfl (.tmp (v := V.nils) rfl (.tmp (v := V.int .i64 1) rfl .nil)) (by exact (.tup (.cons (.nils _) (.cons (.free rfl) .nil)))) (by simp) (.inr rfl)
  · skip
    refine Safe.condN rfl hc2154 ?_
    repeat (first | refine Safe.seq ?_ | refine Safe.skip ?_ | with_reducible refine thenQ.n ?_ | with_reducible refine blockQ.n ?_)
    refine Safe.region ?_
    refine SafeOps.quiet0 E_good rfl rfl rfl (v := V.sl 2 (rws api_Timer.cells a0_2146)) (.fn rfl) ?_
    refine bindG h ?_
    intro x_2155 he2156 h
    refine SafeOps.quiet E_good rfl rfl rfl (v := V.ref [8, 0] 0 (rws api_Timer.cells x_2155).length) (.callP rfl rfl (go_ravelref08_Order_sc a0_2146 _ he2156) rfl) rfl ?_
    refine SafeOps.quiet0 E_good rfl rfl rfl (v := V.ref [8, 0] 0 (rws api_Timer.cells x_2155).length) (.fn rfl) ?_
    refine SafeOps.quiet0 E_good rfl rfl rfl (v := V.int .i64 0) (.fn rfl) ?_
    refine SafeOps.nil ?_
    repeat (first | refine Safe.seq ?_ | refine Safe.skip ?_ | with_reducible refine thenQ.n ?_ | with_reducible refine blockQ.n ?_)
    refine Safe.ret ?_
    repeat (first | with_reducible refine thenQ.r ?_ | with_reducible refine blockQ.r ?_)
    obtain rfl := Option.some.inj h
    exact retQ.gen (vs := [V.ref [8, 0] 0 (rws api_Timer.cells x_2155).length, V.int .i64 0]) rfl (.tmp (v := V.ref [8, 0] 0 (rws api_Timer.cells x_2155).length) rfl (.tmp (v := V.int .i64 0) rfl .nil)) (by exact (.tup (.cons (.own rfl rfl) (.cons (.free rfl) .nil)))) (by simp) (.inr rfl)

noncomputable def go_ravelref08_Least (a0_2163 : List api_Timer) : Option (api_Timer × Int) :=
  (go_ravelref08_Check a0_2163).bind fun x_2171 =>
  if (x_2171 != 0) = true then
    some (api_Timer.zero, 1)
  else
    if ((a0_2163.length : Int) == 0) = true then
      some (api_Timer.zero, 5)
    else
      (go_ravelref08_Order a0_2163).bind fun x_2175 =>
      if 0 ≤ (0 : Int) ∧ (0 : Int) < (x_2175.length : Int) then
        some ((gt x_2175 0), 0)
      else none

theorem go_ravelref08_Least_sc (a0_2163 : List api_Timer) (r : api_Timer × Int) (h : go_ravelref08_Least a0_2163 = some r) : SC Try.prog gl 25 [V.sl 2 (rws api_Timer.cells a0_2163)] (V.tup [V.agg [V.int .i64 r.1.At, V.int .i64 r.1.Id], V.int .i64 r.2]) := by
  rw [go_ravelref08_Least] at h
  refine SC.of E_good Try.func25 rfl (fun _ _ => Try.call25 _ _) rfl ?_
  repeat (first | refine Safe.seq ?_ | refine Safe.skip ?_ | with_reducible refine thenQ.n ?_ | with_reducible refine blockQ.n ?_)
  refine Safe.region ?_
  refine SafeOps.quiet1 E_good rfl rfl rfl (.alloc rfl rfl) rfl ?_
  refine SafeOps.quiet0 E_good rfl rfl rfl (v := V.int .i64 0) (.fn rfl) ?_
  refine SafeOps.nil ?_
  repeat (first | refine Safe.seq ?_ | refine Safe.skip ?_ | with_reducible refine thenQ.n ?_ | with_reducible refine blockQ.n ?_)
  refine Safe.region ?_
  refine SafeOps.quiet0 E_good rfl rfl rfl (v := V.sl 2 (rws api_Timer.cells a0_2163)) (.fn rfl) ?_
  refine bindG h ?_
  intro x_2171 he2172 h
  refine SafeOps.quiet0 E_good rfl rfl rfl (v := V.int .i64 x_2171) (.callP rfl rfl (go_ravelref08_Check_sc a0_2163 _ he2172) rfl) ?_
  refine SafeOps.quiet0 E_good rfl rfl rfl (v := V.bool (x_2171 != 0)) (.fn rfl) ?_
  refine SafeOps.nil ?_
  repeat (first | refine Safe.seq ?_ | refine Safe.skip ?_ | with_reducible refine thenQ.n ?_ | with_reducible refine blockQ.n ?_)
  refine ifG h (fun hc2173 h => ?_) (fun hc2173 h => ?_)
  · skip
    refine Safe.condK rfl hc2173 ?_
    repeat (first | refine Safe.seq ?_ | refine Safe.skip ?_ | with_reducible refine thenQ.n ?_ | with_reducible refine blockQ.n ?_)
    refine Safe.region ?_
    refine SafeOps.quiet0 E_good rfl rfl rfl (v := V.agg [V.int .i64 0, V.int .i64 0]) (.fn rfl) ?_
    refine SafeOps.store (z := Obj.box [V.int .i64 0, V.int .i64 0]) E_good rfl rfl rfl rfl rfl rfl rfl (.boxM (c := 2) rfl rfl (Nat.le_of_ble_eq_true rfl) rfl) ?_
    refine SafeOps.quiet0 E_good rfl rfl rfl (v := V.int .i64 1) (.fn rfl) ?_
    refine SafeOps.nil ?_
    repeat (first | refine Safe.seq ?_ | refine Safe.skip ?_ | with_reducible refine thenQ.n ?_ | with_reducible refine blockQ.n ?_)
    refine Safe.ret ?_
    repeat (first | with_reducible refine thenQ.r ?_ | with_reducible refine blockQ.r ?_)
    obtain rfl := Option.some.inj h
    exact retQ.gen (vs := [V.agg [V.int .i64 0, V.int .i64 0], V.int .i64 1]) rfl (.cell (v := V.agg [V.int .i64 0, V.int .i64 0]) rfl rfl (.box rfl rfl) rfl (.tmp (v := V.int .i64 1) rfl .nil)) (.free rfl) (by simp) (.inr rfl)
  · skip
    refine Safe.condN rfl hc2173 ?_
    repeat (first | refine Safe.seq ?_ | refine Safe.skip ?_ | with_reducible refine thenQ.n ?_ | with_reducible refine blockQ.n ?_)
    refine Safe.region ?_
    refine SafeOps.quiet0 E_good rfl rfl rfl (v := V.sl 2 (rws api_Timer.cells a0_2163)) (.fn rfl) ?_
    refine SafeOps.quiet0 E_good rfl rfl rfl (v := V.int .i64 (a0_2163.length : Int)) (.fnE rfl lenE) ?_
    refine SafeOps.quiet0 E_good rfl rfl rfl (v := V.bool ((a0_2163.length : Int) == 0)) (.fn rfl) ?_
    refine SafeOps.nil ?_
    repeat (first | refine Safe.seq ?_ | refine Safe.skip ?_ | with_reducible refine thenQ.n ?_ | with_reducible refine blockQ.n ?_)
    refine ifG h (fun hc2174 h => ?_) (fun hc2174 h => ?_)
    · skip
      refine Safe.condK rfl hc2174 ?_
      repeat (first | refine Safe.seq ?_ | refine Safe.skip ?_ | with_reducible refine thenQ.n ?_ | with_reducible refine blockQ.n ?_)
      refine Safe.region ?_
      refine SafeOps.quiet0 E_good rfl rfl rfl (v := V.agg [V.int .i64 0, V.int .i64 0]) (.fn rfl) ?_
      refine SafeOps.store (z := Obj.box [V.int .i64 0, V.int .i64 0]) E_good rfl rfl rfl rfl rfl rfl rfl (.boxM (c := 2) rfl rfl (Nat.le_of_ble_eq_true rfl) rfl) ?_
      refine SafeOps.quiet0 E_good rfl rfl rfl (v := V.int .i64 5) (.fn rfl) ?_
      refine SafeOps.nil ?_
      repeat (first | refine Safe.seq ?_ | refine Safe.skip ?_ | with_reducible refine thenQ.n ?_ | with_reducible refine blockQ.n ?_)
      refine Safe.ret ?_
      repeat (first | with_reducible refine thenQ.r ?_ | with_reducible refine blockQ.r ?_)
      obtain rfl := Option.some.inj h
      exact retQ.gen (vs := [V.agg [V.int .i64 0, V.int .i64 0], V.int .i64 5]) rfl (.cell (v := V.agg [V.int .i64 0, V.int .i64 0]) rfl rfl (.box rfl rfl) rfl (.tmp (v := V.int .i64 5) rfl .nil)) (.free rfl) (by simp) (.inr rfl)
    · skip
      refine Safe.condN rfl hc2174 ?_
      repeat (first | refine Safe.seq ?_ | refine Safe.skip ?_ | with_reducible refine thenQ.n ?_ | with_reducible refine blockQ.n ?_)
      refine Safe.region ?_
      refine SafeOps.quiet0 E_good rfl rfl rfl (v := V.sl 2 (rws api_Timer.cells a0_2163)) (.fn rfl) ?_
      refine bindG h ?_
      intro x_2175 he2176 h
      refine SafeOps.quiet E_good rfl rfl rfl (v := V.ref [13, 0] 0 (rws api_Timer.cells x_2175).length) (.callP rfl rfl (go_ravelref08_Order_sc a0_2163 _ he2176) rfl) rfl ?_
      refine okG h (fun hb2177 h => ?_)
      refine SafeOps.quiet0 E_good rfl rfl rfl (v := V.ptr [13, 0] (0 + Int.toNat 0) 0) (.idxRefM (f := api_Timer.cells) (xs := x_2175) rfl rfl rfl rfl rfl rfl hb2177) ?_
      refine SafeOps.quiet0 E_good rfl rfl rfl (v := V.agg [V.int .i64 ((gt x_2175 0).At), V.int .i64 ((gt x_2175 0).Id)]) (.load rfl rfl (.rowsM (f := api_Timer.cells) (xs := x_2175) hb2177 rfl rfl) rfl) ?_
      refine SafeOps.store (z := Obj.box [V.int .i64 ((gt x_2175 0).At), V.int .i64 ((gt x_2175 0).Id)]) E_good rfl rfl rfl rfl rfl rfl rfl (.boxM (c := 2) rfl rfl (Nat.le_of_ble_eq_true rfl) rfl) ?_
      refine SafeOps.quiet0 E_good rfl rfl rfl (v := V.int .i64 0) (.fn rfl) ?_
      refine SafeOps.nil ?_
      repeat (first | refine Safe.seq ?_ | refine Safe.skip ?_ | with_reducible refine thenQ.n ?_ | with_reducible refine blockQ.n ?_)
      refine Safe.ret ?_
      repeat (first | with_reducible refine thenQ.r ?_ | with_reducible refine blockQ.r ?_)
      obtain rfl := Option.some.inj h
      exact retQ.gen (vs := [V.agg [V.int .i64 ((gt x_2175 0).At), V.int .i64 ((gt x_2175 0).Id)], V.int .i64 0]) rfl (.cell (v := V.agg [V.int .i64 ((gt x_2175 0).At), V.int .i64 ((gt x_2175 0).Id)]) rfl rfl (.box rfl rfl) rfl (.tmp (v := V.int .i64 0) rfl .nil)) (.free rfl) (by simp) (.inr rfl)

noncomputable def go_heap_Expire_j26 (v4_3883 : List Int) (v5_3884 : List api_Timer) : Option ((List Int) × (List api_Timer) × Int) :=
  some (v4_3883, v5_3884, 0)

noncomputable def go_heap_Expire_s51 (v4_4258 : List Int) (v5_4259 : List api_Timer) (v0_4385 : List api_Timer) : (Unit) → Option ((Unit) ⊕ (((List Int) × (List api_Timer)) ⊕ ((List Int) × (List api_Timer) × Int)))
  | _ =>
    inrO (
      nextO (v4_4258 ++ [(gt v5_4259 0).Id], v0_4385))

noncomputable def go_heap_Expire_s50 (v4_4258 : List Int) (v5_4259 : List api_Timer) (v0_4385 : List api_Timer) (v1_4386 : Int) : (Int × Int) → Option ((Int × Int) ⊕ (((List api_Timer) × Int) ⊕ (((List Int) × (List api_Timer)) ⊕ ((List Int) × (List api_Timer) × Int))))
  | (v4_4430, v5_4431) =>
    if ((decide (v5_4431 ≤ (IntKind.i64.wrap ((IntKind.i64.wrap (4 * v1_4386)) + 4)))) && (decide (v5_4431 < (v0_4385.length : Int)))) = true then
      if 0 ≤ v5_4431 ∧ v5_4431 < (v0_4385.length : Int) then
        if 0 ≤ v4_4430 ∧ v4_4430 < (v0_4385.length : Int) then
          (go_heap_order (gt v0_4385 v5_4431) (gt v0_4385 v4_4430)).bind fun x_4437 =>
          if (decide (x_4437 < 0)) = true then
            nextO (v5_4431, IntKind.i64.wrap (v5_4431 + 1))
          else
            nextO (v4_4430, IntKind.i64.wrap (v5_4431 + 1))
        else none
      else none
    else
      inrO (
        if (v4_4430 == v1_4386) = true then
          inrO (
            whileO (go_heap_Expire_s51 v4_4258 v5_4259 v0_4385) ())
        else
          if 0 ≤ v1_4386 ∧ v1_4386 < (v0_4385.length : Int) then
            if 0 ≤ v4_4430 ∧ v4_4430 < (v0_4385.length : Int) then
              if 0 ≤ v4_4430 ∧ v4_4430 < (v0_4385.length : Int) then
                if 0 ≤ v1_4386 ∧ v1_4386 < ((st v0_4385 v4_4430 (gt v0_4385 v1_4386)).length : Int) then
                  nextO (st (st v0_4385 v4_4430 (gt v0_4385 v1_4386)) v1_4386 (gt v0_4385 v4_4430), v4_4430)
                else none
              else none
            else none
          else none)

noncomputable def go_heap_Expire_s48 (v4_4258 : List Int) (v5_4259 : List api_Timer) : ((List api_Timer) × Int) → Option (((List api_Timer) × Int) ⊕ (((List Int) × (List api_Timer)) ⊕ ((List Int) × (List api_Timer) × Int)))
  | (v0_4385, v1_4386) =>
    whileO (go_heap_Expire_s50 v4_4258 v5_4259 v0_4385 v1_4386) (v1_4386, IntKind.i64.wrap ((IntKind.i64.wrap (4 * v1_4386)) + 1))

noncomputable def go_heap_Expire_s43 (a1_2182 : Int) : ((List Int) × (List api_Timer)) → Option (((List Int) × (List api_Timer)) ⊕ ((List Int) × (List api_Timer) × Int))
  | (v4_4258, v5_4259) =>
    if (decide ((v5_4259.length : Int) > 0)) = true then
      if 0 ≤ (0 : Int) ∧ (0 : Int) < (v5_4259.length : Int) then
        if (decide (((gt v5_4259 0).At) ≤ a1_2182)) = true then
          if 0 ≤ (0 : Int) ∧ (0 : Int) < (v5_4259.length : Int) then
            if few (v4_4258 ++ [(gt v5_4259 0).Id]).length then
              if 0 ≤ (IntKind.i64.wrap ((v5_4259.length : Int) - 1)) ∧ (IntKind.i64.wrap ((v5_4259.length : Int) - 1)) < (v5_4259.length : Int) then
                if 0 ≤ (0 : Int) ∧ (0 : Int) < (v5_4259.length : Int) then
                  if 0 ≤ (IntKind.i64.wrap ((v5_4259.length : Int) - 1)) ∧ (IntKind.i64.wrap ((v5_4259.length : Int) - 1)) ≤ ((st v5_4259 0 (gt v5_4259 (IntKind.i64.wrap ((v5_4259.length : Int) - 1)))).length : Int) then
                    if (decide ((0 : Int) < (IntKind.i64.wrap ((v5_4259.length : Int) - 1)))) = true then
                      whileO (go_heap_Expire_s48 v4_4258 v5_4259) (sub (st v5_4259 0 (gt v5_4259 (IntKind.i64.wrap ((v5_4259.length : Int) - 1)))) 0 (IntKind.i64.wrap ((v5_4259.length : Int) - 1)), 0)
                    else
                      nextO (v4_4258 ++ [(gt v5_4259 0).Id], sub (st v5_4259 0 (gt v5_4259 (IntKind.i64.wrap ((v5_4259.length : Int) - 1)))) 0 (IntKind.i64.wrap ((v5_4259.length : Int) - 1)))
                  else none
                else none
              else none
            else none
          else none
        else
          inrO (
            go_heap_Expire_j26 v4_4258 v5_4259)
      else none
    else
      inrO (
        go_heap_Expire_j26 v4_4258 v5_4259)

noncomputable def go_heap_Expire (a0_2181 : List api_Timer) (a1_2182 : Int) : Option ((List Int) × (List api_Timer) × Int) :=
  (go_heap_Check a0_2181).bind fun x_3318 =>
  if (x_3318 != 0) = true then
    some ([], [], x_3318)
  else
    (go_slices_Clone_api_Timer_api_Timer a0_2181).bind fun x_3321 =>
    whileO (go_heap_Expire_s43 a1_2182) ([], x_3321)

theorem go_heap_Expire_sc (a0_2181 : List api_Timer) (a1_2182 : Int) (r : (List Int) × (List api_Timer) × Int) (h : go_heap_Expire a0_2181 a1_2182 = some r) : SC Try.prog gl 19 [V.sl 2 (rws api_Timer.cells a0_2181), V.int .i64 a1_2182] (V.tup [V.own 1 (rws (fun n => [V.int .i64 n]) r.1), V.own 2 (rws api_Timer.cells r.2.1), V.int .i64 r.2.2]) := by
  rw [go_heap_Expire] at h
  refine SC.of E_good Try.func19 rfl (fun _ _ => Try.call19 _ _) rfl ?_
  repeat (first | refine Safe.seq ?_ | refine Safe.skip ?_ | with_reducible refine thenQ.n ?_ | with_reducible refine blockQ.n ?_)
  refine Safe.region ?_
  refine SafeOps.quiet0 E_good rfl rfl rfl (v := V.nils) (.fn rfl) ?_
  refine SafeOps.quiet0 E_good rfl rfl rfl (v := V.nils) (.fn rfl) ?_
  refine SafeOps.quiet0 E_good rfl rfl rfl (v := V.int .i64 0) (.fn rfl) ?_
  refine SafeOps.nil ?_
  repeat (first | refine Safe.seq ?_ | refine Safe.skip ?_ | with_reducible refine thenQ.n ?_ | with_reducible refine blockQ.n ?_)
  refine Safe.region ?_
  refine SafeOps.quiet0 E_good rfl rfl rfl (v := V.sl 2 (rws api_Timer.cells a0_2181)) (.fn rfl) ?_
  refine bindG h ?_
  intro x_3318 he3319 h
  refine SafeOps.quiet0 E_good rfl rfl rfl (v := V.int .i64 x_3318) (.callP rfl rfl (go_heap_Check_sc a0_2181 _ he3319) rfl) ?_
  refine SafeOps.quiet0 E_good rfl rfl rfl (v := V.int .i64 x_3318) (.fn rfl) ?_
  refine SafeOps.nil ?_
  repeat (first | refine Safe.seq ?_ | refine Safe.skip ?_ | with_reducible refine thenQ.n ?_ | with_reducible refine blockQ.n ?_)
  refine Safe.region ?_
  refine SafeOps.quiet0 E_good rfl rfl rfl (v := V.int .i64 x_3318) (.fn rfl) ?_
  refine SafeOps.quiet0 E_good rfl rfl rfl (v := V.bool (x_3318 != 0)) (.fn rfl) ?_
  refine SafeOps.nil ?_
  repeat (first | refine Safe.seq ?_ | refine Safe.skip ?_ | with_reducible refine thenQ.n ?_ | with_reducible refine blockQ.n ?_)
  refine ifG h (fun hc3320 h => ?_) (fun hc3320 h => ?_)
  · skip
    refine Safe.condK rfl hc3320 ?_
    repeat (first | refine Safe.seq ?_ | refine Safe.skip ?_ | with_reducible refine thenQ.n ?_ | with_reducible refine blockQ.n ?_)
    refine Safe.region ?_
    refine SafeOps.quiet0 E_good rfl rfl rfl (v := V.int .i64 x_3318) (.fn rfl) ?_
    refine SafeOps.quiet0 E_good rfl rfl rfl (v := V.nils) (.fn rfl) ?_
    refine SafeOps.quiet0 E_good rfl rfl rfl (v := V.nils) (.fn rfl) ?_
    refine SafeOps.quiet0 E_good rfl rfl rfl (v := V.int .i64 x_3318) (.fn rfl) ?_
    refine SafeOps.nil ?_
    repeat (first | refine Safe.seq ?_ | refine Safe.skip ?_ | with_reducible refine thenQ.n ?_ | with_reducible refine blockQ.n ?_)
    refine Safe.ret ?_
    repeat (first | with_reducible refine thenQ.r ?_ | with_reducible refine blockQ.r ?_)
    obtain rfl := Option.some.inj h
    exact retQ.gen (vs := [V.nils, V.nils, V.int .i64 x_3318]) rfl (.tmp (v := V.nils) rfl (.tmp (v := V.nils) rfl (.tmp (v := V.int .i64 x_3318) rfl .nil))) (by exact (.tup (.cons (.nils _) (.cons (.nils _) (.cons (.free rfl) .nil))))) (by simp) (.inr rfl)
  · skip
    refine Safe.condN rfl hc3320 ?_
    repeat (first | refine Safe.seq ?_ | refine Safe.skip ?_ | with_reducible refine thenQ.n ?_ | with_reducible refine blockQ.n ?_)
    refine Safe.region ?_
    refine SafeOps.quiet0 E_good rfl rfl rfl (v := V.sl 2 (rws api_Timer.cells a0_2181)) (.fn rfl) ?_
    refine bindG h ?_
    intro x_3321 he3322 h
    refine SafeOps.quiet E_good rfl rfl rfl (v := V.ref [13, 0] 0 (rws api_Timer.cells x_3321).length) (.callP rfl rfl (go_slices_Clone_api_Timer_api_Timer_sc a0_2181 _ he3322) rfl) rfl ?_
    refine SafeOps.quiet0 E_good rfl rfl rfl (v := V.ref [13, 0] 0 (rws api_Timer.cells x_3321).length) (.fn rfl) ?_
    refine SafeOps.nil ?_
    repeat (first | refine Safe.seq ?_ | refine Safe.skip ?_ | with_reducible refine thenQ.n ?_ | with_reducible refine blockQ.n ?_)
    refine Safe.joinT (fun ((v4_3883, v5_3884) : (List Int) × (List api_Timer)) => go_heap_Expire_j26 v4_3883 v5_3884 = some r) (fun ((v4_3883, v5_3884) : (List Int) × (List api_Timer)) => ⟨Try.f19.ntmps, [(4, V.ref [7000, 118, 4] 0 (rws (fun n => [V.int .i64 n]) v4_3883).length), (5, V.ref [13, 0] 0 (rws api_Timer.cells v5_3884).length)], [([13, 0], Obj.rows 2 (rws api_Timer.cells v5_3884) false), ([7000, 118, 4], Obj.rows 1 (rws (fun n => [V.int .i64 n]) v4_3883) false)], [], []⟩) ?_ (fun HJ3885 => ?_)
    · rintro ⟨v4_3883, v5_3884⟩ h
      replace h : go_heap_Expire_j26 v4_3883 v5_3884 = some r := h
      rw [go_heap_Expire_j26] at h
      repeat (first | refine Safe.seq ?_ | refine Safe.skip ?_ | with_reducible refine thenQ.n ?_ | with_reducible refine blockQ.n ?_)
      refine Safe.region ?_
      refine SafeOps.quiet0 E_good rfl rfl rfl (v := V.ref [7000, 118, 4] 0 (rws (fun n => [V.int .i64 n]) v4_3883).length) (.fn rfl) ?_
      refine SafeOps.quiet0 E_good rfl rfl rfl (v := V.ref [13, 0] 0 (rws api_Timer.cells v5_3884).length) (.fn rfl) ?_
      refine SafeOps.quiet0 E_good rfl rfl rfl (v := V.ref [7000, 118, 4] 0 (rws (fun n => [V.int .i64 n]) v4_3883).length) (.fn rfl) ?_
      refine SafeOps.quiet0 E_good rfl rfl rfl (v := V.ref [13, 0] 0 (rws api_Timer.cells v5_3884).length) (.fn rfl) ?_
      refine SafeOps.quiet0 E_good rfl rfl rfl (v := V.int .i64 0) (.fn rfl) ?_
      refine SafeOps.nil ?_
      repeat (first | refine Safe.seq ?_ | refine Safe.skip ?_ | with_reducible refine thenQ.n ?_ | with_reducible refine blockQ.n ?_)
      refine Safe.ret ?_
      repeat (first | with_reducible refine thenQ.r ?_ | with_reducible refine blockQ.r ?_)
      obtain rfl := Option.some.inj h
      exact retQ.gen (vs := [V.ref [7000, 118, 4] 0 (rws (fun n => [V.int .i64 n]) v4_3883).length, V.ref [13, 0] 0 (rws api_Timer.cells v5_3884).length, V.int .i64 0]) rfl (.tmp (v := V.ref [7000, 118, 4] 0 (rws (fun n => [V.int .i64 n]) v4_3883).length) rfl (.tmp (v := V.ref [13, 0] 0 (rws api_Timer.cells v5_3884).length) rfl (.tmp (v := V.int .i64 0) rfl .nil))) (by exact (.tup (.cons (.own rfl rfl) (.cons (.own rfl rfl) (.cons (.free rfl) .nil))))) (by simp) (.inr rfl)
    · skip
      refine Safe.block ?_
      repeat (first | refine Safe.seq ?_ | refine Safe.skip ?_ | with_reducible refine thenQ.n ?_ | with_reducible refine blockQ.n ?_)
      refine Safe.loopW (fun ((v4_4258, v5_4259) : (List Int) × (List api_Timer)) => ⟨Try.f19.ntmps, [(1, V.int .i64 a1_2182), (4, V.ref [7000, 118, 4] 0 (rws (fun n => [V.int .i64 n]) v4_4258).length), (5, V.ref [13, 0] 0 (rws api_Timer.cells v5_4259).length)], [([13, 0], Obj.rows 2 (rws api_Timer.cells v5_4259) false), ([7000, 118, 4], Obj.rows 1 (rws (fun n => [V.int .i64 n]) v4_4258) false)], [], []⟩) h (.empty [7000, 118, 4] 1 rfl (.cov ⟨rfl, rfl, (upT_cons (.refl _) (upT_cons (.nilref _) (upT_cons (.refl _) upT_nil))), (upOb_cons rfl (.refl _) (upOb_cons rfl (.refl _) upOb_nil)), upOut_nil, rfl⟩)) ?_
      rintro ⟨v4_4258, v5_4259⟩ ohr4260 h hr4260
      replace h : go_heap_Expire_s43 a1_2182 (v4_4258, v5_4259) = some ohr4260 := h
      rw [go_heap_Expire_s43] at h
      repeat (first | refine Safe.seq ?_ | refine Safe.skip ?_ | with_reducible refine thenQ.n ?_ | with_reducible refine blockQ.n ?_)
      refine Safe.region ?_
      refine SafeOps.quiet0 E_good rfl rfl rfl (v := V.ref [13, 0] 0 (rws api_Timer.cells v5_4259).length) (.fn rfl) ?_
      refine SafeOps.quiet0 E_good rfl rfl rfl (v := V.int .i64 (v5_4259.length : Int)) (.fnE rfl lenE) ?_
      refine SafeOps.quiet0 E_good rfl rfl rfl (v := V.bool (decide ((v5_4259.length : Int) > 0))) (.fn rfl) ?_
      refine SafeOps.quiet0 E_good rfl rfl rfl (v := V.bool (decide ((v5_4259.length : Int) > 0))) (.fn rfl) ?_
      refine ifG h (fun hc4261 h => ?_) (fun hc4261 h => ?_)
      · skip
        refine SafeOps.quiet0 E_good (congrArg some hc4261) rfl rfl (v := V.ref [13, 0] 0 (rws api_Timer.cells v5_4259).length) (.fn rfl) ?_
        refine okG h (fun hb4263 h => ?_)
        refine SafeOps.quiet0 E_good (congrArg some hc4261) rfl rfl (v := V.ptr [13, 0] (0 + Int.toNat 0) 0) (.idxRefM (f := api_Timer.cells) (xs := v5_4259) rfl rfl rfl rfl rfl rfl hb4263) ?_
        refine SafeOps.quiet0 E_good (congrArg some hc4261) rfl rfl (v := V.ptr [13, 0] (0 + Int.toNat 0) 0) (.fn rfl) ?_
        refine SafeOps.quiet0 E_good (congrArg some hc4261) rfl rfl (v := V.int .i64 ((gt v5_4259 0).At)) (.load rfl rfl (.rowsM (f := api_Timer.cells) (xs := v5_4259) hb4263 rfl rfl) rfl) ?_
        refine SafeOps.quiet0 E_good (congrArg some hc4261) rfl rfl (v := V.int .i64 a1_2182) (.fn rfl) ?_
        refine SafeOps.quiet0 E_good (congrArg some hc4261) rfl rfl (v := V.bool (decide (((gt v5_4259 0).At) ≤ a1_2182))) (.fn rfl) ?_
        refine SafeOps.quiet0 E_good rfl rfl rfl (v := V.bool (decide (((gt v5_4259 0).At) ≤ a1_2182))) (.pickK rfl hc4261 rfl) ?_
        refine SafeOps.nil ?_
        repeat (first | refine Safe.seq ?_ | refine Safe.skip ?_ | with_reducible refine thenQ.n ?_ | with_reducible refine blockQ.n ?_)
        refine ifG h (fun hc4264 h => ?_) (fun hc4264 h => ?_)
        · skip
          refine Safe.condK rfl hc4264 ?_
          repeat (first | refine Safe.seq ?_ | refine Safe.skip ?_ | with_reducible refine thenQ.n ?_ | with_reducible refine blockQ.n ?_)
          refine Safe.block ?_
          repeat (first | refine Safe.seq ?_ | refine Safe.skip ?_ | with_reducible refine thenQ.n ?_ | with_reducible refine blockQ.n ?_)
          refine Safe.region ?_
          refine SafeOps.quiet0 E_good rfl rfl rfl (v := V.ref [7000, 118, 4] 0 (rws (fun n => [V.int .i64 n]) v4_4258).length) (.fn rfl) ?_
          refine SafeOps.quiet0 E_good rfl rfl rfl (v := V.ref [13, 0] 0 (rws api_Timer.cells v5_4259).length) (.fn rfl) ?_
          refine okG h (fun hb4265 h => ?_)
          refine SafeOps.quiet0 E_good rfl rfl rfl (v := V.ptr [13, 0] (0 + Int.toNat 0) 0) (.idxRefM (f := api_Timer.cells) (xs := v5_4259) rfl rfl rfl rfl rfl rfl hb4265) ?_
          refine SafeOps.quiet0 E_good rfl rfl rfl (v := V.ptr [13, 0] (0 + Int.toNat 0) 1) (.fn rfl) ?_
          refine SafeOps.quiet0 E_good rfl rfl rfl (v := V.int .i64 ((gt v5_4259 0).Id)) (.load rfl rfl (.rowsM (f := api_Timer.cells) (xs := v5_4259) hb4265 rfl rfl) rfl) ?_
          refine SafeOps.quiet1 E_good rfl rfl rfl (.litM (f := (fun n => [V.int .i64 n])) (xs := [(gt v5_4259 0).Id]) rfl rfl (by decide) rfl rfl rfl rfl rfl) rfl ?_
          refine okG h (fun hb4266 h => ?_)
          refine SafeOps.appendM (fun n => [V.int .i64 n]) (xs := v4_4258) (ys := [(gt v5_4259 0).Id]) E_good rfl rfl rfl rfl rfl rfl rfl rfl rfl (.own rfl) (.own rfl) (fun _ => rfl) hb4266 ?_
          refine SafeOps.quiet0 E_good rfl rfl rfl (v := V.ref [31] 0 (rws (fun n => [V.int .i64 n]) (v4_4258 ++ [(gt v5_4259 0).Id])).length) (.fn rfl) ?_
          refine SafeOps.nil ?_
          repeat (first | refine Safe.seq ?_ | refine Safe.skip ?_ | with_reducible refine thenQ.n ?_ | with_reducible refine blockQ.n ?_)
          refine Safe.region ?_
          refine SafeOps.quiet0 E_good rfl rfl rfl (v := V.ref [13, 0] 0 (rws api_Timer.cells v5_4259).length) (.fn rfl) ?_
          refine SafeOps.inline E_good rfl rfl rfl rfl rfl Try.func39 rfl (fun _ _ => Try.call39 _ _) rfl ?_
          repeat (first | refine Safe.seq ?_ | refine Safe.skip ?_ | with_reducible refine thenQ.n ?_ | with_reducible refine blockQ.n ?_)
          refine Safe.region ?_
          refine SafeOps.quiet0 E_good rfl rfl rfl (v := V.nils) (.fn rfl) ?_
          refine SafeOps.nil ?_
          repeat (first | refine Safe.seq ?_ | refine Safe.skip ?_ | with_reducible refine thenQ.n ?_ | with_reducible refine blockQ.n ?_)
          refine Safe.region ?_
          refine SafeOps.quiet0 E_good rfl rfl rfl (v := V.ref [13, 0] 0 (rws api_Timer.cells v5_4259).length) (.fn rfl) ?_
          refine SafeOps.quiet0 E_good rfl rfl rfl (v := V.int .i64 (v5_4259.length : Int)) (.fnE rfl lenE) ?_
          refine SafeOps.quiet0 E_good rfl rfl rfl (v := V.int .i64 (IntKind.i64.wrap ((v5_4259.length : Int) - 1))) (.fn rfl) ?_
          refine SafeOps.quiet0 E_good rfl rfl rfl (v := V.int .i64 (IntKind.i64.wrap ((v5_4259.length : Int) - 1))) (.fn rfl) ?_
          refine SafeOps.nil ?_
          repeat (first | refine Safe.seq ?_ | refine Safe.skip ?_ | with_reducible refine thenQ.n ?_ | with_reducible refine blockQ.n ?_)
          refine Safe.region ?_
          refine SafeOps.quiet0 E_good rfl rfl rfl (v := V.ref [13, 0] 0 (rws api_Timer.cells v5_4259).length) (.fn rfl) ?_
          refine SafeOps.quiet0 E_good rfl rfl rfl (v := V.int .i64 0) (.fn rfl) ?_
          refine SafeOps.quiet0 E_good rfl rfl rfl (v := V.ref [13, 0] 0 (rws api_Timer.cells v5_4259).length) (.fn rfl) ?_
          refine SafeOps.quiet0 E_good rfl rfl rfl (v := V.int .i64 (IntKind.i64.wrap ((v5_4259.length : Int) - 1))) (.fn rfl) ?_
          refine okG h (fun hb4267 h => ?_)
          refine SafeOps.quiet0 E_good rfl rfl rfl (v := V.ptr [13, 0] (0 + Int.toNat (IntKind.i64.wrap ((v5_4259.length : Int) - 1))) 0) (.idxRefM (f := api_Timer.cells) (xs := v5_4259) rfl rfl rfl rfl rfl rfl hb4267) ?_
          refine SafeOps.quiet0 E_good rfl rfl rfl (v := V.agg [V.int .i64 ((gt v5_4259 (IntKind.i64.wrap ((v5_4259.length : Int) - 1))).At), V.int .i64 ((gt v5_4259 (IntKind.i64.wrap ((v5_4259.length : Int) - 1))).Id)]) (.load rfl rfl (.rowsM (f := api_Timer.cells) (xs := v5_4259) hb4267 rfl rfl) rfl) ?_
          refine okG h (fun hb4268 h => ?_)
          refine SafeOps.quiet0 E_good rfl rfl rfl (v := V.ptr [13, 0] (0 + Int.toNat 0) 0) (.idxRefM (f := api_Timer.cells) (xs := v5_4259) rfl rfl rfl rfl rfl rfl hb4268) ?_
          refine SafeOps.store (z := Obj.rows 2 (rws api_Timer.cells (st v5_4259 0 (gt v5_4259 (IntKind.i64.wrap ((v5_4259.length : Int) - 1))))) false) E_good rfl rfl rfl rfl rfl rfl rfl (.rowsM (f := api_Timer.cells) (xs := v5_4259) (y := (gt v5_4259 (IntKind.i64.wrap ((v5_4259.length : Int) - 1)))) hb4268 rfl rfl rfl rfl) ?_
          refine SafeOps.see 0 (u := V.ref [13, 0] 0 (rws api_Timer.cells (st v5_4259 0 (gt v5_4259 (IntKind.i64.wrap ((v5_4259.length : Int) - 1))))).length) rfl (.len (by simp [rws, st])) ?_
          refine SafeOps.see 6 (u := V.ref [13, 0] 0 (rws api_Timer.cells (st v5_4259 0 (gt v5_4259 (IntKind.i64.wrap ((v5_4259.length : Int) - 1))))).length) rfl (.len (by simp [rws, st])) ?_
          refine SafeOps.see 9 (u := V.ref [13, 0] 0 (rws api_Timer.cells (st v5_4259 0 (gt v5_4259 (IntKind.i64.wrap ((v5_4259.length : Int) - 1))))).length) rfl (.len (by simp [rws, st])) ?_
          refine SafeOps.see 11 (u := V.ref [13, 0] 0 (rws api_Timer.cells (st v5_4259 0 (gt v5_4259 (IntKind.i64.wrap ((v5_4259.length : Int) - 1))))).length) rfl (.len (by simp [rws, st])) ?_
          refine SafeOps.nil ?_
          repeat (first | refine Safe.seq ?_ | refine Safe.skip ?_ | with_reducible refine thenQ.n ?_ | with_reducible refine blockQ.n ?_)
          refine Safe.region ?_
          refine SafeOps.quiet0 E_good rfl rfl rfl (v := V.ref [13, 0] 0 (rws api_Timer.cells (st v5_4259 0 (gt v5_4259 (IntKind.i64.wrap ((v5_4259.length : Int) - 1))))).length) (.fn rfl) ?_
          refine SafeOps.quiet0 E_good rfl rfl rfl (v := V.int .i64 (IntKind.i64.wrap ((v5_4259.length : Int) - 1))) (.fn rfl) ?_
          refine okG h (fun hb4269 h => ?_)
          refine SafeOps.quiet0 E_good rfl rfl rfl (v := V.ref [13, 0] 0 (Int.toNat (IntKind.i64.wrap ((v5_4259.length : Int) - 1)))) (.slRefH (f := api_Timer.cells) (xs := st v5_4259 0 (gt v5_4259 (IntKind.i64.wrap ((v5_4259.length : Int) - 1)))) rfl rfl rfl rfl rfl hb4269) ?_
          refine SafeOps.truncM (f := api_Timer.cells) (xs := st v5_4259 0 (gt v5_4259 (IntKind.i64.wrap ((v5_4259.length : Int) - 1)))) [13, 0] (IntKind.i64.wrap ((v5_4259.length : Int) - 1)) rfl ?_
          refine SafeOps.see 18 (u := V.ref [13, 0] 0 (rws api_Timer.cells (sub (st v5_4259 0 (gt v5_4259 (IntKind.i64.wrap ((v5_4259.length : Int) - 1)))) 0 (IntKind.i64.wrap ((v5_4259.length : Int) - 1)))).length) rfl (.len (len_sub hb4269)) ?_
          refine SafeOps.quiet0 E_good rfl rfl rfl (v := V.ref [13, 0] 0 (rws api_Timer.cells (sub (st v5_4259 0 (gt v5_4259 (IntKind.i64.wrap ((v5_4259.length : Int) - 1)))) 0 (IntKind.i64.wrap ((v5_4259.length : Int) - 1)))).length) (.fn rfl) ?_
          refine SafeOps.nil ?_
          repeat (first | refine Safe.seq ?_ | refine Safe.skip ?_ | with_reducible refine thenQ.n ?_ | with_reducible refine blockQ.n ?_)
          refine Safe.region ?_
          refine SafeOps.quiet0 E_good rfl rfl rfl (v := V.int .i64 0) (.fn rfl) ?_
          refine SafeOps.quiet0 E_good rfl rfl rfl (v := V.int .i64 (IntKind.i64.wrap ((v5_4259.length : Int) - 1))) (.fn rfl) ?_
          refine SafeOps.quiet0 E_good rfl rfl rfl (v := V.bool (decide ((0 : Int) < (IntKind.i64.wrap ((v5_4259.length : Int) - 1))))) (.fn rfl) ?_
          refine SafeOps.nil ?_
          repeat (first | refine Safe.seq ?_ | refine Safe.skip ?_ | with_reducible refine thenQ.n ?_ | with_reducible refine blockQ.n ?_)
          refine ifG h (fun hc4270 h => ?_) (fun hc4270 h => ?_)
          · skip
            refine Safe.condK rfl hc4270 ?_
            repeat (first | refine Safe.seq ?_ | refine Safe.skip ?_ | with_reducible refine thenQ.n ?_ | with_reducible refine blockQ.n ?_)
            refine Safe.region ?_
            refine SafeOps.quiet0 E_good rfl rfl rfl (v := V.ref [13, 0] 0 (rws api_Timer.cells (sub (st v5_4259 0 (gt v5_4259 (IntKind.i64.wrap ((v5_4259.length : Int) - 1)))) 0 (IntKind.i64.wrap ((v5_4259.length : Int) - 1)))).length) (.fn rfl) ?_
            refine SafeOps.quiet0 E_good rfl rfl rfl (v := V.int .i64 0) (.fn rfl) ?_
            refine SafeOps.inline E_good rfl rfl rfl rfl rfl Try.func40 rfl (fun _ _ => Try.call40 _ _) rfl ?_
            repeat (first | refine Safe.seq ?_ | refine Safe.skip ?_ | with_reducible refine thenQ.n ?_ | with_reducible refine blockQ.n ?_)
            refine Safe.block ?_
            repeat (first | refine Safe.seq ?_ | refine Safe.skip ?_ | with_reducible refine thenQ.n ?_ | with_reducible refine blockQ.n ?_)
            refine Safe.loopW (fun ((v0_4385, v1_4386) : (List api_Timer) × Int) => ⟨Try.f40.ntmps, [(0, V.ref [13, 0] 0 (rws api_Timer.cells v0_4385).length), (1, V.int .i64 v1_4386)], [([13, 0], Obj.rows 2 (rws api_Timer.cells v0_4385) false), ([31], Obj.rows 1 (rws (fun n => [V.int .i64 n]) (v4_4258 ++ [(gt v5_4259 0).Id])) false)], [(Try.f39.ntmps, [(0, V.ref [13, 0] 0 (rws api_Timer.cells v0_4385).length), (1, V.int .i64 0)]), (Try.f19.ntmps, [(1, V.int .i64 a1_2182), (4, V.ref [31] 0 (rws (fun n => [V.int .i64 n]) (v4_4258 ++ [(gt v5_4259 0).Id])).length), (21, V.int .i64 ((gt v5_4259 0).At)), (22, V.int .i64 a1_2182), (23, V.bool (decide (((gt v5_4259 0).At) ≤ a1_2182)))])], [33, 24]⟩) h (.cov ⟨rfl, rfl, (upT_cons (.refl _) (upT_cons (.refl _) upT_nil)), (upOb_cons rfl (.refl _) (upOb_cons rfl (.refl _) upOb_nil)), (upOut_cons rfl (upT_cons (.refl _) (upT_cons (.refl _) upT_nil)) (upOut_cons rfl (upT_cons (.refl _) (upT_cons (.refl _) (upT_cons (.refl _) (upT_cons (.refl _) (upT_cons (.refl _) upT_nil))))) upOut_nil)), rfl⟩) ?_
            rintro ⟨v0_4385, v1_4386⟩ ohr4387 h hr4387
            replace h : go_heap_Expire_s48 v4_4258 v5_4259 (v0_4385, v1_4386) = some ohr4387 := h
            rw [go_heap_Expire_s48] at h
            repeat (first | refine Safe.seq ?_ | refine Safe.skip ?_ | with_reducible refine thenQ.n ?_ | with_reducible refine blockQ.n ?_)
            refine Safe.block ?_
            repeat (first | refine Safe.seq ?_ | refine Safe.skip ?_ | with_reducible refine thenQ.n ?_ | with_reducible refine blockQ.n ?_)
            refine Safe.region ?_
            refine SafeOps.quiet0 E_good rfl rfl rfl (v := V.int .i64 v1_4386) (.fn rfl) ?_
            refine SafeOps.quiet0 E_good rfl rfl rfl (v := V.int .i64 v1_4386) (.fn rfl) ?_
            refine SafeOps.nil ?_
            repeat (first | refine Safe.seq ?_ | refine Safe.skip ?_ | with_reducible refine thenQ.n ?_ | with_reducible refine blockQ.n ?_)
            refine Safe.region ?_
            refine SafeOps.quiet0 E_good rfl rfl rfl (v := V.int .i64 v1_4386) (.fn rfl) ?_
            refine SafeOps.quiet0 E_good rfl rfl rfl (v := V.int .i64 (IntKind.i64.wrap (4 * v1_4386))) (.fn rfl) ?_
            refine SafeOps.quiet0 E_good rfl rfl rfl (v := V.int .i64 (IntKind.i64.wrap ((IntKind.i64.wrap (4 * v1_4386)) + 1))) (.fn rfl) ?_
            refine SafeOps.quiet0 E_good rfl rfl rfl (v := V.int .i64 (IntKind.i64.wrap ((IntKind.i64.wrap (4 * v1_4386)) + 1))) (.fn rfl) ?_
            refine SafeOps.nil ?_
            repeat (first | refine Safe.seq ?_ | refine Safe.skip ?_ | with_reducible refine thenQ.n ?_ | with_reducible refine blockQ.n ?_)
            refine Safe.block ?_
            repeat (first | refine Safe.seq ?_ | refine Safe.skip ?_ | with_reducible refine thenQ.n ?_ | with_reducible refine blockQ.n ?_)
            refine Safe.loopW (fun ((v4_4430, v5_4431) : Int × Int) => ⟨Try.f40.ntmps, [(0, V.ref [13, 0] 0 (rws api_Timer.cells v0_4385).length), (1, V.int .i64 v1_4386), (4, V.int .i64 v4_4430), (5, V.int .i64 v5_4431)], [([13, 0], Obj.rows 2 (rws api_Timer.cells v0_4385) false), ([31], Obj.rows 1 (rws (fun n => [V.int .i64 n]) (v4_4258 ++ [(gt v5_4259 0).Id])) false)], [(Try.f39.ntmps, [(0, V.ref [13, 0] 0 (rws api_Timer.cells v0_4385).length), (1, V.int .i64 0)]), (Try.f19.ntmps, [(1, V.int .i64 a1_2182), (4, V.ref [31] 0 (rws (fun n => [V.int .i64 n]) (v4_4258 ++ [(gt v5_4259 0).Id])).length), (21, V.int .i64 ((gt v5_4259 0).At)), (22, V.int .i64 a1_2182), (23, V.bool (decide (((gt v5_4259 0).At) ≤ a1_2182)))])], [33, 24]⟩) h (.cov ⟨rfl, rfl, (upT_cons (.refl _) (upT_cons (.refl _) (upT_cons (.refl _) (upT_cons (.refl _) upT_nil)))), (upOb_cons rfl (.refl _) (upOb_cons rfl (.refl _) upOb_nil)), (upOut_cons rfl (upT_cons (.refl _) (upT_cons (.refl _) upT_nil)) (upOut_cons rfl (upT_cons (.refl _) (upT_cons (.refl _) (upT_cons (.refl _) (upT_cons (.refl _) (upT_cons (.refl _) upT_nil))))) upOut_nil)), rfl⟩) ?_
            rintro ⟨v4_4430, v5_4431⟩ ohr4432 h hr4432
            replace h : go_heap_Expire_s50 v4_4258 v5_4259 v0_4385 v1_4386 (v4_4430, v5_4431) = some ohr4432 := h
            rw [go_heap_Expire_s50] at h
            repeat (first | refine Safe.seq ?_ | refine Safe.skip ?_ | with_reducible refine thenQ.n ?_ | with_reducible refine blockQ.n ?_)
            refine Safe.region ?_
            refine SafeOps.quiet0 E_good rfl rfl rfl (v := V.int .i64 v5_4431) (.fn rfl) ?_
            refine SafeOps.quiet0 E_good rfl rfl rfl (v := V.int .i64 v1_4386) (.fn rfl) ?_
            refine SafeOps.quiet0 E_good rfl rfl rfl (v := V.int .i64 (IntKind.i64.wrap (4 * v1_4386))) (.fn rfl) ?_
            refine SafeOps.quiet0 E_good rfl rfl rfl (v := V.int .i64 (IntKind.i64.wrap ((IntKind.i64.wrap (4 * v1_4386)) + 4))) (.fn rfl) ?_
            refine SafeOps.quiet0 E_good rfl rfl rfl (v := V.bool (decide (v5_4431 ≤ (IntKind.i64.wrap ((IntKind.i64.wrap (4 * v1_4386)) + 4))))) (.fn rfl) ?_
            refine SafeOps.quiet0 E_good rfl rfl rfl (v := V.bool (decide (v5_4431 ≤ (IntKind.i64.wrap ((IntKind.i64.wrap (4 * v1_4386)) + 4))))) (.fn rfl) ?_
            refine SafeOps.bjoin 5 20 (b := ((decide (v5_4431 ≤ (IntKind.i64.wrap ((IntKind.i64.wrap (4 * v1_4386)) + 4)))) && (decide (v5_4431 < (v0_4385.length : Int))))) (b1 := decide (v5_4431 < (v0_4385.length : Int))) (b0 := false) (fun hc4433 K => ?_) (fun hc4433 K => ?_) bj_and ?_
            · skip
              refine SafeOps.quiet0 E_good (congrArg some hc4433) rfl rfl (v := V.int .i64 v5_4431) (.fn rfl) ?_
              refine SafeOps.quiet0 E_good (congrArg some hc4433) rfl rfl (v := V.ref [13, 0] 0 (rws api_Timer.cells v0_4385).length) (.fn rfl) ?_
              refine SafeOps.quiet0 E_good (congrArg some hc4433) rfl rfl (v := V.int .i64 (v0_4385.length : Int)) (.fnE rfl lenE) ?_
              refine SafeOps.quiet0 E_good (congrArg some hc4433) rfl rfl (v := V.bool (decide (v5_4431 < (v0_4385.length : Int)))) (.fn rfl) ?_
              refine SafeOps.quiet0 E_good rfl rfl rfl (v := V.bool (decide (v5_4431 < (v0_4385.length : Int)))) (.pickK rfl hc4433 rfl) ?_
              exact SafeOps.drop' 5 rfl rfl rfl K
            · skip
              refine SafeOps.skip (congrArg some hc4433) rfl rfl ?_
              refine SafeOps.skip (congrArg some hc4433) rfl rfl ?_
              refine SafeOps.skip (congrArg some hc4433) rfl rfl ?_
              refine SafeOps.skip (congrArg some hc4433) rfl rfl ?_
              refine SafeOps.quiet0 E_good rfl rfl rfl (v := V.bool false) (.pickK rfl hc4433 rfl) ?_
              exact SafeOps.drop' 5 rfl rfl rfl K
            refine SafeOps.nil ?_
            repeat (first | refine Safe.seq ?_ | refine Safe.skip ?_ | with_reducible refine thenQ.n ?_ | with_reducible refine blockQ.n ?_)
            refine ifG h (fun hc4434 h => ?_) (fun hc4434 h => ?_)
            · skip
              refine Safe.condK rfl hc4434 ?_
              repeat (first | refine Safe.seq ?_ | refine Safe.skip ?_ | with_reducible refine thenQ.n ?_ | with_reducible refine blockQ.n ?_)
              refine Safe.block ?_
              repeat (first | refine Safe.seq ?_ | refine Safe.skip ?_ | with_reducible refine thenQ.n ?_ | with_reducible refine blockQ.n ?_)
              refine Safe.regionD (n := 10) [] [] E_good mixed rfl ?_
              refine DAny.take (i := 0) rfl (by kernel_rfl) [] (by kernel_rfl) (by kernel_rfl) (by kernel_rfl) rfl rfl rfl (v := V.ref [13, 0] 0 (rws api_Timer.cells v0_4385).length) (fun _ hz => (.fn rfl)) ?_
              refine DAny.take (i := 1) rfl (by kernel_rfl) [] (by kernel_rfl) (by kernel_rfl) (by kernel_rfl) rfl rfl rfl (v := V.int .i64 v5_4431) (fun _ hz => (.fn rfl)) ?_
              refine okG h (fun hb4435 h => ?_)
              refine DAny.take (i := 2) rfl (by kernel_rfl) [] (by kernel_rfl) (by kernel_rfl) (by kernel_rfl) rfl rfl rfl (v := V.ptr [13, 0] (0 + Int.toNat v5_4431) 0) (fun _ hz => (.idxRefM (f := api_Timer.cells) (xs := v0_4385) rfl rfl rfl (hz _ _ rfl rfl) rfl rfl hb4435)) ?_
              refine DAny.take (i := 3) rfl (by kernel_rfl) [] (by kernel_rfl) (by kernel_rfl) (by kernel_rfl) rfl rfl rfl (v := V.agg [V.int .i64 ((gt v0_4385 v5_4431).At), V.int .i64 ((gt v0_4385 v5_4431).Id)]) (fun _ hz => (.load rfl rfl (.rowsM (f := api_Timer.cells) (xs := v0_4385) hb4435 (hz _ _ rfl rfl) rfl) rfl)) ?_
              refine DAny.take (i := 4) rfl (by kernel_rfl) [] (by kernel_rfl) (by kernel_rfl) (by kernel_rfl) rfl rfl rfl (v := V.ref [13, 0] 0 (rws api_Timer.cells v0_4385).length) (fun _ hz => (.fn rfl)) ?_
              refine DAny.take (i := 5) rfl (by kernel_rfl) [] (by kernel_rfl) (by kernel_rfl) (by kernel_rfl) rfl rfl rfl (v := V.int .i64 v4_4430) (fun _ hz => (.fn rfl)) ?_
              refine okG h (fun hb4436 h => ?_)
              refine DAny.take (i := 6) rfl (by kernel_rfl) [] (by kernel_rfl) (by kernel_rfl) (by kernel_rfl) rfl rfl rfl (v := V.ptr [13, 0] (0 + Int.toNat v4_4430) 0) (fun _ hz => (.idxRefM (f := api_Timer.cells) (xs := v0_4385) rfl rfl rfl (hz _ _ rfl rfl) rfl rfl hb4436)) ?_
              refine DAny.take (i := 7) rfl (by kernel_rfl) [] (by kernel_rfl) (by kernel_rfl) (by kernel_rfl) rfl rfl rfl (v := V.agg [V.int .i64 ((gt v0_4385 v4_4430).At), V.int .i64 ((gt v0_4385 v4_4430).Id)]) (fun _ hz => (.load rfl rfl (.rowsM (f := api_Timer.cells) (xs := v0_4385) hb4436 (hz _ _ rfl rfl) rfl) rfl)) ?_
              refine bindG h ?_
              intro x_4437 he4438 h
              refine DAny.take (i := 8) rfl (by kernel_rfl) [] (by kernel_rfl) (by kernel_rfl) (by kernel_rfl) rfl rfl rfl (v := V.int .i64 x_4437) (fun _ hz => (.callP rfl rfl (go_heap_order_sc (gt v0_4385 v5_4431) (gt v0_4385 v4_4430) _ he4438) rfl)) ?_
              refine DAny.take (i := 9) rfl (by kernel_rfl) [] (by kernel_rfl) (by kernel_rfl) (by kernel_rfl) rfl rfl rfl (v := V.bool (decide (x_4437 < 0))) (fun _ hz => (.fn rfl)) ?_
              refine DAny.nil (by kernel_rfl) ?_
              repeat (first | refine Safe.seq ?_ | refine Safe.skip ?_ | with_reducible refine thenQ.n ?_ | with_reducible refine blockQ.n ?_)
              refine ifG h (fun hc4439 h => ?_) (fun hc4439 h => ?_)
              · skip
                refine Safe.condK rfl hc4439 ?_
                repeat (first | refine Safe.seq ?_ | refine Safe.skip ?_ | with_reducible refine thenQ.n ?_ | with_reducible refine blockQ.n ?_)
                refine Safe.region ?_
                refine SafeOps.quiet0 E_good rfl rfl rfl (v := V.int .i64 v5_4431) (.fn rfl) ?_
                refine SafeOps.quiet0 E_good rfl rfl rfl (v := V.int .i64 v5_4431) (.fn rfl) ?_
                refine SafeOps.nil ?_
                repeat (first | refine Safe.seq ?_ | refine Safe.skip ?_ | with_reducible refine thenQ.n ?_ | with_reducible refine blockQ.n ?_)
                refine Safe.region ?_
                refine SafeOps.quiet0 E_good rfl rfl rfl (v := V.int .i64 v5_4431) (.fn rfl) ?_
                refine SafeOps.quiet0 E_good rfl rfl rfl (v := V.int .i64 (IntKind.i64.wrap (v5_4431 + 1))) (.fn rfl) ?_
                refine SafeOps.quiet0 E_good rfl rfl rfl (v := V.int .i64 (IntKind.i64.wrap (v5_4431 + 1))) (.fn rfl) ?_
                refine SafeOps.nil ?_
                repeat (first | refine Safe.seq ?_ | refine Safe.skip ?_ | with_reducible refine thenQ.n ?_ | with_reducible refine blockQ.n ?_)
                exact ⟨_, next_out h, (.cov ⟨rfl, rfl, (upT_cons (.refl _) (upT_cons (.refl _) (upT_cons (.refl _) (upT_cons (.refl _) upT_nil)))), (upOb_cons rfl (.refl _) (upOb_cons rfl (.refl _) upOb_nil)), (upOut_cons rfl (upT_cons (.refl _) (upT_cons (.refl _) upT_nil)) (upOut_cons rfl (upT_cons (.refl _) (upT_cons (.refl _) (upT_cons (.refl _) (upT_cons (.refl _) (upT_cons (.refl _) upT_nil))))) upOut_nil)), rfl⟩)⟩
              · skip
                refine Safe.condN rfl hc4439 ?_
                repeat (first | refine Safe.seq ?_ | refine Safe.skip ?_ | with_reducible refine thenQ.n ?_ | with_reducible refine blockQ.n ?_)
                refine Safe.region ?_
                refine SafeOps.quiet0 E_good rfl rfl rfl (v := V.int .i64 v5_4431) (.fn rfl) ?_
                refine SafeOps.quiet0 E_good rfl rfl rfl (v := V.int .i64 (IntKind.i64.wrap (v5_4431 + 1))) (.fn rfl) ?_
                refine SafeOps.quiet0 E_good rfl rfl rfl (v := V.int .i64 (IntKind.i64.wrap (v5_4431 + 1))) (.fn rfl) ?_
                refine SafeOps.nil ?_
                repeat (first | refine Safe.seq ?_ | refine Safe.skip ?_ | with_reducible refine thenQ.n ?_ | with_reducible refine blockQ.n ?_)
                exact ⟨_, next_out h, (.cov ⟨rfl, rfl, (upT_cons (.refl _) (upT_cons (.refl _) (upT_cons (.refl _) (upT_cons (.refl _) upT_nil)))), (upOb_cons rfl (.refl _) (upOb_cons rfl (.refl _) upOb_nil)), (upOut_cons rfl (upT_cons (.refl _) (upT_cons (.refl _) upT_nil)) (upOut_cons rfl (upT_cons (.refl _) (upT_cons (.refl _) (upT_cons (.refl _) (upT_cons (.refl _) (upT_cons (.refl _) upT_nil))))) upOut_nil)), rfl⟩)⟩
            · skip
              refine Safe.condN rfl hc4434 ?_
              repeat (first | refine Safe.seq ?_ | refine Safe.skip ?_ | with_reducible refine thenQ.n ?_ | with_reducible refine blockQ.n ?_)
              refine Safe.exit ?_
              repeat (first | with_reducible refine thenQ.e ?_ | with_reducible refine blockQ.x rfl ?_ | with_reducible refine blockQ.y rfl ?_)
              replace h := inr_out h hr4432
              repeat (first | refine Safe.seq ?_ | refine Safe.skip ?_ | with_reducible refine thenQ.n ?_ | with_reducible refine blockQ.n ?_)
              refine Safe.region ?_
              refine SafeOps.quiet0 E_good rfl rfl rfl (v := V.int .i64 v4_4430) (.fn rfl) ?_
              refine SafeOps.quiet0 E_good rfl rfl rfl (v := V.int .i64 v1_4386) (.fn rfl) ?_
              refine SafeOps.quiet0 E_good rfl rfl rfl (v := V.bool (v4_4430 == v1_4386)) (.fn rfl) ?_
              refine SafeOps.nil ?_
              repeat (first | refine Safe.seq ?_ | refine Safe.skip ?_ | with_reducible refine thenQ.n ?_ | with_reducible refine blockQ.n ?_)
              refine ifG h (fun hc4440 h => ?_) (fun hc4440 h => ?_)
              · skip
                refine Safe.condK rfl hc4440 ?_
                repeat (first | refine Safe.seq ?_ | refine Safe.skip ?_ | with_reducible refine thenQ.n ?_ | with_reducible refine blockQ.n ?_)
                refine Safe.ret ?_
                repeat (first | with_reducible refine thenQ.r ?_ | with_reducible refine blockQ.r ?_)
                refine inQ.gen (vs := []) (v := V.tup []) (.inr rfl) rfl .nil rfl ?_
                replace h := inr_out h hr4387
                refine SafeOps.nil ?_
                repeat (first | refine Safe.seq ?_ | refine Safe.skip ?_ | with_reducible refine thenQ.n ?_ | with_reducible refine blockQ.n ?_)
                refine Safe.region ?_
                refine SafeOps.quiet0 E_good rfl rfl rfl (v := V.ref [13, 0] 0 (rws api_Timer.cells v0_4385).length) (.fn rfl) ?_
                refine SafeOps.quiet0 E_good rfl rfl rfl (v := V.int .i64 0) (.fn rfl) ?_
                refine SafeOps.inline E_good rfl rfl rfl rfl rfl Try.func34 rfl (fun _ _ => Try.call34 _ _) rfl ?_
                repeat (first | refine Safe.seq ?_ | refine Safe.skip ?_ | with_reducible refine thenQ.n ?_ | with_reducible refine blockQ.n ?_)
                refine Safe.block ?_
                repeat (first | refine Safe.seq ?_ | refine Safe.skip ?_ | with_reducible refine thenQ.n ?_ | with_reducible refine blockQ.n ?_)
                refine Safe.loopW (fun (_ : Unit) => ⟨Try.f34.ntmps, [(0, V.ref [13, 0] 0 (rws api_Timer.cells v0_4385).length), (1, V.int .i64 0)], [([13, 0], Obj.rows 2 (rws api_Timer.cells v0_4385) false), ([31], Obj.rows 1 (rws (fun n => [V.int .i64 n]) (v4_4258 ++ [(gt v5_4259 0).Id])) false)], [(Try.f39.ntmps, [(0, V.ref [13, 0] 0 (rws api_Timer.cells v0_4385).length)]), (Try.f19.ntmps, [(1, V.int .i64 a1_2182), (4, V.ref [31] 0 (rws (fun n => [V.int .i64 n]) (v4_4258 ++ [(gt v5_4259 0).Id])).length), (21, V.int .i64 ((gt v5_4259 0).At)), (22, V.int .i64 a1_2182), (23, V.bool (decide (((gt v5_4259 0).At) ≤ a1_2182)))])], [33, 27]⟩) h (.cov ⟨rfl, rfl, (upT_cons (.refl _) (upT_cons (.refl _) upT_nil)), (upOb_cons rfl (.refl _) (upOb_cons rfl (.refl _) upOb_nil)), (upOut_cons rfl (upT_cons (.refl _) upT_nil) (upOut_cons rfl (upT_cons (.refl _) (upT_cons (.refl _) (upT_cons (.refl _) (upT_cons (.refl _) (upT_cons (.refl _) upT_nil))))) upOut_nil)), rfl⟩) ?_
                intro _ ohr4441 h hr4441
                replace h : go_heap_Expire_s51 v4_4258 v5_4259 v0_4385 () = some ohr4441 := h
                rw [go_heap_Expire_s51] at h
                repeat (first | refine Safe.seq ?_ | refine Safe.skip ?_ | with_reducible refine thenQ.n ?_ | with_reducible refine blockQ.n ?_)
                refine Safe.region ?_
                refine SafeOps.quiet0 E_good rfl rfl rfl (v := V.int .i64 0) (.fn rfl) ?_
                refine SafeOps.quiet0 E_good rfl rfl rfl (v := V.bool false) (.fn rfl) ?_
                refine SafeOps.nil ?_
                repeat (first | refine Safe.seq ?_ | refine Safe.skip ?_ | with_reducible refine thenQ.n ?_ | with_reducible refine blockQ.n ?_)
                refine Safe.condN rfl rfl ?_
                repeat (first | refine Safe.seq ?_ | refine Safe.skip ?_ | with_reducible refine thenQ.n ?_ | with_reducible refine blockQ.n ?_)
                refine Safe.exit ?_
                repeat (first | with_reducible refine thenQ.e ?_ | with_reducible refine blockQ.x rfl ?_ | with_reducible refine blockQ.y rfl ?_)
                replace h := inr_out h hr4441
                repeat (first | refine Safe.seq ?_ | refine Safe.skip ?_ | with_reducible refine thenQ.n ?_ | with_reducible refine blockQ.n ?_)
                repeat (first | with_reducible refine thenQ.r ?_ | with_reducible refine blockQ.r ?_)
                refine inQ.gen (vs := []) (v := V.tup []) (.inl rfl) rfl .nil rfl ?_
                refine SafeOps.nil ?_
                repeat (first | refine Safe.seq ?_ | refine Safe.skip ?_ | with_reducible refine thenQ.n ?_ | with_reducible refine blockQ.n ?_)
                refine Safe.region ?_
                refine SafeOps.quiet0 E_good rfl rfl rfl (v := V.ref [13, 0] 0 (rws api_Timer.cells v0_4385).length) (.fn rfl) ?_
                refine SafeOps.quiet0 E_good rfl rfl rfl (v := V.ref [13, 0] 0 (rws api_Timer.cells v0_4385).length) (.fn rfl) ?_
                refine SafeOps.nil ?_
                repeat (first | refine Safe.seq ?_ | refine Safe.skip ?_ | with_reducible refine thenQ.n ?_ | with_reducible refine blockQ.n ?_)
                refine Safe.ret ?_
                repeat (first | with_reducible refine thenQ.r ?_ | with_reducible refine blockQ.r ?_)
                refine inQ.gen (vs := [V.ref [13, 0] 0 (rws api_Timer.cells v0_4385).length]) (v := V.ref [13, 0] 0 (rws api_Timer.cells v0_4385).length) (.inr rfl) rfl (.tmp (v := V.ref [13, 0] 0 (rws api_Timer.cells v0_4385).length) rfl .nil) rfl ?_
                refine SafeOps.quiet0 E_good rfl rfl rfl (v := V.ref [13, 0] 0 (rws api_Timer.cells v0_4385).length) (.fn rfl) ?_
                refine SafeOps.nil ?_
                repeat (first | refine Safe.seq ?_ | refine Safe.skip ?_ | with_reducible refine thenQ.n ?_ | with_reducible refine blockQ.n ?_)
                exact ⟨_, next_out h, (.ren [31] [7000, 118, 4] (.cov ⟨rfl, rfl, (upT_cons (.refl _) (upT_cons (.refl _) (upT_cons (.refl _) upT_nil))), (upOb_cons rfl (.refl _) (upOb_cons rfl (.refl _) upOb_nil)), upOut_nil, rfl⟩))⟩
              · skip
                refine Safe.condN rfl hc4440 ?_
                repeat (first | refine Safe.seq ?_ | refine Safe.skip ?_ | with_reducible refine thenQ.n ?_ | with_reducible refine blockQ.n ?_)
                refine Safe.regionD (n := 16) [(13, [12, 0]), (13, [13, 0]), (13, [14, 0]), (15, [12, 0]), (15, [13, 0]), (15, [14, 0])] [] E_good mixed rfl ?_
                refine DAny.take (i := 0) rfl (by kernel_rfl) [[12, 0], [13, 0], [14, 0]] (by kernel_rfl) (by kernel_rfl) (by kernel_rfl) rfl rfl rfl (v := V.ref [13, 0] 0 (rws api_Timer.cells v0_4385).length) (fun _ hz => (.fn rfl)) ?_
                refine DAny.take (i := 1) rfl (by kernel_rfl) [[12, 0], [13, 0], [14, 0]] (by kernel_rfl) (by kernel_rfl) (by kernel_rfl) rfl rfl rfl (v := V.int .i64 v4_4430) (fun _ hz => (.fn rfl)) ?_
                refine DAny.take (i := 2) rfl (by kernel_rfl) [[12, 0], [13, 0], [14, 0]] (by kernel_rfl) (by kernel_rfl) (by kernel_rfl) rfl rfl rfl (v := V.ref [13, 0] 0 (rws api_Timer.cells v0_4385).length) (fun _ hz => (.fn rfl)) ?_
                refine DAny.take (i := 3) rfl (by kernel_rfl) [[12, 0], [13, 0], [14, 0]] (by kernel_rfl) (by kernel_rfl) (by kernel_rfl) rfl rfl rfl (v := V.int .i64 v1_4386) (fun _ hz => (.fn rfl)) ?_
                refine DAny.take (i := 4) rfl (by kernel_rfl) [[12, 0], [13, 0], [14, 0]] (by kernel_rfl) (by kernel_rfl) (by kernel_rfl) rfl rfl rfl (v := V.ref [13, 0] 0 (rws api_Timer.cells v0_4385).length) (fun _ hz => (.fn rfl)) ?_
                refine DAny.take (i := 5) rfl (by kernel_rfl) [[12, 0], [13, 0], [14, 0]] (by kernel_rfl) (by kernel_rfl) (by kernel_rfl) rfl rfl rfl (v := V.int .i64 v1_4386) (fun _ hz => (.fn rfl)) ?_
                refine okG h (fun hb4442 h => ?_)
                refine DAny.take (i := 6) rfl (by kernel_rfl) [[12, 0], [14, 0]] (by kernel_rfl) (by kernel_rfl) (by kernel_rfl) rfl rfl rfl (v := V.ptr [13, 0] (0 + Int.toNat v1_4386) 0) (fun _ hz => (.idxRefM (f := api_Timer.cells) (xs := v0_4385) rfl rfl rfl (hz _ _ rfl rfl) rfl rfl hb4442)) ?_
                refine DAny.take (i := 7) rfl (by kernel_rfl) [[12, 0], [14, 0]] (by kernel_rfl) (by kernel_rfl) (by kernel_rfl) rfl rfl rfl (v := V.agg [V.int .i64 ((gt v0_4385 v1_4386).At), V.int .i64 ((gt v0_4385 v1_4386).Id)]) (fun _ hz => (.load rfl rfl (.rowsM (f := api_Timer.cells) (xs := v0_4385) hb4442 (hz _ _ rfl rfl) rfl) rfl)) ?_
                refine DAny.take (i := 8) rfl (by kernel_rfl) [[12, 0], [13, 0], [14, 0]] (by kernel_rfl) (by kernel_rfl) (by kernel_rfl) rfl rfl rfl (v := V.ref [13, 0] 0 (rws api_Timer.cells v0_4385).length) (fun _ hz => (.fn rfl)) ?_
                refine DAny.take (i := 9) rfl (by kernel_rfl) [[12, 0], [13, 0], [14, 0]] (by kernel_rfl) (by kernel_rfl) (by kernel_rfl) rfl rfl rfl (v := V.int .i64 v4_4430) (fun _ hz => (.fn rfl)) ?_
                refine okG h (fun hb4443 h => ?_)
                refine DAny.take (i := 10) rfl (by kernel_rfl) [[12, 0], [14, 0]] (by kernel_rfl) (by kernel_rfl) (by kernel_rfl) rfl rfl rfl (v := V.ptr [13, 0] (0 + Int.toNat v4_4430) 0) (fun _ hz => (.idxRefM (f := api_Timer.cells) (xs := v0_4385) rfl rfl rfl (hz _ _ rfl rfl) rfl rfl hb4443)) ?_
                refine DAny.take (i := 11) rfl (by kernel_rfl) [[12, 0], [14, 0]] (by kernel_rfl) (by kernel_rfl) (by kernel_rfl) rfl rfl rfl (v := V.agg [V.int .i64 ((gt v0_4385 v4_4430).At), V.int .i64 ((gt v0_4385 v4_4430).Id)]) (fun _ hz => (.load rfl rfl (.rowsM (f := api_Timer.cells) (xs := v0_4385) hb4443 (hz _ _ rfl rfl) rfl) rfl)) ?_
                refine okG h (fun hb4444 h => ?_)
                refine DAny.take (i := 12) rfl (by kernel_rfl) [[12, 0], [14, 0]] (by kernel_rfl) (by kernel_rfl) (by kernel_rfl) rfl rfl rfl (v := V.ptr [13, 0] (0 + Int.toNat v4_4430) 0) (fun _ hz => (.idxRefM (f := api_Timer.cells) (xs := v0_4385) rfl rfl rfl (hz _ _ rfl rfl) rfl rfl hb4444)) ?_
                refine DAny.only (i := 13) rfl (by kernel_rfl) (.store (z := Obj.rows 2 (rws api_Timer.cells (st v0_4385 v4_4430 (gt v0_4385 v1_4386))) false) rfl rfl rfl rfl rfl rfl rfl (.rowsM (f := api_Timer.cells) (xs := v0_4385) (y := (gt v0_4385 v1_4386)) hb4444 rfl rfl rfl rfl) rfl ?_)
                refine okG h (fun hb4445 h => ?_)
                refine DAny.take (i := 14) rfl (by kernel_rfl) [[12, 0], [14, 0]] (by kernel_rfl) (by kernel_rfl) (by kernel_rfl) rfl rfl rfl (v := V.ptr [13, 0] (0 + Int.toNat v1_4386) 0) (fun _ hz => (.idxRefL (f := api_Timer.cells) (xs := st v0_4385 v4_4430 (gt v0_4385 v1_4386)) (ys := v0_4385) rfl rfl rfl (hz _ _ rfl rfl) rfl (by simp [st]) hb4445)) ?_
                refine DAny.only (i := 15) rfl (by kernel_rfl) (.store (z := Obj.rows 2 (rws api_Timer.cells (st (st v0_4385 v4_4430 (gt v0_4385 v1_4386)) v1_4386 (gt v0_4385 v4_4430))) false) rfl rfl rfl rfl rfl rfl rfl (.rowsM (f := api_Timer.cells) (xs := st v0_4385 v4_4430 (gt v0_4385 v1_4386)) (y := (gt v0_4385 v4_4430)) hb4445 rfl rfl rfl rfl) rfl ?_)
                refine DAny.nil (by kernel_rfl) ?_
                repeat (first | refine Safe.seq ?_ | refine Safe.skip ?_ | with_reducible refine thenQ.n ?_ | with_reducible refine blockQ.n ?_)
                refine Safe.see 0 (u := V.ref [13, 0] 0 (rws api_Timer.cells (st (st v0_4385 v4_4430 (gt v0_4385 v1_4386)) v1_4386 (gt v0_4385 v4_4430))).length) rfl (.len (by simp [rws, st])) ?_
                refine Safe.see 37 (u := V.ref [13, 0] 0 (rws api_Timer.cells (st (st v0_4385 v4_4430 (gt v0_4385 v1_4386)) v1_4386 (gt v0_4385 v4_4430))).length) rfl (.len (by simp [rws, st])) ?_
                refine Safe.see 39 (u := V.ref [13, 0] 0 (rws api_Timer.cells (st (st v0_4385 v4_4430 (gt v0_4385 v1_4386)) v1_4386 (gt v0_4385 v4_4430))).length) rfl (.len (by simp [rws, st])) ?_
                refine Safe.see 41 (u := V.ref [13, 0] 0 (rws api_Timer.cells (st (st v0_4385 v4_4430 (gt v0_4385 v1_4386)) v1_4386 (gt v0_4385 v4_4430))).length) rfl (.len (by simp [rws, st])) ?_
                refine Safe.see 45 (u := V.ref [13, 0] 0 (rws api_Timer.cells (st (st v0_4385 v4_4430 (gt v0_4385 v1_4386)) v1_4386 (gt v0_4385 v4_4430))).length) rfl (.len (by simp [rws, st])) ?_
                repeat (first | refine Safe.seq ?_ | refine Safe.skip ?_ | with_reducible refine thenQ.n ?_ | with_reducible refine blockQ.n ?_)
                refine Safe.region ?_
                refine SafeOps.quiet0 E_good rfl rfl rfl (v := V.int .i64 v4_4430) (.fn rfl) ?_
                refine SafeOps.quiet0 E_good rfl rfl rfl (v := V.int .i64 v4_4430) (.fn rfl) ?_
                refine SafeOps.nil ?_
                repeat (first | refine Safe.seq ?_ | refine Safe.skip ?_ | with_reducible refine thenQ.n ?_ | with_reducible refine blockQ.n ?_)
                exact ⟨_, next_out h, (.cov ⟨rfl, rfl, (upT_cons (.refl _) (upT_cons (.refl _) upT_nil)), (upOb_cons rfl (.refl _) (upOb_cons rfl (.refl _) upOb_nil)), (upOut_cons rfl (upT_cons (.len (by simp [rws, st])) (upT_cons (.refl _) upT_nil)) (upOut_cons rfl (upT_cons (.refl _) (upT_cons (.refl _) (upT_cons (.refl _) (upT_cons (.refl _) (upT_cons (.refl _) upT_nil))))) upOut_nil)), rfl⟩)⟩
          · skip
            refine Safe.condN rfl hc4270 ?_
            repeat (first | refine Safe.seq ?_ | refine Safe.skip ?_ | with_reducible refine thenQ.n ?_ | with_reducible refine blockQ.n ?_)
            refine Safe.region ?_
            refine SafeOps.quiet0 E_good rfl rfl rfl (v := V.ref [13, 0] 0 (rws api_Timer.cells (sub (st v5_4259 0 (gt v5_4259 (IntKind.i64.wrap ((v5_4259.length : Int) - 1)))) 0 (IntKind.i64.wrap ((v5_4259.length : Int) - 1)))).length) (.fn rfl) ?_
            refine SafeOps.quiet0 E_good rfl rfl rfl (v := V.ref [13, 0] 0 (rws api_Timer.cells (sub (st v5_4259 0 (gt v5_4259 (IntKind.i64.wrap ((v5_4259.length : Int) - 1)))) 0 (IntKind.i64.wrap ((v5_4259.length : Int) - 1)))).length) (.fn rfl) ?_
            refine SafeOps.nil ?_
            repeat (first | refine Safe.seq ?_ | refine Safe.skip ?_ | with_reducible refine thenQ.n ?_ | with_reducible refine blockQ.n ?_)
            refine Safe.ret ?_
            repeat (first | with_reducible refine thenQ.r ?_ | with_reducible refine blockQ.r ?_)
            refine inQ.gen (vs := [V.ref [13, 0] 0 (rws api_Timer.cells (sub (st v5_4259 0 (gt v5_4259 (IntKind.i64.wrap ((v5_4259.length : Int) - 1)))) 0 (IntKind.i64.wrap ((v5_4259.length : Int) - 1)))).length]) (v := V.ref [13, 0] 0 (rws api_Timer.cells (sub (st v5_4259 0 (gt v5_4259 (IntKind.i64.wrap ((v5_4259.length : Int) - 1)))) 0 (IntKind.i64.wrap ((v5_4259.length : Int) - 1)))).length) (.inr rfl) rfl (.tmp (v := V.ref [13, 0] 0 (rws api_Timer.cells (sub (st v5_4259 0 (gt v5_4259 (IntKind.i64.wrap ((v5_4259.length : Int) - 1)))) 0 (IntKind.i64.wrap ((v5_4259.length : Int) - 1)))).length) rfl .nil) rfl ?_
            refine SafeOps.quiet0 E_good rfl rfl rfl (v := V.ref [13, 0] 0 (rws api_Timer.cells (sub (st v5_4259 0 (gt v5_4259 (IntKind.i64.wrap ((v5_4259.length : Int) - 1)))) 0 (IntKind.i64.wrap ((v5_4259.length : Int) - 1)))).length) (.fn rfl) ?_
            refine SafeOps.nil ?_
            repeat (first | refine Safe.seq ?_ | refine Safe.skip ?_ | with_reducible refine thenQ.n ?_ | with_reducible refine blockQ.n ?_)
            exact ⟨_, next_out h, (.ren [31] [7000, 118, 4] (.cov ⟨rfl, rfl, (upT_cons (.refl _) (upT_cons (.refl _) (upT_cons (.refl _) upT_nil))), (upOb_cons rfl (.refl _) (upOb_cons rfl (.refl _) upOb_nil)), upOut_nil, rfl⟩))⟩
        · skip
          refine Safe.condN rfl hc4264 ?_
          repeat (first | refine Safe.seq ?_ | refine Safe.skip ?_ | with_reducible refine thenQ.n ?_ | with_reducible refine blockQ.n ?_)
          refine Safe.exit ?_
          repeat (first | with_reducible refine thenQ.e ?_ | with_reducible refine blockQ.x rfl ?_ | with_reducible refine blockQ.y rfl ?_)
          replace h := inr_out h hr4260
          repeat (first | refine Safe.skip ?_ | with_reducible refine thenQ.n ?_ | with_reducible refine blockQ.n ?_)
          exact Safe.got (HJ3885 (v4_4258, v5_4259) h) (.cov ⟨rfl, rfl, (upT_cons (.refl _) (upT_cons (.refl _) upT_nil)), (upOb_cons rfl (.refl _) (upOb_cons rfl (.refl _) upOb_nil)), upOut_nil, rfl⟩)
      · skip
        refine SafeOps.skip (congrArg some hc4261) rfl rfl ?_
        refine SafeOps.skip (congrArg some hc4261) rfl rfl ?_
        refine SafeOps.skip (congrArg some hc4261) rfl rfl ?_
        refine SafeOps.skip (congrArg some hc4261) rfl rfl ?_
        refine SafeOps.skip (congrArg some hc4261) rfl rfl ?_
        refine SafeOps.skip (congrArg some hc4261) rfl rfl ?_
        refine SafeOps.quiet0 E_good rfl rfl rfl (v := V.bool false) (.pickK rfl hc4261 rfl) ?_
        refine SafeOps.nil ?_
        repeat (first | refine Safe.seq ?_ | refine Safe.skip ?_ | with_reducible refine thenQ.n ?_ | with_reducible refine blockQ.n ?_)
        refine Safe.condN rfl rfl ?_
        repeat (first | refine Safe.seq ?_ | refine Safe.skip ?_ | with_reducible refine thenQ.n ?_ | with_reducible refine blockQ.n ?_)
        refine Safe.exit ?_
        repeat (first | with_reducible refine thenQ.e ?_ | with_reducible refine blockQ.x rfl ?_ | with_reducible refine blockQ.y rfl ?_)
        replace h := inr_out h hr4260
        repeat (first | refine Safe.skip ?_ | with_reducible refine thenQ.n ?_ | with_reducible refine blockQ.n ?_)
        exact Safe.got (HJ3885 (v4_4258, v5_4259) h) (.cov ⟨rfl, rfl, (upT_cons (.refl _) (upT_cons (.refl _) upT_nil)), (upOb_cons rfl (.refl _) (upOb_cons rfl (.refl _) upOb_nil)), upOut_nil, rfl⟩)

noncomputable def go_ravelref08_Expire_s2 (a1_4451 : Int) (x_4504 : List api_Timer) : ((List Int) × (List api_Timer) × Int) → Option (((List Int) × (List api_Timer) × Int) ⊕ ((List Int) × (List api_Timer) × Int))
  | (v7_4541, v8_4542, v17_4543) =>
    if (decide (v17_4543 < (x_4504.length : Int))) = true then
      if 0 ≤ v17_4543 ∧ v17_4543 < (x_4504.length : Int) then
        if (decide (((gt x_4504 v17_4543).At) ≤ a1_4451)) = true then
          if few (v7_4541 ++ [(gt x_4504 v17_4543).Id]).length then
            nextO (v7_4541 ++ [(gt x_4504 v17_4543).Id], v8_4542, IntKind.i64.wrap (v17_4543 + 1))
          else none
        else
          if few (v8_4542 ++ [(gt x_4504 v17_4543)]).length then
            nextO (v7_4541, v8_4542 ++ [(gt x_4504 v17_4543)], IntKind.i64.wrap (v17_4543 + 1))
          else none
      else none
    else
      inrO (
        some (v7_4541, v8_4542, 0))

noncomputable def go_ravelref08_Expire (a0_4450 : List api_Timer) (a1_4451 : Int) : Option ((List Int) × (List api_Timer) × Int) :=
  (go_ravelref08_Check a0_4450).bind fun x_4501 =>
  if (x_4501 != 0) = true then
    some ([], [], 1)
  else
    (go_ravelref08_Order a0_4450).bind fun x_4504 =>
    whileO (go_ravelref08_Expire_s2 a1_4451 x_4504) ([], [], 0)

theorem go_ravelref08_Expire_sc (a0_4450 : List api_Timer) (a1_4451 : Int) (r : (List Int) × (List api_Timer) × Int) (h : go_ravelref08_Expire a0_4450 a1_4451 = some r) : SC Try.prog gl 26 [V.sl 2 (rws api_Timer.cells a0_4450), V.int .i64 a1_4451] (V.tup [V.own 1 (rws (fun n => [V.int .i64 n]) r.1), V.own 2 (rws api_Timer.cells r.2.1), V.int .i64 r.2.2]) := by
  rw [go_ravelref08_Expire] at h
  refine SC.of E_good Try.func26 rfl (fun _ _ => Try.call26 _ _) rfl ?_
  repeat (first | refine Safe.seq ?_ | refine Safe.skip ?_ | with_reducible refine thenQ.n ?_ | with_reducible refine blockQ.n ?_)
  refine Safe.region ?_
  refine SafeOps.quiet0 E_good rfl rfl rfl (v := V.nils) (.fn rfl) ?_
  refine SafeOps.quiet0 E_good rfl rfl rfl (v := V.nils) (.fn rfl) ?_
  refine SafeOps.quiet0 E_good rfl rfl rfl (v := V.int .i64 0) (.fn rfl) ?_
  refine SafeOps.nil ?_
  repeat (first | refine Safe.seq ?_ | refine Safe.skip ?_ | with_reducible refine thenQ.n ?_ | with_reducible refine blockQ.n ?_)
  refine Safe.region ?_
  refine SafeOps.quiet0 E_good rfl rfl rfl (v := V.sl 2 (rws api_Timer.cells a0_4450)) (.fn rfl) ?_
  refine bindG h ?_
  intro x_4501 he4502 h
  refine SafeOps.quiet0 E_good rfl rfl rfl (v := V.int .i64 x_4501) (.callP rfl rfl (go_ravelref08_Check_sc a0_4450 _ he4502) rfl) ?_
  refine SafeOps.quiet0 E_good rfl rfl rfl (v := V.bool (x_4501 != 0)) (.fn rfl) ?_
  refine SafeOps.nil ?_
  repeat (first | refine Safe.seq ?_ | refine Safe.skip ?_ | with_reducible refine thenQ.n ?_ | with_reducible refine blockQ.n ?_)
  refine ifG h (fun hc4503 h => ?_) (fun hc4503 h => ?_)
  · skip
    refine Safe.condK rfl hc4503 ?_
    repeat (first | refine Safe.seq ?_ | refine Safe.skip ?_ | with_reducible refine thenQ.n ?_ | with_reducible refine blockQ.n ?_)
    refine Safe.region ?_
    refine SafeOps.quiet0 E_good rfl rfl rfl (v := V.nils) (.fn rfl) ?_
    refine SafeOps.quiet0 E_good rfl rfl rfl (v := V.nils) (.fn rfl) ?_
    refine SafeOps.quiet0 E_good rfl rfl rfl (v := V.int .i64 1) (.fn rfl) ?_
    refine SafeOps.nil ?_
    repeat (first | refine Safe.seq ?_ | refine Safe.skip ?_ | with_reducible refine thenQ.n ?_ | with_reducible refine blockQ.n ?_)
    refine Safe.ret ?_
    repeat (first | with_reducible refine thenQ.r ?_ | with_reducible refine blockQ.r ?_)
    obtain rfl := Option.some.inj h
    exact retQ.gen (vs := [V.nils, V.nils, V.int .i64 1]) rfl (.tmp (v := V.nils) rfl (.tmp (v := V.nils) rfl (.tmp (v := V.int .i64 1) rfl .nil))) (by exact (.tup (.cons (.nils _) (.cons (.nils _) (.cons (.free rfl) .nil))))) (by simp) (.inr rfl)
  · skip
    refine Safe.condN rfl hc4503 ?_
    repeat (first | refine Safe.seq ?_ | refine Safe.skip ?_ | with_reducible refine thenQ.n ?_ | with_reducible refine blockQ.n ?_)
    refine Safe.region ?_
    refine SafeOps.quiet0 E_good rfl rfl rfl (v := V.nils) (.fn rfl) ?_
    refine SafeOps.nil ?_
    repeat (first | refine Safe.seq ?_ | refine Safe.skip ?_ | with_reducible refine thenQ.n ?_ | with_reducible refine blockQ.n ?_)
    refine Safe.region ?_
    refine SafeOps.quiet0 E_good rfl rfl rfl (v := V.nils) (.fn rfl) ?_
    refine SafeOps.nil ?_
    repeat (first | refine Safe.seq ?_ | refine Safe.skip ?_ | with_reducible refine thenQ.n ?_ | with_reducible refine blockQ.n ?_)
    refine Safe.region ?_
    refine SafeOps.quiet0 E_good rfl rfl rfl (v := V.sl 2 (rws api_Timer.cells a0_4450)) (.fn rfl) ?_
    refine bindG h ?_
    intro x_4504 he4505 h
    refine SafeOps.quiet E_good rfl rfl rfl (v := V.ref [15, 0] 0 (rws api_Timer.cells x_4504).length) (.callP rfl rfl (go_ravelref08_Order_sc a0_4450 _ he4505) rfl) rfl ?_
    refine SafeOps.quiet0 E_good rfl rfl rfl (v := V.int .i64 (x_4504.length : Int)) (.fnE rfl lenE) ?_
    refine SafeOps.quiet0 E_good rfl rfl rfl (v := V.int .i64 0) (.fn rfl) ?_
    refine SafeOps.nil ?_
    repeat (first | refine Safe.seq ?_ | refine Safe.skip ?_ | with_reducible refine thenQ.n ?_ | with_reducible refine blockQ.n ?_)
    refine Safe.block ?_
    repeat (first | refine Safe.seq ?_ | refine Safe.skip ?_ | with_reducible refine thenQ.n ?_ | with_reducible refine blockQ.n ?_)
    refine Safe.loopW (fun ((v7_4541, v8_4542, v17_4543) : (List Int) × (List api_Timer) × Int) => ⟨Try.f26.ntmps, [(1, V.int .i64 a1_4451), (7, V.ref [7000, 118, 7] 0 (rws (fun n => [V.int .i64 n]) v7_4541).length), (8, V.ref [7000, 118, 8] 0 (rws api_Timer.cells v8_4542).length), (15, V.ref [15, 0] 0 (rws api_Timer.cells x_4504).length), (16, V.int .i64 (x_4504.length : Int)), (17, V.int .i64 v17_4543)], [([15, 0], Obj.rows 2 (rws api_Timer.cells x_4504) false), ([7000, 118, 7], Obj.rows 1 (rws (fun n => [V.int .i64 n]) v7_4541) false), ([7000, 118, 8], Obj.rows 2 (rws api_Timer.cells v8_4542) false)], [], []⟩) h (.empty [7000, 118, 7] 1 rfl (.empty [7000, 118, 8] 2 rfl (.cov ⟨rfl, rfl, (upT_cons (.refl _) (upT_cons (.nilref _) (upT_cons (.nilref _) (upT_cons (.refl _) (upT_cons (.refl _) (upT_cons (.refl _) upT_nil)))))), (upOb_cons rfl (.refl _) (upOb_cons rfl (.refl _) (upOb_cons rfl (.refl _) upOb_nil))), upOut_nil, rfl⟩))) ?_
    rintro ⟨v7_4541, v8_4542, v17_4543⟩ ohr4544 h hr4544
    replace h : go_ravelref08_Expire_s2 a1_4451 x_4504 (v7_4541, v8_4542, v17_4543) = some ohr4544 := h
    rw [go_ravelref08_Expire_s2] at h
    repeat (first | refine Safe.seq ?_ | refine Safe.skip ?_ | with_reducible refine thenQ.n ?_ | with_reducible refine blockQ.n ?_)
    refine Safe.region ?_
    refine SafeOps.quiet0 E_good rfl rfl rfl (v := V.bool (decide (v17_4543 < (x_4504.length : Int)))) (.fn rfl) ?_
    refine SafeOps.nil ?_
    repeat (first | refine Safe.seq ?_ | refine Safe.skip ?_ | with_reducible refine thenQ.n ?_ | with_reducible refine blockQ.n ?_)
    refine ifG h (fun hc4545 h => ?_) (fun hc4545 h => ?_)
    · skip
      refine Safe.condK rfl hc4545 ?_
      repeat (first | refine Safe.seq ?_ | refine Safe.skip ?_ | with_reducible refine thenQ.n ?_ | with_reducible refine blockQ.n ?_)
      refine Safe.block ?_
      repeat (first | refine Safe.seq ?_ | refine Safe.skip ?_ | with_reducible refine thenQ.n ?_ | with_reducible refine blockQ.n ?_)
      refine Safe.region ?_
      refine okG h (fun hb4546 h => ?_)
      refine SafeOps.quiet0 E_good rfl rfl rfl (v := V.ptr [15, 0] (0 + Int.toNat v17_4543) 0) (.idxRefM (f := api_Timer.cells) (xs := x_4504) rfl rfl rfl rfl rfl rfl hb4546) ?_
      refine SafeOps.quiet0 E_good rfl rfl rfl (v := V.agg [V.int .i64 ((gt x_4504 v17_4543).At), V.int .i64 ((gt x_4504 v17_4543).Id)]) (.load rfl rfl (.rowsM (f := api_Timer.cells) (xs := x_4504) hb4546 rfl rfl) rfl) ?_
      refine SafeOps.quiet1 E_good rfl rfl rfl (.alloc rfl rfl) rfl ?_
      refine SafeOps.store (z := Obj.box [V.int .i64 ((gt x_4504 v17_4543).At), V.int .i64 ((gt x_4504 v17_4543).Id)]) E_good rfl rfl rfl rfl rfl rfl rfl (.boxM (c := 2) rfl rfl (Nat.le_of_ble_eq_true rfl) rfl) ?_
      refine SafeOps.nil ?_
      repeat (first | refine Safe.seq ?_ | refine Safe.skip ?_ | with_reducible refine thenQ.n ?_ | with_reducible refine blockQ.n ?_)
      refine Safe.region ?_
      refine SafeOps.quiet0 E_good rfl rfl rfl (v := V.ptr [10] 0 0) (.fn rfl) ?_
      refine SafeOps.quiet0 E_good rfl rfl rfl (v := V.int .i64 ((gt x_4504 v17_4543).At)) (.load rfl rfl (.box rfl rfl) rfl) ?_
      refine SafeOps.quiet0 E_good rfl rfl rfl (v := V.int .i64 a1_4451) (.fn rfl) ?_
      refine SafeOps.quiet0 E_good rfl rfl rfl (v := V.bool (decide (((gt x_4504 v17_4543).At) ≤ a1_4451))) (.fn rfl) ?_
      refine SafeOps.nil ?_
      repeat (first | refine Safe.seq ?_ | refine Safe.skip ?_ | with_reducible refine thenQ.n ?_ | with_reducible refine blockQ.n ?_)
      refine ifG h (fun hc4547 h => ?_) (fun hc4547 h => ?_)
      · skip
        refine Safe.condK rfl hc4547 ?_
        repeat (first | refine Safe.seq ?_ | refine Safe.skip ?_ | with_reducible refine thenQ.n ?_ | with_reducible refine blockQ.n ?_)
        refine Safe.region ?_
        refine SafeOps.quiet0 E_good rfl rfl rfl (v := V.ref [7000, 118, 7] 0 (rws (fun n => [V.int .i64 n]) v7_4541).length) (.fn rfl) ?_
        refine SafeOps.quiet0 E_good rfl rfl rfl (v := V.ptr [10] 0 1) (.fn rfl) ?_
        refine SafeOps.quiet0 E_good rfl rfl rfl (v := V.int .i64 ((gt x_4504 v17_4543).Id)) (.load rfl rfl (.box rfl rfl) rfl) ?_
        refine SafeOps.quiet1 E_good rfl rfl rfl (.litM (f := (fun n => [V.int .i64 n])) (xs := [(gt x_4504 v17_4543).Id]) rfl rfl (by decide) rfl rfl rfl rfl rfl) rfl ?_
        refine okG h (fun hb4548 h => ?_)
        refine SafeOps.appendM (fun n => [V.int .i64 n]) (xs := v7_4541) (ys := [(gt x_4504 v17_4543).Id]) E_good rfl rfl rfl rfl rfl rfl rfl rfl rfl (.own rfl) (.own rfl) (fun _ => rfl) hb4548 ?_
        refine SafeOps.quiet0 E_good rfl rfl rfl (v := V.ref [29] 0 (rws (fun n => [V.int .i64 n]) (v7_4541 ++ [(gt x_4504 v17_4543).Id])).length) (.fn rfl) ?_
        refine SafeOps.nil ?_
        repeat (first | refine Safe.seq ?_ | refine Safe.skip ?_ | with_reducible refine thenQ.n ?_ | with_reducible refine blockQ.n ?_)
        refine Safe.region ?_
        refine SafeOps.quiet0 E_good rfl rfl rfl (v := V.int .i64 (IntKind.i64.wrap (v17_4543 + 1))) (.fn rfl) ?_
        refine SafeOps.quiet0 E_good rfl rfl rfl (v := V.int .i64 (IntKind.i64.wrap (v17_4543 + 1))) (.fn rfl) ?_
        refine SafeOps.nil ?_
        repeat (first | refine Safe.seq ?_ | refine Safe.skip ?_ | with_reducible refine thenQ.n ?_ | with_reducible refine blockQ.n ?_)
        exact ⟨_, next_out h, (.ren [29] [7000, 118, 7] (.cov ⟨rfl, rfl, (upT_cons (.refl _) (upT_cons (.refl _) (upT_cons (.refl _) (upT_cons (.refl _) (upT_cons (.refl _) (upT_cons (.refl _) upT_nil)))))), (upOb_cons rfl (.refl _) (upOb_cons rfl (.refl _) (upOb_cons rfl (.refl _) upOb_nil))), upOut_nil, rfl⟩))⟩
      · skip
        refine Safe.condN rfl hc4547 ?_
        repeat (first | refine Safe.seq ?_ | refine Safe.skip ?_ | with_reducible refine thenQ.n ?_ | with_reducible refine blockQ.n ?_)
        refine Safe.region ?_
        refine SafeOps.quiet0 E_good rfl rfl rfl (v := V.ref [7000, 118, 8] 0 (rws api_Timer.cells v8_4542).length) (.fn rfl) ?_
        refine SafeOps.quiet0 E_good rfl rfl rfl (v := V.agg [V.int .i64 ((gt x_4504 v17_4543).At), V.int .i64 ((gt x_4504 v17_4543).Id)]) (.load rfl rfl (.box rfl rfl) rfl) ?_
        refine SafeOps.quiet1 E_good rfl rfl rfl (.litM (f := api_Timer.cells) (xs := [(gt x_4504 v17_4543)]) rfl rfl (by decide) rfl rfl rfl rfl rfl) rfl ?_
        refine okG h (fun hb4549 h => ?_)
        refine SafeOps.appendM api_Timer.cells (xs := v8_4542) (ys := [(gt x_4504 v17_4543)]) E_good rfl rfl rfl rfl rfl rfl rfl rfl rfl (.own rfl) (.own rfl) (fun _ => rfl) hb4549 ?_
        refine SafeOps.quiet0 E_good rfl rfl rfl (v := V.ref [33] 0 (rws api_Timer.cells (v8_4542 ++ [(gt x_4504 v17_4543)])).length) (.fn rfl) ?_
        refine SafeOps.nil ?_
        repeat (first | refine Safe.seq ?_ | refine Safe.skip ?_ | with_reducible refine thenQ.n ?_ | with_reducible refine blockQ.n ?_)
        refine Safe.region ?_
        refine SafeOps.quiet0 E_good rfl rfl rfl (v := V.int .i64 (IntKind.i64.wrap (v17_4543 + 1))) (.fn rfl) ?_
        refine SafeOps.quiet0 E_good rfl rfl rfl (v := V.int .i64 (IntKind.i64.wrap (v17_4543 + 1))) (.fn rfl) ?_
        refine SafeOps.nil ?_
        repeat (first | refine Safe.seq ?_ | refine Safe.skip ?_ | with_reducible refine thenQ.n ?_ | with_reducible refine blockQ.n ?_)
        exact ⟨_, next_out h, (.ren [33] [7000, 118, 8] (.cov ⟨rfl, rfl, (upT_cons (.refl _) (upT_cons (.refl _) (upT_cons (.refl _) (upT_cons (.refl _) (upT_cons (.refl _) (upT_cons (.refl _) upT_nil)))))), (upOb_cons rfl (.refl _) (upOb_cons rfl (.refl _) (upOb_cons rfl (.refl _) upOb_nil))), upOut_nil, rfl⟩))⟩
    · skip
      refine Safe.condN rfl hc4545 ?_
      repeat (first | refine Safe.seq ?_ | refine Safe.skip ?_ | with_reducible refine thenQ.n ?_ | with_reducible refine blockQ.n ?_)
      refine Safe.exit ?_
      repeat (first | with_reducible refine thenQ.e ?_ | with_reducible refine blockQ.x rfl ?_ | with_reducible refine blockQ.y rfl ?_)
      replace h := inr_out h hr4544
      repeat (first | refine Safe.seq ?_ | refine Safe.skip ?_ | with_reducible refine thenQ.n ?_ | with_reducible refine blockQ.n ?_)
      refine Safe.region ?_
      refine SafeOps.quiet0 E_good rfl rfl rfl (v := V.ref [7000, 118, 7] 0 (rws (fun n => [V.int .i64 n]) v7_4541).length) (.fn rfl) ?_
      refine SafeOps.quiet0 E_good rfl rfl rfl (v := V.ref [7000, 118, 8] 0 (rws api_Timer.cells v8_4542).length) (.fn rfl) ?_
      refine SafeOps.quiet0 E_good rfl rfl rfl (v := V.ref [7000, 118, 7] 0 (rws (fun n => [V.int .i64 n]) v7_4541).length) (.fn rfl) ?_
      refine SafeOps.quiet0 E_good rfl rfl rfl (v := V.ref [7000, 118, 8] 0 (rws api_Timer.cells v8_4542).length) (.fn rfl) ?_
      refine SafeOps.quiet0 E_good rfl rfl rfl (v := V.int .i64 0) (.fn rfl) ?_
      refine SafeOps.nil ?_
      repeat (first | refine Safe.seq ?_ | refine Safe.skip ?_ | with_reducible refine thenQ.n ?_ | with_reducible refine blockQ.n ?_)
      refine Safe.ret ?_
      repeat (first | with_reducible refine thenQ.r ?_ | with_reducible refine blockQ.r ?_)
      obtain rfl := Option.some.inj h
      exact retQ.gen (vs := [V.ref [7000, 118, 7] 0 (rws (fun n => [V.int .i64 n]) v7_4541).length, V.ref [7000, 118, 8] 0 (rws api_Timer.cells v8_4542).length, V.int .i64 0]) rfl (.tmp (v := V.ref [7000, 118, 7] 0 (rws (fun n => [V.int .i64 n]) v7_4541).length) rfl (.tmp (v := V.ref [7000, 118, 8] 0 (rws api_Timer.cells v8_4542).length) rfl (.tmp (v := V.int .i64 0) rfl .nil))) (by exact (.tup (.cons (.own rfl rfl) (.cons (.own rfl rfl) (.cons (.free rfl) .nil))))) (by simp) (.inr rfl)

noncomputable def go_ravelref01_Same_s1 (a0_4563 : List Int) (a1_4564 : List Int) : (Int) → Option ((Int) ⊕ (Bool))
  | v13_4593 =>
    if (decide (v13_4593 < (a0_4563.length : Int))) = true then
      if 0 ≤ v13_4593 ∧ v13_4593 < (a0_4563.length : Int) then
        if 0 ≤ v13_4593 ∧ v13_4593 < (a1_4564.length : Int) then
          if ((gt a0_4563 v13_4593) != (gt a1_4564 v13_4593)) = true then
            inrO (
              some false)
          else
            nextO (IntKind.i64.wrap (v13_4593 + 1))
        else none
      else none
    else
      inrO (
        some true)

noncomputable def go_ravelref01_Same (a0_4563 : List Int) (a1_4564 : List Int) : Option Bool :=
  if ((a0_4563.length : Int) != (a1_4564.length : Int)) = true then
    some false
  else
    whileO (go_ravelref01_Same_s1 a0_4563 a1_4564) 0

theorem go_ravelref01_Same_sc (a0_4563 : List Int) (a1_4564 : List Int) (r : Bool) (h : go_ravelref01_Same a0_4563 a1_4564 = some r) : SC Try.prog gl 27 [V.sl 1 (rws (fun n => [V.int .i64 n]) a0_4563), V.sl 1 (rws (fun n => [V.int .i64 n]) a1_4564)] (V.bool r) := by
  rw [go_ravelref01_Same] at h
  refine SC.of E_good Try.func27 rfl (fun _ _ => Try.call27 _ _) rfl ?_
  repeat (first | refine Safe.seq ?_ | refine Safe.skip ?_ | with_reducible refine thenQ.n ?_ | with_reducible refine blockQ.n ?_)
  refine Safe.region ?_
  refine SafeOps.quiet0 E_good rfl rfl rfl (v := V.bool false) (.fn rfl) ?_
  refine SafeOps.nil ?_
  repeat (first | refine Safe.seq ?_ | refine Safe.skip ?_ | with_reducible refine thenQ.n ?_ | with_reducible refine blockQ.n ?_)
  refine Safe.region ?_
  refine SafeOps.quiet0 E_good rfl rfl rfl (v := V.sl 1 (rws (fun n => [V.int .i64 n]) a0_4563)) (.fn rfl) ?_
  refine SafeOps.quiet0 E_good rfl rfl rfl (v := V.int .i64 (a0_4563.length : Int)) (.fnE rfl lenE) ?_
  refine SafeOps.quiet0 E_good rfl rfl rfl (v := V.sl 1 (rws (fun n => [V.int .i64 n]) a1_4564)) (.fn rfl) ?_
  refine SafeOps.quiet0 E_good rfl rfl rfl (v := V.int .i64 (a1_4564.length : Int)) (.fnE rfl lenE) ?_
  refine SafeOps.quiet0 E_good rfl rfl rfl (v := V.bool ((a0_4563.length : Int) != (a1_4564.length : Int))) (.fn rfl) ?_
  refine SafeOps.nil ?_
  repeat (first | refine Safe.seq ?_ | refine Safe.skip ?_ | with_reducible refine thenQ.n ?_ | with_reducible refine blockQ.n ?_)
  refine ifG h (fun hc4583 h => ?_) (fun hc4583 h => ?_)
  · skip
    refine Safe.condK rfl hc4583 ?_
    repeat (first | refine Safe.seq ?_ | refine Safe.skip ?_ | with_reducible refine thenQ.n ?_ | with_reducible refine blockQ.n ?_)
    refine Safe.region ?_
    refine SafeOps.quiet0 E_good rfl rfl rfl (v := V.bool false) (.fn rfl) ?_
    refine SafeOps.nil ?_
    repeat (first | refine Safe.seq ?_ | refine Safe.skip ?_ | with_reducible refine thenQ.n ?_ | with_reducible refine blockQ.n ?_)
    refine Safe.ret ?_
    repeat (first | with_reducible refine thenQ.r ?_ | with_reducible refine blockQ.r ?_)
    obtain rfl := Option.some.inj h
    exact retQ.gen (vs := [V.bool false]) rfl (.tmp (v := V.bool false) rfl .nil) (.free rfl) (by simp) (.inr rfl)
  · skip
    refine Safe.condN rfl hc4583 ?_
    repeat (first | refine Safe.seq ?_ | refine Safe.skip ?_ | with_reducible refine thenQ.n ?_ | with_reducible refine blockQ.n ?_)
    refine Safe.region ?_
    refine SafeOps.quiet0 E_good rfl rfl rfl (v := V.sl 1 (rws (fun n => [V.int .i64 n]) a0_4563)) (.fn rfl) ?_
    refine SafeOps.quiet0 E_good rfl rfl rfl (v := V.int .i64 (a0_4563.length : Int)) (.fnE rfl lenE) ?_
    refine SafeOps.quiet0 E_good rfl rfl rfl (v := V.int .i64 0) (.fn rfl) ?_
    refine SafeOps.nil ?_
    repeat (first | refine Safe.seq ?_ | refine Safe.skip ?_ | with_reducible refine thenQ.n ?_ | with_reducible refine blockQ.n ?_)
    refine Safe.block ?_
    repeat (first | refine Safe.seq ?_ | refine Safe.skip ?_ | with_reducible refine thenQ.n ?_ | with_reducible refine blockQ.n ?_)
    refine Safe.loopW (fun (v13_4593 : Int) => ⟨Try.f27.ntmps, [(0, V.sl 1 (rws (fun n => [V.int .i64 n]) a0_4563)), (1, V.sl 1 (rws (fun n => [V.int .i64 n]) a1_4564)), (12, V.int .i64 (a0_4563.length : Int)), (13, V.int .i64 v13_4593)], [], [], []⟩) h (.cov ⟨rfl, rfl, (upT_cons (.refl _) (upT_cons (.refl _) (upT_cons (.refl _) (upT_cons (.refl _) upT_nil)))), upOb_nil, upOut_nil, rfl⟩) ?_
    intro v13_4593 ohr4594 h hr4594
    replace h : go_ravelref01_Same_s1 a0_4563 a1_4564 v13_4593 = some ohr4594 := h
    rw [go_ravelref01_Same_s1] at h
    repeat (first | refine Safe.seq ?_ | refine Safe.skip ?_ | with_reducible refine thenQ.n ?_ | with_reducible refine blockQ.n ?_)
    refine Safe.region ?_
    refine SafeOps.quiet0 E_good rfl rfl rfl (v := V.bool (decide (v13_4593 < (a0_4563.length : Int)))) (.fn rfl) ?_
    refine SafeOps.nil ?_
    repeat (first | refine Safe.seq ?_ | refine Safe.skip ?_ | with_reducible refine thenQ.n ?_ | with_reducible refine blockQ.n ?_)
    refine ifG h (fun hc4595 h => ?_) (fun hc4595 h => ?_)
    · skip
      refine Safe.condK rfl hc4595 ?_
      repeat (first | refine Safe.seq ?_ | refine Safe.skip ?_ | with_reducible refine thenQ.n ?_ | with_reducible refine blockQ.n ?_)
      refine Safe.block ?_
      repeat (first | refine Safe.seq ?_ | refine Safe.skip ?_ | with_reducible refine thenQ.n ?_ | with_reducible refine blockQ.n ?_)
      refine Safe.region ?_
      refine SafeOps.quiet0 E_good rfl rfl rfl (v := V.int .i64 v13_4593) (.fn rfl) ?_
      refine SafeOps.quiet0 E_good rfl rfl rfl (v := V.int .i64 v13_4593) (.fn rfl) ?_
      refine SafeOps.nil ?_
      repeat (first | refine Safe.seq ?_ | refine Safe.skip ?_ | with_reducible refine thenQ.n ?_ | with_reducible refine blockQ.n ?_)
      refine Safe.regionD (n := 9) [] [] E_good mixed rfl ?_
      refine DAny.take (i := 0) rfl (by kernel_rfl) [] (by kernel_rfl) (by kernel_rfl) (by kernel_rfl) rfl rfl rfl (v := V.sl 1 (rws (fun n => [V.int .i64 n]) a0_4563)) (fun _ hz => (.fn rfl)) ?_
      refine DAny.take (i := 1) rfl (by kernel_rfl) [] (by kernel_rfl) (by kernel_rfl) (by kernel_rfl) rfl rfl rfl (v := V.int .i64 v13_4593) (fun _ hz => (.fn rfl)) ?_
      refine okG h (fun hb4596 h => ?_)
      refine DAny.take (i := 2) rfl (by kernel_rfl) [] (by kernel_rfl) (by kernel_rfl) (by kernel_rfl) rfl rfl rfl (v := V.spt 1 (rws (fun n => [V.int .i64 n]) a0_4563) (Int.toNat v13_4593) 0) (fun _ hz => (.idxSlM (f := (fun n => [V.int .i64 n])) rfl rfl rfl rfl rfl hb4596)) ?_
      refine DAny.take (i := 3) rfl (by kernel_rfl) [] (by kernel_rfl) (by kernel_rfl) (by kernel_rfl) rfl rfl rfl (v := V.int .i64 (gt a0_4563 v13_4593)) (fun _ hz => (.load rfl rfl (.sptM (f := (fun n => [V.int .i64 n])) hb4596 rfl) rfl)) ?_
      refine DAny.take (i := 4) rfl (by kernel_rfl) [] (by kernel_rfl) (by kernel_rfl) (by kernel_rfl) rfl rfl rfl (v := V.sl 1 (rws (fun n => [V.int .i64 n]) a1_4564)) (fun _ hz => (.fn rfl)) ?_
      refine DAny.take (i := 5) rfl (by kernel_rfl) [] (by kernel_rfl) (by kernel_rfl) (by kernel_rfl) rfl rfl rfl (v := V.int .i64 v13_4593) (fun _ hz => (.fn rfl)) ?_
      refine okG h (fun hb4597 h => ?_)
      refine DAny.take (i := 6) rfl (by kernel_rfl) [] (by kernel_rfl) (by kernel_rfl) (by kernel_rfl) rfl rfl rfl (v := V.spt 1 (rws (fun n => [V.int .i64 n]) a1_4564) (Int.toNat v13_4593) 0) (fun _ hz => (.idxSlM (f := (fun n => [V.int .i64 n])) rfl rfl rfl rfl rfl hb4597)) ?_
      refine DAny.take (i := 7) rfl (by kernel_rfl) [] (by kernel_rfl) (by kernel_rfl) (by kernel_rfl) rfl rfl rfl (v := V.int .i64 (gt a1_4564 v13_4593)) (fun _ hz => (.load rfl rfl (.sptM (f := (fun n => [V.int .i64 n])) hb4597 rfl) rfl)) ?_
      refine DAny.take (i := 8) rfl (by kernel_rfl) [] (by kernel_rfl) (by kernel_rfl) (by kernel_rfl) rfl rfl rfl (v := V.bool ((gt a0_4563 v13_4593) != (gt a1_4564 v13_4593))) (fun _ hz => (.fn rfl)) ?_
      refine DAny.nil (by kernel_rfl) ?_
      repeat (first | refine Safe.seq ?_ | refine Safe.skip ?_ | with_reducible refine thenQ.n ?_ | with_reducible refine blockQ.n ?_)
      refine ifG h (fun hc4598 h => ?_) (fun hc4598 h => ?_)
      · skip
        refine Safe.condK rfl hc4598 ?_
        repeat (first | refine Safe.seq ?_ | refine Safe.skip ?_ | with_reducible refine thenQ.n ?_ | with_reducible refine blockQ.n ?_)
        refine Safe.region ?_
        refine SafeOps.quiet0 E_good rfl rfl rfl (v := V.bool false) (.fn rfl) ?_
        refine SafeOps.nil ?_
        repeat (first | refine Safe.seq ?_ | refine Safe.skip ?_ | with_reducible refine thenQ.n ?_ | with_reducible refine blockQ.n ?_)
        refine Safe.ret ?_
        repeat (first | with_reducible refine thenQ.r ?_ | with_reducible refine blockQ.r ?_)
        replace h := inr_out h hr4594
        obtain rfl := Option.some.inj h
        exact retQ.gen (vs := [V.bool false]) rfl (.tmp (v := V.bool false) rfl .nil) (.free rfl) (by simp) (.inr rfl)
      · skip
        refine Safe.condN rfl hc4598 ?_
        repeat (first | refine Safe.seq ?_ | refine Safe.skip ?_ | with_reducible refine thenQ.n ?_ | with_reducible refine blockQ.n ?_)
        refine Safe.region ?_
        refine SafeOps.quiet0 E_good rfl rfl rfl (v := V.int .i64 (IntKind.i64.wrap (v13_4593 + 1))) (.fn rfl) ?_
        refine SafeOps.quiet0 E_good rfl rfl rfl (v := V.int .i64 (IntKind.i64.wrap (v13_4593 + 1))) (.fn rfl) ?_
        refine SafeOps.nil ?_
        repeat (first | refine Safe.seq ?_ | refine Safe.skip ?_ | with_reducible refine thenQ.n ?_ | with_reducible refine blockQ.n ?_)
        exact ⟨_, next_out h, (.cov ⟨rfl, rfl, (upT_cons (.refl _) (upT_cons (.refl _) (upT_cons (.refl _) (upT_cons (.refl _) upT_nil)))), upOb_nil, upOut_nil, rfl⟩)⟩
    · skip
      refine Safe.condN rfl hc4595 ?_
      repeat (first | refine Safe.seq ?_ | refine Safe.skip ?_ | with_reducible refine thenQ.n ?_ | with_reducible refine blockQ.n ?_)
      refine Safe.exit ?_
      repeat (first | with_reducible refine thenQ.e ?_ | with_reducible refine blockQ.x rfl ?_ | with_reducible refine blockQ.y rfl ?_)
      replace h := inr_out h hr4594
      repeat (first | refine Safe.seq ?_ | refine Safe.skip ?_ | with_reducible refine thenQ.n ?_ | with_reducible refine blockQ.n ?_)
      refine Safe.region ?_
      refine SafeOps.quiet0 E_good rfl rfl rfl (v := V.bool true) (.fn rfl) ?_
      refine SafeOps.nil ?_
      repeat (first | refine Safe.seq ?_ | refine Safe.skip ?_ | with_reducible refine thenQ.n ?_ | with_reducible refine blockQ.n ?_)
      refine Safe.ret ?_
      repeat (first | with_reducible refine thenQ.r ?_ | with_reducible refine blockQ.r ?_)
      obtain rfl := Option.some.inj h
      exact retQ.gen (vs := [V.bool true]) rfl (.tmp (v := V.bool true) rfl .nil) (.free rfl) (by simp) (.inr rfl)

noncomputable def go_slices_Equal_api_Timer_api_Timer_s1 (a0_4651 : List api_Timer) (a1_4652 : List api_Timer) : (Int) → Option ((Int) ⊕ (Bool))
  | v13_4681 =>
    if (decide (v13_4681 < (a0_4651.length : Int))) = true then
      if 0 ≤ v13_4681 ∧ v13_4681 < (a0_4651.length : Int) then
        if 0 ≤ v13_4681 ∧ v13_4681 < (a1_4652.length : Int) then
          if (!(api_Timer.beq (gt a0_4651 v13_4681) (gt a1_4652 v13_4681))) = true then
            inrO (
              some false)
          else
            nextO (IntKind.i64.wrap (v13_4681 + 1))
        else none
      else none
    else
      inrO (
        some true)

noncomputable def go_slices_Equal_api_Timer_api_Timer (a0_4651 : List api_Timer) (a1_4652 : List api_Timer) : Option Bool :=
  if ((a0_4651.length : Int) != (a1_4652.length : Int)) = true then
    some false
  else
    whileO (go_slices_Equal_api_Timer_api_Timer_s1 a0_4651 a1_4652) 0

theorem go_slices_Equal_api_Timer_api_Timer_sc (a0_4651 : List api_Timer) (a1_4652 : List api_Timer) (r : Bool) (h : go_slices_Equal_api_Timer_api_Timer a0_4651 a1_4652 = some r) : SC Try.prog gl 44 [V.sl 2 (rws api_Timer.cells a0_4651), V.sl 2 (rws api_Timer.cells a1_4652)] (V.bool r) := by
  rw [go_slices_Equal_api_Timer_api_Timer] at h
  refine SC.of E_good Try.func44 rfl (fun _ _ => Try.call44 _ _) rfl ?_
  repeat (first | refine Safe.seq ?_ | refine Safe.skip ?_ | with_reducible refine thenQ.n ?_ | with_reducible refine blockQ.n ?_)
  refine Safe.region ?_
  refine SafeOps.quiet0 E_good rfl rfl rfl (v := V.bool false) (.fn rfl) ?_
  refine SafeOps.nil ?_
  repeat (first | refine Safe.seq ?_ | refine Safe.skip ?_ | with_reducible refine thenQ.n ?_ | with_reducible refine blockQ.n ?_)
  refine Safe.region ?_
  refine SafeOps.quiet0 E_good rfl rfl rfl (v := V.sl 2 (rws api_Timer.cells a0_4651)) (.fn rfl) ?_
  refine SafeOps.quiet0 E_good rfl rfl rfl (v := V.int .i64 (a0_4651.length : Int)) (.fnE rfl lenE) ?_
  refine SafeOps.quiet0 E_good rfl rfl rfl (v := V.sl 2 (rws api_Timer.cells a1_4652)) (.fn rfl) ?_
  refine SafeOps.quiet0 E_good rfl rfl rfl (v := V.int .i64 (a1_4652.length : Int)) (.fnE rfl lenE) ?_
  refine SafeOps.quiet0 E_good rfl rfl rfl (v := V.bool ((a0_4651.length : Int) != (a1_4652.length : Int))) (.fn rfl) ?_
  refine SafeOps.nil ?_
  repeat (first | refine Safe.seq ?_ | refine Safe.skip ?_ | with_reducible refine thenQ.n ?_ | with_reducible refine blockQ.n ?_)
  refine ifG h (fun hc4671 h => ?_) (fun hc4671 h => ?_)
  · skip
    refine Safe.condK rfl hc4671 ?_
    repeat (first | refine Safe.seq ?_ | refine Safe.skip ?_ | with_reducible refine thenQ.n ?_ | with_reducible refine blockQ.n ?_)
    refine Safe.region ?_
    refine SafeOps.quiet0 E_good rfl rfl rfl (v := V.bool false) (.fn rfl) ?_
    refine SafeOps.nil ?_
    repeat (first | refine Safe.seq ?_ | refine Safe.skip ?_ | with_reducible refine thenQ.n ?_ | with_reducible refine blockQ.n ?_)
    refine Safe.ret ?_
    repeat (first | with_reducible refine thenQ.r ?_ | with_reducible refine blockQ.r ?_)
    obtain rfl := Option.some.inj h
    exact retQ.gen (vs := [V.bool false]) rfl (.tmp (v := V.bool false) rfl .nil) (.free rfl) (by simp) (.inr rfl)
  · skip
    refine Safe.condN rfl hc4671 ?_
    repeat (first | refine Safe.seq ?_ | refine Safe.skip ?_ | with_reducible refine thenQ.n ?_ | with_reducible refine blockQ.n ?_)
    refine Safe.region ?_
    refine SafeOps.quiet0 E_good rfl rfl rfl (v := V.sl 2 (rws api_Timer.cells a0_4651)) (.fn rfl) ?_
    refine SafeOps.quiet0 E_good rfl rfl rfl (v := V.int .i64 (a0_4651.length : Int)) (.fnE rfl lenE) ?_
    refine SafeOps.quiet0 E_good rfl rfl rfl (v := V.int .i64 0) (.fn rfl) ?_
    refine SafeOps.nil ?_
    repeat (first | refine Safe.seq ?_ | refine Safe.skip ?_ | with_reducible refine thenQ.n ?_ | with_reducible refine blockQ.n ?_)
    refine Safe.block ?_
    repeat (first | refine Safe.seq ?_ | refine Safe.skip ?_ | with_reducible refine thenQ.n ?_ | with_reducible refine blockQ.n ?_)
    refine Safe.loopW (fun (v13_4681 : Int) => ⟨Try.f44.ntmps, [(0, V.sl 2 (rws api_Timer.cells a0_4651)), (1, V.sl 2 (rws api_Timer.cells a1_4652)), (12, V.int .i64 (a0_4651.length : Int)), (13, V.int .i64 v13_4681)], [], [], []⟩) h (.cov ⟨rfl, rfl, (upT_cons (.refl _) (upT_cons (.refl _) (upT_cons (.refl _) (upT_cons (.refl _) upT_nil)))), upOb_nil, upOut_nil, rfl⟩) ?_
    intro v13_4681 ohr4682 h hr4682
    replace h : go_slices_Equal_api_Timer_api_Timer_s1 a0_4651 a1_4652 v13_4681 = some ohr4682 := h
    rw [go_slices_Equal_api_Timer_api_Timer_s1] at h
    repeat (first | refine Safe.seq ?_ | refine Safe.skip ?_ | with_reducible refine thenQ.n ?_ | with_reducible refine blockQ.n ?_)
    refine Safe.region ?_
    refine SafeOps.quiet0 E_good rfl rfl rfl (v := V.bool (decide (v13_4681 < (a0_4651.length : Int)))) (.fn rfl) ?_
    refine SafeOps.nil ?_
    repeat (first | refine Safe.seq ?_ | refine Safe.skip ?_ | with_reducible refine thenQ.n ?_ | with_reducible refine blockQ.n ?_)
    refine ifG h (fun hc4683 h => ?_) (fun hc4683 h => ?_)
    · skip
      refine Safe.condK rfl hc4683 ?_
      repeat (first | refine Safe.seq ?_ | refine Safe.skip ?_ | with_reducible refine thenQ.n ?_ | with_reducible refine blockQ.n ?_)
      refine Safe.block ?_
      repeat (first | refine Safe.seq ?_ | refine Safe.skip ?_ | with_reducible refine thenQ.n ?_ | with_reducible refine blockQ.n ?_)
      refine Safe.region ?_
      refine SafeOps.quiet0 E_good rfl rfl rfl (v := V.int .i64 v13_4681) (.fn rfl) ?_
      refine SafeOps.quiet0 E_good rfl rfl rfl (v := V.int .i64 v13_4681) (.fn rfl) ?_
      refine SafeOps.nil ?_
      repeat (first | refine Safe.seq ?_ | refine Safe.skip ?_ | with_reducible refine thenQ.n ?_ | with_reducible refine blockQ.n ?_)
      refine Safe.regionD (n := 9) [] [] E_good mixed rfl ?_
      refine DAny.take (i := 0) rfl (by kernel_rfl) [] (by kernel_rfl) (by kernel_rfl) (by kernel_rfl) rfl rfl rfl (v := V.sl 2 (rws api_Timer.cells a0_4651)) (fun _ hz => (.fn rfl)) ?_
      refine DAny.take (i := 1) rfl (by kernel_rfl) [] (by kernel_rfl) (by kernel_rfl) (by kernel_rfl) rfl rfl rfl (v := V.int .i64 v13_4681) (fun _ hz => (.fn rfl)) ?_
      refine okG h (fun hb4684 h => ?_)
      refine DAny.take (i := 2) rfl (by kernel_rfl) [] (by kernel_rfl) (by kernel_rfl) (by kernel_rfl) rfl rfl rfl (v := V.spt 2 (rws api_Timer.cells a0_4651) (Int.toNat v13_4681) 0) (fun _ hz => (.idxSlM (f := api_Timer.cells) rfl rfl rfl rfl rfl hb4684)) ?_
      refine DAny.take (i := 3) rfl (by kernel_rfl) [] (by kernel_rfl) (by kernel_rfl) (by kernel_rfl) rfl rfl rfl (v := V.agg [V.int .i64 ((gt a0_4651 v13_4681).At), V.int .i64 ((gt a0_4651 v13_4681).Id)]) (fun _ hz => (.load rfl rfl (.sptM (f := api_Timer.cells) hb4684 rfl) rfl)) ?_
      refine DAny.take (i := 4) rfl (by kernel_rfl) [] (by kernel_rfl) (by kernel_rfl) (by kernel_rfl) rfl rfl rfl (v := V.sl 2 (rws api_Timer.cells a1_4652)) (fun _ hz => (.fn rfl)) ?_
      refine DAny.take (i := 5) rfl (by kernel_rfl) [] (by kernel_rfl) (by kernel_rfl) (by kernel_rfl) rfl rfl rfl (v := V.int .i64 v13_4681) (fun _ hz => (.fn rfl)) ?_
      refine okG h (fun hb4685 h => ?_)
      refine DAny.take (i := 6) rfl (by kernel_rfl) [] (by kernel_rfl) (by kernel_rfl) (by kernel_rfl) rfl rfl rfl (v := V.spt 2 (rws api_Timer.cells a1_4652) (Int.toNat v13_4681) 0) (fun _ hz => (.idxSlM (f := api_Timer.cells) rfl rfl rfl rfl rfl hb4685)) ?_
      refine DAny.take (i := 7) rfl (by kernel_rfl) [] (by kernel_rfl) (by kernel_rfl) (by kernel_rfl) rfl rfl rfl (v := V.agg [V.int .i64 ((gt a1_4652 v13_4681).At), V.int .i64 ((gt a1_4652 v13_4681).Id)]) (fun _ hz => (.load rfl rfl (.sptM (f := api_Timer.cells) hb4685 rfl) rfl)) ?_
      refine DAny.take (i := 8) rfl (by kernel_rfl) [] (by kernel_rfl) (by kernel_rfl) (by kernel_rfl) rfl rfl rfl (v := V.bool (!(api_Timer.beq (gt a0_4651 v13_4681) (gt a1_4652 v13_4681)))) (fun _ hz => (.neA rfl rfl rfl rfl okT24 rfl)) ?_
      refine DAny.nil (by kernel_rfl) ?_
      repeat (first | refine Safe.seq ?_ | refine Safe.skip ?_ | with_reducible refine thenQ.n ?_ | with_reducible refine blockQ.n ?_)
      refine ifG h (fun hc4686 h => ?_) (fun hc4686 h => ?_)
      · skip
        refine Safe.condK rfl hc4686 ?_
        repeat (first | refine Safe.seq ?_ | refine Safe.skip ?_ | with_reducible refine thenQ.n ?_ | with_reducible refine blockQ.n ?_)
        refine Safe.region ?_
        refine SafeOps.quiet0 E_good rfl rfl rfl (v := V.bool false) (.fn rfl) ?_
        refine SafeOps.nil ?_
        repeat (first | refine Safe.seq ?_ | refine Safe.skip ?_ | with_reducible refine thenQ.n ?_ | with_reducible refine blockQ.n ?_)
        refine Safe.ret ?_
        repeat (first | with_reducible refine thenQ.r ?_ | with_reducible refine blockQ.r ?_)
        replace h := inr_out h hr4682
        obtain rfl := Option.some.inj h
        exact retQ.gen (vs := [V.bool false]) rfl (.tmp (v := V.bool false) rfl .nil) (.free rfl) (by simp) (.inr rfl)
      · skip
        refine Safe.condN rfl hc4686 ?_
        repeat (first | refine Safe.seq ?_ | refine Safe.skip ?_ | with_reducible refine thenQ.n ?_ | with_reducible refine blockQ.n ?_)
        refine Safe.region ?_
        refine SafeOps.quiet0 E_good rfl rfl rfl (v := V.int .i64 (IntKind.i64.wrap (v13_4681 + 1))) (.fn rfl) ?_
        refine SafeOps.quiet0 E_good rfl rfl rfl (v := V.int .i64 (IntKind.i64.wrap (v13_4681 + 1))) (.fn rfl) ?_
        refine SafeOps.nil ?_
        repeat (first | refine Safe.seq ?_ | refine Safe.skip ?_ | with_reducible refine thenQ.n ?_ | with_reducible refine blockQ.n ?_)
        exact ⟨_, next_out h, (.cov ⟨rfl, rfl, (upT_cons (.refl _) (upT_cons (.refl _) (upT_cons (.refl _) (upT_cons (.refl _) upT_nil)))), upOb_nil, upOut_nil, rfl⟩)⟩
    · skip
      refine Safe.condN rfl hc4683 ?_
      repeat (first | refine Safe.seq ?_ | refine Safe.skip ?_ | with_reducible refine thenQ.n ?_ | with_reducible refine blockQ.n ?_)
      refine Safe.exit ?_
      repeat (first | with_reducible refine thenQ.e ?_ | with_reducible refine blockQ.x rfl ?_ | with_reducible refine blockQ.y rfl ?_)
      replace h := inr_out h hr4682
      repeat (first | refine Safe.seq ?_ | refine Safe.skip ?_ | with_reducible refine thenQ.n ?_ | with_reducible refine blockQ.n ?_)
      refine Safe.region ?_
      refine SafeOps.quiet0 E_good rfl rfl rfl (v := V.bool true) (.fn rfl) ?_
      refine SafeOps.nil ?_
      repeat (first | refine Safe.seq ?_ | refine Safe.skip ?_ | with_reducible refine thenQ.n ?_ | with_reducible refine blockQ.n ?_)
      refine Safe.ret ?_
      repeat (first | with_reducible refine thenQ.r ?_ | with_reducible refine blockQ.r ?_)
      obtain rfl := Option.some.inj h
      exact retQ.gen (vs := [V.bool true]) rfl (.tmp (v := V.bool true) rfl .nil) (.free rfl) (by simp) (.inr rfl)

noncomputable def go_heap_Same_s2 (a1_4617 : List api_Timer) (s_4703 : List api_Timer) : (Int × (List api_Timer)) → Option ((Int × (List api_Timer)) ⊕ (Bool))
  | (v7_4713, v10_7_4_20_4714) =>
    if (decide (v7_4713 < (a1_4617.length : Int))) = true then
      if 0 ≤ v7_4713 ∧ v7_4713 < (a1_4617.length : Int) then
        if few (v10_7_4_20_4714 ++ [(gt a1_4617 v7_4713)]).length then
          nextO (IntKind.i64.wrap (v7_4713 + 1), v10_7_4_20_4714 ++ [(gt a1_4617 v7_4713)])
        else none
      else none
    else
      inrO (
        (sortO go_heap_order v10_7_4_20_4714).bind fun s_4719 =>
        (go_slices_Equal_api_Timer_api_Timer s_4703 s_4719).bind fun x_4721 =>
        some x_4721)

noncomputable def go_heap_Same_s1 (a0_4616 : List api_Timer) (a1_4617 : List api_Timer) : (Int × (List api_Timer)) → Option ((Int × (List api_Timer)) ⊕ (Bool))
  | (v7_4697, v7_7_4_20_4698) =>
    if (decide (v7_4697 < (a0_4616.length : Int))) = true then
      if 0 ≤ v7_4697 ∧ v7_4697 < (a0_4616.length : Int) then
        if few (v7_7_4_20_4698 ++ [(gt a0_4616 v7_4697)]).length then
          nextO (IntKind.i64.wrap (v7_4697 + 1), v7_7_4_20_4698 ++ [(gt a0_4616 v7_4697)])
        else none
      else none
    else
      inrO (
        (sortO go_heap_order v7_7_4_20_4698).bind fun s_4703 =>
        whileO (go_heap_Same_s2 a1_4617 s_4703) (0, []))

noncomputable def go_heap_Same (a0_4616 : List api_Timer) (a1_4617 : List api_Timer) : Option Bool :=
  whileO (go_heap_Same_s1 a0_4616 a1_4617) (0, [])

theorem go_heap_Same_sc (a0_4616 : List api_Timer) (a1_4617 : List api_Timer) (r : Bool) (h : go_heap_Same a0_4616 a1_4617 = some r) : SC Try.prog gl 29 [V.sl 2 (rws api_Timer.cells a0_4616), V.sl 2 (rws api_Timer.cells a1_4617)] (V.bool r) := by
  rw [go_heap_Same] at h
  refine SC.of E_good Try.func29 rfl (fun _ _ => Try.call29 _ _) rfl ?_
  repeat (first | refine Safe.seq ?_ | refine Safe.skip ?_ | with_reducible refine thenQ.n ?_ | with_reducible refine blockQ.n ?_)
  refine Safe.region ?_
  refine SafeOps.quiet0 E_good rfl rfl rfl (v := V.bool false) (.fn rfl) ?_
  refine SafeOps.nil ?_
  repeat (first | refine Safe.seq ?_ | refine Safe.skip ?_ | with_reducible refine thenQ.n ?_ | with_reducible refine blockQ.n ?_)
  refine Safe.region ?_
  refine SafeOps.quiet0 E_good rfl rfl rfl (v := V.sl 2 (rws api_Timer.cells a0_4616)) (.fn rfl) ?_
  refine SafeOps.inline E_good rfl rfl rfl rfl rfl Try.func43 rfl (fun _ _ => Try.call43 _ _) rfl ?_
  repeat (first | refine Safe.seq ?_ | refine Safe.skip ?_ | with_reducible refine thenQ.n ?_ | with_reducible refine blockQ.n ?_)
  refine Safe.region ?_
  refine SafeOps.quiet1 E_good rfl rfl rfl (.box rfl rfl) rfl ?_
  refine SafeOps.quiet0 E_good rfl rfl rfl (v := V.nilf) (.fn rfl) ?_
  refine SafeOps.nil ?_
  repeat (first | refine Safe.seq ?_ | refine Safe.skip ?_ | with_reducible refine thenQ.n ?_ | with_reducible refine blockQ.n ?_)
  refine Safe.region ?_
  refine SafeOps.quiet0 E_good rfl rfl rfl (v := V.fn 51 [V.ptr [6, 1] 0 0]) (.fn rfl) ?_
  refine SafeOps.quiet0 E_good rfl rfl rfl (v := V.fn 51 [V.ptr [6, 1] 0 0]) (.fn rfl) ?_
  refine SafeOps.nil ?_
  repeat (first | refine Safe.seq ?_ | refine Safe.skip ?_ | with_reducible refine thenQ.n ?_ | with_reducible refine blockQ.n ?_)
  refine Safe.ret ?_
  repeat (first | with_reducible refine thenQ.r ?_ | with_reducible refine blockQ.r ?_)
  refine inQ.gen (vs := [V.fn 51 [V.ptr [6, 1] 0 0]]) (v := V.fn 51 [V.ptr [6, 1] 0 0]) (.inr rfl) rfl (.tmp (v := V.fn 51 [V.ptr [6, 1] 0 0]) rfl .nil) rfl ?_
  refine SafeOps.inline E_good rfl rfl rfl rfl rfl Try.func42 rfl (fun _ _ => Try.call42 _ _) rfl ?_
  repeat (first | refine Safe.seq ?_ | refine Safe.skip ?_ | with_reducible refine thenQ.n ?_ | with_reducible refine blockQ.n ?_)
  refine Safe.region ?_
  refine SafeOps.quiet0 E_good rfl rfl rfl (v := V.nils) (.fn rfl) ?_
  refine SafeOps.nil ?_
  repeat (first | refine Safe.seq ?_ | refine Safe.skip ?_ | with_reducible refine thenQ.n ?_ | with_reducible refine blockQ.n ?_)
  refine Safe.region ?_
  refine SafeOps.quiet0 E_good rfl rfl rfl (v := V.fn 51 [V.ptr [6, 1] 0 0]) (.fn rfl) ?_
  refine SafeOps.inline E_good rfl rfl rfl rfl rfl Try.func49 rfl (fun _ _ => Try.call49 _ _) rfl ?_
  repeat (first | refine Safe.seq ?_ | refine Safe.skip ?_ | with_reducible refine thenQ.n ?_ | with_reducible refine blockQ.n ?_)
  refine Safe.region ?_
  refine SafeOps.quiet0 E_good rfl rfl rfl (v := V.nils) (.fn rfl) ?_
  refine SafeOps.nil ?_
  repeat (first | refine Safe.seq ?_ | refine Safe.skip ?_ | with_reducible refine thenQ.n ?_ | with_reducible refine blockQ.n ?_)
  refine Safe.region ?_
  refine SafeOps.quiet0 E_good rfl rfl rfl (v := V.fn 51 [V.ptr [6, 1] 0 0]) (.fn rfl) ?_
  refine SafeOps.inline E_good rfl rfl rfl rfl rfl Try.func53 rfl (fun _ _ => Try.call53 _ _) rfl ?_
  repeat (first | refine Safe.seq ?_ | refine Safe.skip ?_ | with_reducible refine thenQ.n ?_ | with_reducible refine blockQ.n ?_)
  refine Safe.region ?_
  refine SafeOps.quiet1 E_good rfl rfl rfl (.box rfl rfl) rfl ?_
  refine SafeOps.quiet0 E_good rfl rfl rfl (v := V.nils) (.fn rfl) ?_
  refine SafeOps.nil ?_
  repeat (first | refine Safe.seq ?_ | refine Safe.skip ?_ | with_reducible refine thenQ.n ?_ | with_reducible refine blockQ.n ?_)
  refine Safe.region ?_
  refine SafeOps.quiet0 E_good rfl rfl rfl (v := V.fn 51 [V.ptr [6, 1] 0 0]) (.fn rfl) ?_
  refine SafeOps.nil ?_
  repeat (first | refine Safe.seq ?_ | refine Safe.skip ?_ | with_reducible refine thenQ.n ?_ | with_reducible refine blockQ.n ?_)
  refine Safe.block ?_
  repeat (first | refine Safe.seq ?_ | refine Safe.skip ?_ | with_reducible refine thenQ.n ?_ | with_reducible refine blockQ.n ?_)
  refine Safe.rangeFunc (k := 9007) rfl rfl Try.func51 rfl (fun _ _ => Try.call51 _ _) rfl rfl rfl ?_
  repeat (first | refine Safe.seq ?_ | refine Safe.skip ?_ | with_reducible refine thenQ.n ?_ | with_reducible refine blockQ.n ?_)
  refine Safe.region ?_
  refine SafeOps.quiet0 E_good rfl rfl rfl (v := V.sl 2 (rws api_Timer.cells a0_4616)) (.load rfl rfl (.box rfl rfl) rfl) ?_
  refine SafeOps.quiet0 E_good rfl rfl rfl (v := V.int .i64 (a0_4616.length : Int)) (.fnE rfl lenE) ?_
  refine SafeOps.quiet0 E_good rfl rfl rfl (v := V.int .i64 0) (.fn rfl) ?_
  refine SafeOps.nil ?_
  repeat (first | refine Safe.seq ?_ | refine Safe.skip ?_ | with_reducible refine thenQ.n ?_ | with_reducible refine blockQ.n ?_)
  refine Safe.block ?_
  repeat (first | refine Safe.seq ?_ | refine Safe.skip ?_ | with_reducible refine thenQ.n ?_ | with_reducible refine blockQ.n ?_)
  refine Safe.loopW (fun ((v7_4697, v7_7_4_20_4698) : Int × (List api_Timer)) => ⟨Try.f51.ntmps, [(0, V.yld [7, 7, 4, 9007]), (5, V.sl 2 (rws api_Timer.cells a0_4616)), (6, V.int .i64 (a0_4616.length : Int)), (7, V.int .i64 v7_4697)], [([7, 7, 4, 2], Obj.box [V.ref [7000, 114, 7, 7, 4, 2, 0] 0 (rws api_Timer.cells v7_7_4_20_4698).length]), ([7, 7, 4, 9007], Go.AM.Obj.loop Try.f53.ntmps [(2, V.ptr [7, 7, 4, 2] 0 0)] [7] (rfA Try.f53 0) (rfB Try.f53 0) .ready none), ([7000, 114, 7, 7, 4, 2, 0], Obj.rows 2 (rws api_Timer.cells v7_7_4_20_4698) false)], [(1, [(0, V.yld [7, 7, 4, 9007])]), (Try.f53.ntmps, [(2, V.ptr [7, 7, 4, 2] 0 0)]), (Try.f49.ntmps, []), (Try.f42.ntmps, [(1, V.fn 41 [])]), (Try.f29.ntmps, [(1, V.sl 2 (rws api_Timer.cells a1_4617))])], [7, 7, 4, 9007, 0]⟩) h (.empty [7000, 114, 7, 7, 4, 2, 0] 2 rfl (.cov ⟨rfl, rfl, (upT_cons (.refl _) (upT_cons (.refl _) (upT_cons (.refl _) (upT_cons (.refl _) upT_nil)))), (upOb_cons rfl (.box (.cons (.nilref _) .nil)) (upOb_cons rfl (by exact .loop (upT_cons (.refl _) upT_nil)) (upOb_cons rfl (.refl _) upOb_nil))), (upOut_cons rfl (upT_cons (.refl _) upT_nil) (upOut_cons rfl (upT_cons (.refl _) upT_nil) (upOut_cons rfl upT_nil (upOut_cons rfl (upT_cons (.refl _) upT_nil) (upOut_cons rfl (upT_cons (.refl _) upT_nil) upOut_nil))))), rfl⟩)) ?_
  rintro ⟨v7_4697, v7_7_4_20_4698⟩ ohr4699 h hr4699
  replace h : go_heap_Same_s1 a0_4616 a1_4617 (v7_4697, v7_7_4_20_4698) = some ohr4699 := h
  rw [go_heap_Same_s1] at h
  repeat (first | refine Safe.seq ?_ | refine Safe.skip ?_ | with_reducible refine thenQ.n ?_ | with_reducible refine blockQ.n ?_)
  refine Safe.region ?_
  refine SafeOps.quiet0 E_good rfl rfl rfl (v := V.bool (decide (v7_4697 < (a0_4616.length : Int)))) (.fn rfl) ?_
  refine SafeOps.nil ?_
  repeat (first | refine Safe.seq ?_ | refine Safe.skip ?_ | with_reducible refine thenQ.n ?_ | with_reducible refine blockQ.n ?_)
  refine ifG h (fun hc4700 h => ?_) (fun hc4700 h => ?_)
  · skip
    refine Safe.condK rfl hc4700 ?_
    repeat (first | refine Safe.seq ?_ | refine Safe.skip ?_ | with_reducible refine thenQ.n ?_ | with_reducible refine blockQ.n ?_)
    refine Safe.block ?_
    repeat (first | refine Safe.seq ?_ | refine Safe.skip ?_ | with_reducible refine thenQ.n ?_ | with_reducible refine blockQ.n ?_)
    refine Safe.region ?_
    refine okG h (fun hb4701 h => ?_)
    refine SafeOps.quiet0 E_good rfl rfl rfl (v := V.spt 2 (rws api_Timer.cells a0_4616) (Int.toNat v7_4697) 0) (.idxSlM (f := api_Timer.cells) rfl rfl rfl rfl rfl hb4701) ?_
    refine SafeOps.quiet0 E_good rfl rfl rfl (v := V.agg [V.int .i64 ((gt a0_4616 v7_4697).At), V.int .i64 ((gt a0_4616 v7_4697).Id)]) (.load rfl rfl (.sptM (f := api_Timer.cells) hb4701 rfl) rfl) ?_
    refine SafeOps.quiet1 E_good rfl rfl rfl (.alloc rfl rfl) rfl ?_
    refine SafeOps.store (z := Obj.box [V.int .i64 ((gt a0_4616 v7_4697).At), V.int .i64 ((gt a0_4616 v7_4697).Id)]) E_good rfl rfl rfl rfl rfl rfl rfl (.boxM (c := 2) rfl rfl (Nat.le_of_ble_eq_true rfl) rfl) ?_
    refine SafeOps.nil ?_
    repeat (first | refine Safe.seq ?_ | refine Safe.skip ?_ | with_reducible refine thenQ.n ?_ | with_reducible refine blockQ.n ?_)
    refine Safe.region ?_
    refine SafeOps.quiet0 E_good rfl rfl rfl (v := V.yld [7, 7, 4, 9007]) (.fn rfl) ?_
    refine SafeOps.quiet0 E_good rfl rfl rfl (v := V.agg [V.int .i64 ((gt a0_4616 v7_4697).At), V.int .i64 ((gt a0_4616 v7_4697).Id)]) (.load rfl rfl (.box rfl rfl) rfl) ?_
    refine SafeOps.yield rfl rfl rfl rfl rfl rfl rfl rfl ?_
    repeat (first | refine Safe.seq ?_ | refine Safe.skip ?_ | with_reducible refine thenQ.n ?_ | with_reducible refine blockQ.n ?_)
    refine Safe.region ?_
    refine SafeOps.quiet1 E_good rfl rfl rfl (.alloc rfl rfl) rfl ?_
    refine SafeOps.store (z := Obj.box [V.int .i64 ((gt a0_4616 v7_4697).At), V.int .i64 ((gt a0_4616 v7_4697).Id)]) E_good rfl rfl rfl rfl rfl rfl rfl (.boxM (c := 2) rfl rfl (Nat.le_of_ble_eq_true rfl) rfl) ?_
    refine SafeOps.nil ?_
    repeat (first | refine Safe.seq ?_ | refine Safe.skip ?_ | with_reducible refine thenQ.n ?_ | with_reducible refine blockQ.n ?_)
    refine asgQ.go rfl rfl ?_
    repeat (first | refine Safe.seq ?_ | refine Safe.skip ?_ | with_reducible refine thenQ.n ?_ | with_reducible refine blockQ.n ?_)
    refine Safe.block ?_
    repeat (first | refine Safe.seq ?_ | refine Safe.skip ?_ | with_reducible refine thenQ.n ?_ | with_reducible refine blockQ.n ?_)
    refine Safe.region ?_
    refine SafeOps.quiet0 E_good rfl rfl rfl (v := V.ref [7000, 114, 7, 7, 4, 2, 0] 0 (rws api_Timer.cells v7_7_4_20_4698).length) (.load rfl rfl (.box rfl rfl) rfl) ?_
    refine SafeOps.quiet0 E_good rfl rfl rfl (v := V.agg [V.int .i64 ((gt a0_4616 v7_4697).At), V.int .i64 ((gt a0_4616 v7_4697).Id)]) (.load rfl rfl (.box rfl rfl) rfl) ?_
    refine SafeOps.quiet1 E_good rfl rfl rfl (.litM (f := api_Timer.cells) (xs := [(gt a0_4616 v7_4697)]) rfl rfl (by decide) rfl rfl rfl rfl rfl) rfl ?_
    refine okG h (fun hb4702 h => ?_)
    refine SafeOps.appendM api_Timer.cells (xs := v7_7_4_20_4698) (ys := [(gt a0_4616 v7_4697)]) E_good rfl rfl rfl rfl rfl rfl rfl rfl rfl (.own rfl) (.own rfl) (fun _ => rfl) hb4702 ?_
    refine SafeOps.store (z := Obj.box [V.ref [7, 7, 4, 9007, 0, 13, 11] 0 (rws api_Timer.cells (v7_7_4_20_4698 ++ [(gt a0_4616 v7_4697)])).length]) E_good rfl rfl rfl rfl rfl rfl rfl (.boxM (c := 1) rfl rfl (Nat.le_of_ble_eq_true rfl) rfl) ?_
    refine SafeOps.nil ?_
    repeat (first | refine Safe.seq ?_ | refine Safe.skip ?_ | with_reducible refine thenQ.n ?_ | with_reducible refine blockQ.n ?_)
    refine roundQ.go rfl rfl rfl rfl rfl ?_
    refine SafeOps.quiet0 E_good rfl rfl rfl (v := V.bool false) (.fn rfl) ?_
    refine SafeOps.nil ?_
    repeat (first | refine Safe.seq ?_ | refine Safe.skip ?_ | with_reducible refine thenQ.n ?_ | with_reducible refine blockQ.n ?_)
    refine Safe.condN rfl rfl ?_
    repeat (first | refine Safe.seq ?_ | refine Safe.skip ?_ | with_reducible refine thenQ.n ?_ | with_reducible refine blockQ.n ?_)
    refine Safe.region ?_
    refine SafeOps.quiet0 E_good rfl rfl rfl (v := V.int .i64 (IntKind.i64.wrap (v7_4697 + 1))) (.fn rfl) ?_
    refine SafeOps.quiet0 E_good rfl rfl rfl (v := V.int .i64 (IntKind.i64.wrap (v7_4697 + 1))) (.fn rfl) ?_
    refine SafeOps.nil ?_
    repeat (first | refine Safe.seq ?_ | refine Safe.skip ?_ | with_reducible refine thenQ.n ?_ | with_reducible refine blockQ.n ?_)
    exact ⟨_, next_out h, (.ren [7, 7, 4, 9007, 0, 13, 11] [7000, 114, 7, 7, 4, 2, 0] (.cov ⟨rfl, rfl, (upT_cons (.refl _) (upT_cons (.refl _) (upT_cons (.refl _) (upT_cons (.refl _) upT_nil)))), (upOb_cons rfl (.refl _) (upOb_cons rfl (by exact .loop (upT_cons (.refl _) upT_nil)) (upOb_cons rfl (.refl _) upOb_nil))), (upOut_cons rfl (upT_cons (.refl _) upT_nil) (upOut_cons rfl (upT_cons (.refl _) upT_nil) (upOut_cons rfl upT_nil (upOut_cons rfl (upT_cons (.refl _) upT_nil) (upOut_cons rfl (upT_cons (.refl _) upT_nil) upOut_nil))))), rfl⟩))⟩
  · skip
    refine Safe.condN rfl hc4700 ?_
    repeat (first | refine Safe.seq ?_ | refine Safe.skip ?_ | with_reducible refine thenQ.n ?_ | with_reducible refine blockQ.n ?_)
    refine Safe.exit ?_
    repeat (first | with_reducible refine thenQ.e ?_ | with_reducible refine blockQ.x rfl ?_ | with_reducible refine blockQ.y rfl ?_)
    replace h := inr_out h hr4699
    repeat (first | refine Safe.seq ?_ | refine Safe.skip ?_ | with_reducible refine thenQ.n ?_ | with_reducible refine blockQ.n ?_)
    refine rfQ.n (.inl rfl) rfl rfl (fun hbusy => by cases hbusy) ?_
    repeat (first | refine Safe.seq ?_ | refine Safe.skip ?_ | with_reducible refine thenQ.n ?_ | with_reducible refine blockQ.n ?_)
    refine Safe.region ?_
    refine SafeOps.quiet0 E_good rfl rfl rfl (v := V.ref [7000, 114, 7, 7, 4, 2, 0] 0 (rws api_Timer.cells v7_7_4_20_4698).length) (.load rfl rfl (.box rfl rfl) rfl) ?_
    refine SafeOps.quiet0 E_good rfl rfl rfl (v := V.ref [7000, 114, 7, 7, 4, 2, 0] 0 (rws api_Timer.cells v7_7_4_20_4698).length) (.fn rfl) ?_
    refine SafeOps.nil ?_
    repeat (first | refine Safe.seq ?_ | refine Safe.skip ?_ | with_reducible refine thenQ.n ?_ | with_reducible refine blockQ.n ?_)
    refine Safe.ret ?_
    repeat (first | with_reducible refine thenQ.r ?_ | with_reducible refine blockQ.r ?_)
    refine inQ.gen (vs := [V.ref [7000, 114, 7, 7, 4, 2, 0] 0 (rws api_Timer.cells v7_7_4_20_4698).length]) (v := V.ref [7000, 114, 7, 7, 4, 2, 0] 0 (rws api_Timer.cells v7_7_4_20_4698).length) (.inr rfl) rfl (.tmp (v := V.ref [7000, 114, 7, 7, 4, 2, 0] 0 (rws api_Timer.cells v7_7_4_20_4698).length) rfl .nil) rfl ?_
    refine SafeOps.quiet0 E_good rfl rfl rfl (v := V.ref [7000, 114, 7, 7, 4, 2, 0] 0 (rws api_Timer.cells v7_7_4_20_4698).length) (.fn rfl) ?_
    refine SafeOps.nil ?_
    repeat (first | refine Safe.seq ?_ | refine Safe.skip ?_ | with_reducible refine thenQ.n ?_ | with_reducible refine blockQ.n ?_)
    refine Safe.ret ?_
    repeat (first | with_reducible refine thenQ.r ?_ | with_reducible refine blockQ.r ?_)
    refine inQ.gen (vs := [V.ref [7000, 114, 7, 7, 4, 2, 0] 0 (rws api_Timer.cells v7_7_4_20_4698).length]) (v := V.ref [7000, 114, 7, 7, 4, 2, 0] 0 (rws api_Timer.cells v7_7_4_20_4698).length) (.inr rfl) rfl (.tmp (v := V.ref [7000, 114, 7, 7, 4, 2, 0] 0 (rws api_Timer.cells v7_7_4_20_4698).length) rfl .nil) rfl ?_
    refine SafeOps.quiet0 E_good rfl rfl rfl (v := V.ref [7000, 114, 7, 7, 4, 2, 0] 0 (rws api_Timer.cells v7_7_4_20_4698).length) (.fn rfl) ?_
    refine SafeOps.nil ?_
    repeat (first | refine Safe.seq ?_ | refine Safe.skip ?_ | with_reducible refine thenQ.n ?_ | with_reducible refine blockQ.n ?_)
    refine Safe.region ?_
    refine SafeOps.quiet0 E_good rfl rfl rfl (v := V.ref [7000, 114, 7, 7, 4, 2, 0] 0 (rws api_Timer.cells v7_7_4_20_4698).length) (.fn rfl) ?_
    refine SafeOps.quiet0 E_good rfl rfl rfl (v := V.fn 41 []) (.fn rfl) ?_
    refine bindG h ?_
    intro s_4703 he4704 h
    refine SafeOps.sort api_Timer.cells E_good sortL50 rfl rfl rfl rfl rfl rfl rfl rfl rfl rfl rfl rfl rfl (fun _ => rfl) (fun _ => rfl) (fun _ _ => Try.call41 _ _) (fun a b v hv => go_heap_order_sc a b v hv) he4704 ?_
    refine SafeOps.see 7 (u := V.ref [7000, 114, 7, 7, 4, 2, 0] 0 (rws api_Timer.cells s_4703).length) rfl (.len (by rw [rws_len, rws_len]; first | exact sortO_len he4704 | exact (sortO_len he4704).symm)) ?_
    refine SafeOps.see 5 (u := V.ref [7000, 114, 7, 7, 4, 2, 0] 0 (rws api_Timer.cells s_4703).length) rfl (.len (by rw [rws_len, rws_len]; first | exact sortO_len he4704 | exact (sortO_len he4704).symm)) ?_
    refine SafeOps.see 8 (u := V.ref [7000, 114, 7, 7, 4, 2, 0] 0 (rws api_Timer.cells s_4703).length) rfl (.len (by rw [rws_len, rws_len]; first | exact sortO_len he4704 | exact (sortO_len he4704).symm)) ?_
    refine SafeOps.nil ?_
    repeat (first | refine Safe.seq ?_ | refine Safe.skip ?_ | with_reducible refine thenQ.n ?_ | with_reducible refine blockQ.n ?_)
    refine Safe.region ?_
    refine SafeOps.quiet0 E_good rfl rfl rfl (v := V.ref [7000, 114, 7, 7, 4, 2, 0] 0 (rws api_Timer.cells s_4703).length) (.fn rfl) ?_
    refine SafeOps.quiet0 E_good rfl rfl rfl (v := V.ref [7000, 114, 7, 7, 4, 2, 0] 0 (rws api_Timer.cells s_4703).length) (.fn rfl) ?_
    refine SafeOps.nil ?_
    repeat (first | refine Safe.seq ?_ | refine Safe.skip ?_ | with_reducible refine thenQ.n ?_ | with_reducible refine blockQ.n ?_)
    refine Safe.ret ?_
    repeat (first | with_reducible refine thenQ.r ?_ | with_reducible refine blockQ.r ?_)
    refine inQ.gen (vs := [V.ref [7000, 114, 7, 7, 4, 2, 0] 0 (rws api_Timer.cells s_4703).length]) (v := V.ref [7000, 114, 7, 7, 4, 2, 0] 0 (rws api_Timer.cells s_4703).length) (.inr rfl) rfl (.tmp (v := V.ref [7000, 114, 7, 7, 4, 2, 0] 0 (rws api_Timer.cells s_4703).length) rfl .nil) rfl ?_
    refine SafeOps.quiet0 E_good rfl rfl rfl (v := V.sl 2 (rws api_Timer.cells a1_4617)) (.fn rfl) ?_
    refine SafeOps.inline E_good rfl rfl rfl rfl rfl Try.func43 rfl (fun _ _ => Try.call43 _ _) rfl ?_
    repeat (first | refine Safe.seq ?_ | refine Safe.skip ?_ | with_reducible refine thenQ.n ?_ | with_reducible refine blockQ.n ?_)
    refine Safe.region ?_
    refine SafeOps.quiet1 E_good rfl rfl rfl (.box rfl rfl) rfl ?_
    refine SafeOps.quiet0 E_good rfl rfl rfl (v := V.nilf) (.fn rfl) ?_
    refine SafeOps.nil ?_
    repeat (first | refine Safe.seq ?_ | refine Safe.skip ?_ | with_reducible refine thenQ.n ?_ | with_reducible refine blockQ.n ?_)
    refine Safe.region ?_
    refine SafeOps.quiet0 E_good rfl rfl rfl (v := V.fn 51 [V.ptr [9, 1] 0 0]) (.fn rfl) ?_
    refine SafeOps.quiet0 E_good rfl rfl rfl (v := V.fn 51 [V.ptr [9, 1] 0 0]) (.fn rfl) ?_
    refine SafeOps.nil ?_
    repeat (first | refine Safe.seq ?_ | refine Safe.skip ?_ | with_reducible refine thenQ.n ?_ | with_reducible refine blockQ.n ?_)
    refine Safe.ret ?_
    repeat (first | with_reducible refine thenQ.r ?_ | with_reducible refine blockQ.r ?_)
    refine inQ.gen (vs := [V.fn 51 [V.ptr [9, 1] 0 0]]) (v := V.fn 51 [V.ptr [9, 1] 0 0]) (.inr rfl) rfl (.tmp (v := V.fn 51 [V.ptr [9, 1] 0 0]) rfl .nil) rfl ?_
    refine SafeOps.inline E_good rfl rfl rfl rfl rfl Try.func42 rfl (fun _ _ => Try.call42 _ _) rfl ?_
    repeat (first | refine Safe.seq ?_ | refine Safe.skip ?_ | with_reducible refine thenQ.n ?_ | with_reducible refine blockQ.n ?_)
    refine Safe.region ?_
    refine SafeOps.quiet0 E_good rfl rfl rfl (v := V.nils) (.fn rfl) ?_
    refine SafeOps.nil ?_
    repeat (first | refine Safe.seq ?_ | refine Safe.skip ?_ | with_reducible refine thenQ.n ?_ | with_reducible refine blockQ.n ?_)
    refine Safe.region ?_
    refine SafeOps.quiet0 E_good rfl rfl rfl (v := V.fn 51 [V.ptr [9, 1] 0 0]) (.fn rfl) ?_
    refine SafeOps.inline E_good rfl rfl rfl rfl rfl Try.func49 rfl (fun _ _ => Try.call49 _ _) rfl ?_
    repeat (first | refine Safe.seq ?_ | refine Safe.skip ?_ | with_reducible refine thenQ.n ?_ | with_reducible refine blockQ.n ?_)
    refine Safe.region ?_
    refine SafeOps.quiet0 E_good rfl rfl rfl (v := V.nils) (.fn rfl) ?_
    refine SafeOps.nil ?_
    repeat (first | refine Safe.seq ?_ | refine Safe.skip ?_ | with_reducible refine thenQ.n ?_ | with_reducible refine blockQ.n ?_)
    refine Safe.region ?_
    refine SafeOps.quiet0 E_good rfl rfl rfl (v := V.fn 51 [V.ptr [9, 1] 0 0]) (.fn rfl) ?_
    refine SafeOps.inline E_good rfl rfl rfl rfl rfl Try.func53 rfl (fun _ _ => Try.call53 _ _) rfl ?_
    repeat (first | refine Safe.seq ?_ | refine Safe.skip ?_ | with_reducible refine thenQ.n ?_ | with_reducible refine blockQ.n ?_)
    refine Safe.region ?_
    refine SafeOps.quiet1 E_good rfl rfl rfl (.box rfl rfl) rfl ?_
    refine SafeOps.quiet0 E_good rfl rfl rfl (v := V.nils) (.fn rfl) ?_
    refine SafeOps.nil ?_
    repeat (first | refine Safe.seq ?_ | refine Safe.skip ?_ | with_reducible refine thenQ.n ?_ | with_reducible refine blockQ.n ?_)
    refine Safe.region ?_
    refine SafeOps.quiet0 E_good rfl rfl rfl (v := V.fn 51 [V.ptr [9, 1] 0 0]) (.fn rfl) ?_
    refine SafeOps.nil ?_
    repeat (first | refine Safe.seq ?_ | refine Safe.skip ?_ | with_reducible refine thenQ.n ?_ | with_reducible refine blockQ.n ?_)
    refine Safe.block ?_
    repeat (first | refine Safe.seq ?_ | refine Safe.skip ?_ | with_reducible refine thenQ.n ?_ | with_reducible refine blockQ.n ?_)
    refine Safe.rangeFunc (k := 9007) rfl rfl Try.func51 rfl (fun _ _ => Try.call51 _ _) rfl rfl rfl ?_
    repeat (first | refine Safe.seq ?_ | refine Safe.skip ?_ | with_reducible refine thenQ.n ?_ | with_reducible refine blockQ.n ?_)
    refine Safe.region ?_
    refine SafeOps.quiet0 E_good rfl rfl rfl (v := V.sl 2 (rws api_Timer.cells a1_4617)) (.load rfl rfl (.box rfl rfl) rfl) ?_
    refine SafeOps.quiet0 E_good rfl rfl rfl (v := V.int .i64 (a1_4617.length : Int)) (.fnE rfl lenE) ?_
    refine SafeOps.quiet0 E_good rfl rfl rfl (v := V.int .i64 0) (.fn rfl) ?_
    refine SafeOps.nil ?_
    repeat (first | refine Safe.seq ?_ | refine Safe.skip ?_ | with_reducible refine thenQ.n ?_ | with_reducible refine blockQ.n ?_)
    refine Safe.block ?_
    repeat (first | refine Safe.seq ?_ | refine Safe.skip ?_ | with_reducible refine thenQ.n ?_ | with_reducible refine blockQ.n ?_)
    refine Safe.loopW (fun ((v7_4713, v10_7_4_20_4714) : Int × (List api_Timer)) => ⟨Try.f51.ntmps, [(0, V.yld [10, 7, 4, 9007]), (5, V.sl 2 (rws api_Timer.cells a1_4617)), (6, V.int .i64 (a1_4617.length : Int)), (7, V.int .i64 v7_4713)], [([10, 7, 4, 2], Obj.box [V.ref [7000, 114, 10, 7, 4, 2, 0] 0 (rws api_Timer.cells v10_7_4_20_4714).length]), ([10, 7, 4, 9007], Go.AM.Obj.loop Try.f53.ntmps [(2, V.ptr [10, 7, 4, 2] 0 0)] [7] (rfA Try.f53 0) (rfB Try.f53 0) .ready none), ([7000, 114, 7, 7, 4, 2, 0], Obj.rows 2 (rws api_Timer.cells s_4703) false), ([7000, 114, 10, 7, 4, 2, 0], Obj.rows 2 (rws api_Timer.cells v10_7_4_20_4714) false)], [(1, [(0, V.yld [10, 7, 4, 9007])]), (Try.f53.ntmps, [(2, V.ptr [10, 7, 4, 2] 0 0)]), (Try.f49.ntmps, []), (Try.f42.ntmps, [(1, V.fn 41 [])]), (Try.f29.ntmps, [(7, V.ref [7000, 114, 7, 7, 4, 2, 0] 0 (rws api_Timer.cells s_4703).length)])], [10, 7, 4, 9007, 0]⟩) h (.empty [7000, 114, 10, 7, 4, 2, 0] 2 rfl (.cov ⟨rfl, rfl, (upT_cons (.refl _) (upT_cons (.refl _) (upT_cons (.refl _) (upT_cons (.refl _) upT_nil)))), (upOb_cons rfl (.box (.cons (.nilref _) .nil)) (upOb_cons rfl (by exact .loop (upT_cons (.refl _) upT_nil)) (upOb_cons rfl (.refl _) (upOb_cons rfl (.refl _) upOb_nil)))), (upOut_cons rfl (upT_cons (.refl _) upT_nil) (upOut_cons rfl (upT_cons (.refl _) upT_nil) (upOut_cons rfl upT_nil (upOut_cons rfl (upT_cons (.refl _) upT_nil) (upOut_cons rfl (upT_cons (.refl _) upT_nil) upOut_nil))))), rfl⟩)) ?_
    rintro ⟨v7_4713, v10_7_4_20_4714⟩ ohr4715 h hr4715
    replace h : go_heap_Same_s2 a1_4617 s_4703 (v7_4713, v10_7_4_20_4714) = some ohr4715 := h
    rw [go_heap_Same_s2] at h
    repeat (first | refine Safe.seq ?_ | refine Safe.skip ?_ | with_reducible refine thenQ.n ?_ | with_reducible refine blockQ.n ?_)
    refine Safe.region ?_
    refine SafeOps.quiet0 E_good rfl rfl rfl (v := V.bool (decide (v7_4713 < (a1_4617.length : Int)))) (.fn rfl) ?_
    refine SafeOps.nil ?_
    repeat (first | refine Safe.seq ?_ | refine Safe.skip ?_ | with_reducible refine thenQ.n ?_ | with_reducible refine blockQ.n ?_)
    refine ifG h (fun hc4716 h => ?_) (fun hc4716 h => ?_)
    · skip
      refine Safe.condK rfl hc4716 ?_
      repeat (first | refine Safe.seq ?_ | refine Safe.skip ?_ | with_reducible refine thenQ.n ?_ | with_reducible refine blockQ.n ?_)
      refine Safe.block ?_
      repeat (first | refine Safe.seq ?_ | refine Safe.skip ?_ | with_reducible refine thenQ.n ?_ | with_reducible refine blockQ.n ?_)
      refine Safe.region ?_
      refine okG h (fun hb4717 h => ?_)
      refine SafeOps.quiet0 E_good rfl rfl rfl (v := V.spt 2 (rws api_Timer.cells a1_4617) (Int.toNat v7_4713) 0) (.idxSlM (f := api_Timer.cells) rfl rfl rfl rfl rfl hb4717) ?_
      refine SafeOps.quiet0 E_good rfl rfl rfl (v := V.agg [V.int .i64 ((gt a1_4617 v7_4713).At), V.int .i64 ((gt a1_4617 v7_4713).Id)]) (.load rfl rfl (.sptM (f := api_Timer.cells) hb4717 rfl) rfl) ?_
      refine SafeOps.quiet1 E_good rfl rfl rfl (.alloc rfl rfl) rfl ?_
      refine SafeOps.store (z := Obj.box [V.int .i64 ((gt a1_4617 v7_4713).At), V.int .i64 ((gt a1_4617 v7_4713).Id)]) E_good rfl rfl rfl rfl rfl rfl rfl (.boxM (c := 2) rfl rfl (Nat.le_of_ble_eq_true rfl) rfl) ?_
      refine SafeOps.nil ?_
      repeat (first | refine Safe.seq ?_ | refine Safe.skip ?_ | with_reducible refine thenQ.n ?_ | with_reducible refine blockQ.n ?_)
      refine Safe.region ?_
      refine SafeOps.quiet0 E_good rfl rfl rfl (v := V.yld [10, 7, 4, 9007]) (.fn rfl) ?_
      refine SafeOps.quiet0 E_good rfl rfl rfl (v := V.agg [V.int .i64 ((gt a1_4617 v7_4713).At), V.int .i64 ((gt a1_4617 v7_4713).Id)]) (.load rfl rfl (.box rfl rfl) rfl) ?_
      refine SafeOps.yield rfl rfl rfl rfl rfl rfl rfl rfl ?_
      repeat (first | refine Safe.seq ?_ | refine Safe.skip ?_ | with_reducible refine thenQ.n ?_ | with_reducible refine blockQ.n ?_)
      refine Safe.region ?_
      refine SafeOps.quiet1 E_good rfl rfl rfl (.alloc rfl rfl) rfl ?_
      refine SafeOps.store (z := Obj.box [V.int .i64 ((gt a1_4617 v7_4713).At), V.int .i64 ((gt a1_4617 v7_4713).Id)]) E_good rfl rfl rfl rfl rfl rfl rfl (.boxM (c := 2) rfl rfl (Nat.le_of_ble_eq_true rfl) rfl) ?_
      refine SafeOps.nil ?_
      repeat (first | refine Safe.seq ?_ | refine Safe.skip ?_ | with_reducible refine thenQ.n ?_ | with_reducible refine blockQ.n ?_)
      refine asgQ.go rfl rfl ?_
      repeat (first | refine Safe.seq ?_ | refine Safe.skip ?_ | with_reducible refine thenQ.n ?_ | with_reducible refine blockQ.n ?_)
      refine Safe.block ?_
      repeat (first | refine Safe.seq ?_ | refine Safe.skip ?_ | with_reducible refine thenQ.n ?_ | with_reducible refine blockQ.n ?_)
      refine Safe.region ?_
      refine SafeOps.quiet0 E_good rfl rfl rfl (v := V.ref [7000, 114, 10, 7, 4, 2, 0] 0 (rws api_Timer.cells v10_7_4_20_4714).length) (.load rfl rfl (.box rfl rfl) rfl) ?_
      refine SafeOps.quiet0 E_good rfl rfl rfl (v := V.agg [V.int .i64 ((gt a1_4617 v7_4713).At), V.int .i64 ((gt a1_4617 v7_4713).Id)]) (.load rfl rfl (.box rfl rfl) rfl) ?_
      refine SafeOps.quiet1 E_good rfl rfl rfl (.litM (f := api_Timer.cells) (xs := [(gt a1_4617 v7_4713)]) rfl rfl (by decide) rfl rfl rfl rfl rfl) rfl ?_
      refine okG h (fun hb4718 h => ?_)
      refine SafeOps.appendM api_Timer.cells (xs := v10_7_4_20_4714) (ys := [(gt a1_4617 v7_4713)]) E_good rfl rfl rfl rfl rfl rfl rfl rfl rfl (.own rfl) (.own rfl) (fun _ => rfl) hb4718 ?_
      refine SafeOps.store (z := Obj.box [V.ref [10, 7, 4, 9007, 0, 13, 11] 0 (rws api_Timer.cells (v10_7_4_20_4714 ++ [(gt a1_4617 v7_4713)])).length]) E_good rfl rfl rfl rfl rfl rfl rfl (.boxM (c := 1) rfl rfl (Nat.le_of_ble_eq_true rfl) rfl) ?_
      refine SafeOps.nil ?_
      repeat (first | refine Safe.seq ?_ | refine Safe.skip ?_ | with_reducible refine thenQ.n ?_ | with_reducible refine blockQ.n ?_)
      refine roundQ.go rfl rfl rfl rfl rfl ?_
      refine SafeOps.quiet0 E_good rfl rfl rfl (v := V.bool false) (.fn rfl) ?_
      refine SafeOps.nil ?_
      repeat (first | refine Safe.seq ?_ | refine Safe.skip ?_ | with_reducible refine thenQ.n ?_ | with_reducible refine blockQ.n ?_)
      refine Safe.condN rfl rfl ?_
      repeat (first | refine Safe.seq ?_ | refine Safe.skip ?_ | with_reducible refine thenQ.n ?_ | with_reducible refine blockQ.n ?_)
      refine Safe.region ?_
      refine SafeOps.quiet0 E_good rfl rfl rfl (v := V.int .i64 (IntKind.i64.wrap (v7_4713 + 1))) (.fn rfl) ?_
      refine SafeOps.quiet0 E_good rfl rfl rfl (v := V.int .i64 (IntKind.i64.wrap (v7_4713 + 1))) (.fn rfl) ?_
      refine SafeOps.nil ?_
      repeat (first | refine Safe.seq ?_ | refine Safe.skip ?_ | with_reducible refine thenQ.n ?_ | with_reducible refine blockQ.n ?_)
      exact ⟨_, next_out h, (.ren [10, 7, 4, 9007, 0, 13, 11] [7000, 114, 10, 7, 4, 2, 0] (.cov ⟨rfl, rfl, (upT_cons (.refl _) (upT_cons (.refl _) (upT_cons (.refl _) (upT_cons (.refl _) upT_nil)))), (upOb_cons rfl (.refl _) (upOb_cons rfl (by exact .loop (upT_cons (.refl _) upT_nil)) (upOb_cons rfl (.refl _) (upOb_cons rfl (.refl _) upOb_nil)))), (upOut_cons rfl (upT_cons (.refl _) upT_nil) (upOut_cons rfl (upT_cons (.refl _) upT_nil) (upOut_cons rfl upT_nil (upOut_cons rfl (upT_cons (.refl _) upT_nil) (upOut_cons rfl (upT_cons (.refl _) upT_nil) upOut_nil))))), rfl⟩))⟩
    · skip
      refine Safe.condN rfl hc4716 ?_
      repeat (first | refine Safe.seq ?_ | refine Safe.skip ?_ | with_reducible refine thenQ.n ?_ | with_reducible refine blockQ.n ?_)
      refine Safe.exit ?_
      repeat (first | with_reducible refine thenQ.e ?_ | with_reducible refine blockQ.x rfl ?_ | with_reducible refine blockQ.y rfl ?_)
      replace h := inr_out h hr4715
      repeat (first | refine Safe.seq ?_ | refine Safe.skip ?_ | with_reducible refine thenQ.n ?_ | with_reducible refine blockQ.n ?_)
      refine rfQ.n (.inl rfl) rfl rfl (fun hbusy => by cases hbusy) ?_
      repeat (first | refine Safe.seq ?_ | refine Safe.skip ?_ | with_reducible refine thenQ.n ?_ | with_reducible refine blockQ.n ?_)
      refine Safe.region ?_
      refine SafeOps.quiet0 E_good rfl rfl rfl (v := V.ref [7000, 114, 10, 7, 4, 2, 0] 0 (rws api_Timer.cells v10_7_4_20_4714).length) (.load rfl rfl (.box rfl rfl) rfl) ?_
      refine SafeOps.quiet0 E_good rfl rfl rfl (v := V.ref [7000, 114, 10, 7, 4, 2, 0] 0 (rws api_Timer.cells v10_7_4_20_4714).length) (.fn rfl) ?_
      refine SafeOps.nil ?_
      repeat (first | refine Safe.seq ?_ | refine Safe.skip ?_ | with_reducible refine thenQ.n ?_ | with_reducible refine blockQ.n ?_)
      refine Safe.ret ?_
      repeat (first | with_reducible refine thenQ.r ?_ | with_reducible refine blockQ.r ?_)
      refine inQ.gen (vs := [V.ref [7000, 114, 10, 7, 4, 2, 0] 0 (rws api_Timer.cells v10_7_4_20_4714).length]) (v := V.ref [7000, 114, 10, 7, 4, 2, 0] 0 (rws api_Timer.cells v10_7_4_20_4714).length) (.inr rfl) rfl (.tmp (v := V.ref [7000, 114, 10, 7, 4, 2, 0] 0 (rws api_Timer.cells v10_7_4_20_4714).length) rfl .nil) rfl ?_
      refine SafeOps.quiet0 E_good rfl rfl rfl (v := V.ref [7000, 114, 10, 7, 4, 2, 0] 0 (rws api_Timer.cells v10_7_4_20_4714).length) (.fn rfl) ?_
      refine SafeOps.nil ?_
      repeat (first | refine Safe.seq ?_ | refine Safe.skip ?_ | with_reducible refine thenQ.n ?_ | with_reducible refine blockQ.n ?_)
      refine Safe.ret ?_
      repeat (first | with_reducible refine thenQ.r ?_ | with_reducible refine blockQ.r ?_)
      refine inQ.gen (vs := [V.ref [7000, 114, 10, 7, 4, 2, 0] 0 (rws api_Timer.cells v10_7_4_20_4714).length]) (v := V.ref [7000, 114, 10, 7, 4, 2, 0] 0 (rws api_Timer.cells v10_7_4_20_4714).length) (.inr rfl) rfl (.tmp (v := V.ref [7000, 114, 10, 7, 4, 2, 0] 0 (rws api_Timer.cells v10_7_4_20_4714).length) rfl .nil) rfl ?_
      refine SafeOps.quiet0 E_good rfl rfl rfl (v := V.ref [7000, 114, 10, 7, 4, 2, 0] 0 (rws api_Timer.cells v10_7_4_20_4714).length) (.fn rfl) ?_
      refine SafeOps.nil ?_
      repeat (first | refine Safe.seq ?_ | refine Safe.skip ?_ | with_reducible refine thenQ.n ?_ | with_reducible refine blockQ.n ?_)
      refine Safe.region ?_
      refine SafeOps.quiet0 E_good rfl rfl rfl (v := V.ref [7000, 114, 10, 7, 4, 2, 0] 0 (rws api_Timer.cells v10_7_4_20_4714).length) (.fn rfl) ?_
      refine SafeOps.quiet0 E_good rfl rfl rfl (v := V.fn 41 []) (.fn rfl) ?_
      refine bindG h ?_
      intro s_4719 he4720 h
      refine SafeOps.sort api_Timer.cells E_good sortL50 rfl rfl rfl rfl rfl rfl rfl rfl rfl rfl rfl rfl rfl (fun _ => rfl) (fun _ => rfl) (fun _ _ => Try.call41 _ _) (fun a b v hv => go_heap_order_sc a b v hv) he4720 ?_
      refine SafeOps.see 7 (u := V.ref [7000, 114, 10, 7, 4, 2, 0] 0 (rws api_Timer.cells s_4719).length) rfl (.len (by rw [rws_len, rws_len]; first | exact sortO_len he4720 | exact (sortO_len he4720).symm)) ?_
      refine SafeOps.see 5 (u := V.ref [7000, 114, 10, 7, 4, 2, 0] 0 (rws api_Timer.cells s_4719).length) rfl (.len (by rw [rws_len, rws_len]; first | exact sortO_len he4720 | exact (sortO_len he4720).symm)) ?_
      refine SafeOps.see 8 (u := V.ref [7000, 114, 10, 7, 4, 2, 0] 0 (rws api_Timer.cells s_4719).length) rfl (.len (by rw [rws_len, rws_len]; first | exact sortO_len he4720 | exact (sortO_len he4720).symm)) ?_
      refine SafeOps.nil ?_
      repeat (first | refine Safe.seq ?_ | refine Safe.skip ?_ | with_reducible refine thenQ.n ?_ | with_reducible refine blockQ.n ?_)
      refine Safe.region ?_
      refine SafeOps.quiet0 E_good rfl rfl rfl (v := V.ref [7000, 114, 10, 7, 4, 2, 0] 0 (rws api_Timer.cells s_4719).length) (.fn rfl) ?_
      refine SafeOps.quiet0 E_good rfl rfl rfl (v := V.ref [7000, 114, 10, 7, 4, 2, 0] 0 (rws api_Timer.cells s_4719).length) (.fn rfl) ?_
      refine SafeOps.nil ?_
      repeat (first | refine Safe.seq ?_ | refine Safe.skip ?_ | with_reducible refine thenQ.n ?_ | with_reducible refine blockQ.n ?_)
      refine Safe.ret ?_
      repeat (first | with_reducible refine thenQ.r ?_ | with_reducible refine blockQ.r ?_)
      refine inQ.gen (vs := [V.ref [7000, 114, 10, 7, 4, 2, 0] 0 (rws api_Timer.cells s_4719).length]) (v := V.ref [7000, 114, 10, 7, 4, 2, 0] 0 (rws api_Timer.cells s_4719).length) (.inr rfl) rfl (.tmp (v := V.ref [7000, 114, 10, 7, 4, 2, 0] 0 (rws api_Timer.cells s_4719).length) rfl .nil) rfl ?_
      refine bindG h ?_
      intro x_4721 he4722 h
      refine SafeOps.quiet0 E_good rfl rfl rfl (v := V.bool x_4721) (.callS rfl (.cons (.full rfl rfl) (.cons (.full rfl rfl) .nil)) (go_slices_Equal_api_Timer_api_Timer_sc s_4703 s_4719 _ he4722) (.plain rfl) rfl) ?_
      refine SafeOps.quiet0 E_good rfl rfl rfl (v := V.bool x_4721) (.fn rfl) ?_
      refine SafeOps.nil ?_
      repeat (first | refine Safe.seq ?_ | refine Safe.skip ?_ | with_reducible refine thenQ.n ?_ | with_reducible refine blockQ.n ?_)
      refine Safe.ret ?_
      repeat (first | with_reducible refine thenQ.r ?_ | with_reducible refine blockQ.r ?_)
      obtain rfl := Option.some.inj h
      exact retQ.gen (vs := [V.bool x_4721]) rfl (.tmp (v := V.bool x_4721) rfl .nil) (.free rfl) (by simp) (.inr rfl)

noncomputable def go_ravellaw08_HeapTells_j4 (a0_2135 : List api_Timer) (a1_2136 : List api_Timer) (b_4789 : Bool) : Option Bool :=
  if b_4789 = true then
    (go_heap_Same a0_2135 a1_2136).bind fun x_4796 =>
    (go_ravelref08_Same a0_2135 a1_2136).bind fun x_4798 =>
    some (x_4796 == x_4798)
  else
    some false

noncomputable def go_ravellaw08_HeapTells_j3 (a0_2135 : List api_Timer) (a1_2136 : List api_Timer) (b_4782 : Bool) : Option Bool :=
  if b_4782 = true then
    (go_heap_Check a0_2135).bind fun x_4800 =>
    (go_ravelref08_Check a0_2135).bind fun x_4802 =>
    go_ravellaw08_HeapTells_j4 a0_2135 a1_2136 (x_4800 == x_4802)
  else
    go_ravellaw08_HeapTells_j4 a0_2135 a1_2136 false

noncomputable def go_ravellaw08_HeapTells_j2 (a0_2135 : List api_Timer) (a1_2136 : List api_Timer) (x_4759 : List api_Timer) (x_4760 : Int) (x_4763 : List api_Timer) (x_4764 : Int) (b_4777 : Bool) : Option Bool :=
  if b_4777 = true then
    (go_ravellaw08_fits x_4759 x_4760 x_4763 x_4764).bind fun x_4804 =>
    go_ravellaw08_HeapTells_j3 a0_2135 a1_2136 x_4804
  else
    go_ravellaw08_HeapTells_j3 a0_2135 a1_2136 false

noncomputable def go_ravellaw08_HeapTells_j1 (a0_2135 : List api_Timer) (a1_2136 : List api_Timer) (x_4747 : Int) (x_4750 : Int) (x_4752 : api_Timer) (x_4753 : Int) (x_4755 : api_Timer) (x_4756 : Int) (x_4758 : List Int) (x_4759 : List api_Timer) (x_4760 : Int) (x_4762 : List Int) (x_4763 : List api_Timer) (x_4764 : Int) (b_4769 : Bool) : Option Bool :=
  if (((b_4769 && (x_4747 == x_4750)) && (api_Timer.beq x_4752 x_4755)) && (x_4753 == x_4756)) = true then
    (go_ravelref01_Same x_4758 x_4762).bind fun x_4806 =>
    go_ravellaw08_HeapTells_j2 a0_2135 a1_2136 x_4759 x_4760 x_4763 x_4764 x_4806
  else
    go_ravellaw08_HeapTells_j2 a0_2135 a1_2136 x_4759 x_4760 x_4763 x_4764 false

noncomputable def go_ravellaw08_HeapTells (a0_2135 : List api_Timer) (a1_2136 : List api_Timer) (a2_2137 : Int) : Option Bool :=
  (go_ravellaw08_live).bind fun x_4741 =>
  if (!x_4741) = true then
    some false
  else
    if ((decide ((a0_2135.length : Int) > 300)) || (decide ((a1_2136.length : Int) > 300))) = true then
      some x_4741
    else
      (go_heap_Sorted a0_2135).bind fun (x_4746, x_4747) =>
      (go_ravelref08_Sorted a0_2135).bind fun (x_4749, x_4750) =>
      (go_heap_Least a0_2135).bind fun (x_4752, x_4753) =>
      (go_ravelref08_Least a0_2135).bind fun (x_4755, x_4756) =>
      (go_heap_Expire a0_2135 a2_2137).bind fun (x_4758, x_4759, x_4760) =>
      (go_ravelref08_Expire a0_2135 a2_2137).bind fun (x_4762, x_4763, x_4764) =>
      if x_4741 = true then
        (go_ravelref08_SameList x_4746 x_4749).bind fun x_4808 =>
        go_ravellaw08_HeapTells_j1 a0_2135 a1_2136 x_4747 x_4750 x_4752 x_4753 x_4755 x_4756 x_4758 x_4759 x_4760 x_4762 x_4763 x_4764 x_4808
      else
        go_ravellaw08_HeapTells_j1 a0_2135 a1_2136 x_4747 x_4750 x_4752 x_4753 x_4755 x_4756 x_4758 x_4759 x_4760 x_4762 x_4763 x_4764 false

theorem go_ravellaw08_HeapTells_sc (a0_2135 : List api_Timer) (a1_2136 : List api_Timer) (a2_2137 : Int) (r : Bool) (h : go_ravellaw08_HeapTells a0_2135 a1_2136 a2_2137 = some r) : SC Try.prog gl 6 [V.sl 2 (rws api_Timer.cells a0_2135), V.sl 2 (rws api_Timer.cells a1_2136), V.int .i64 a2_2137] (V.bool r) := by
  rw [go_ravellaw08_HeapTells] at h
  refine SC.of E_good Try.func6 rfl (fun _ _ => Try.call6 _ _) rfl ?_
  repeat (first | refine Safe.seq ?_ | refine Safe.skip ?_ | with_reducible refine thenQ.n ?_ | with_reducible refine blockQ.n ?_)
  refine Safe.region ?_
  refine SafeOps.quiet0 E_good rfl rfl rfl (v := V.bool false) (.fn rfl) ?_
  refine SafeOps.nil ?_
  repeat (first | refine Safe.seq ?_ | refine Safe.skip ?_ | with_reducible refine thenQ.n ?_ | with_reducible refine blockQ.n ?_)
  refine Safe.region ?_
  refine bindG h ?_
  intro x_4741 he4742 h
  refine SafeOps.quiet0 E_good rfl rfl rfl (v := V.bool x_4741) (.callP rfl rfl (go_ravellaw08_live_sc  _ he4742) rfl) ?_
  refine SafeOps.quiet0 E_good rfl rfl rfl (v := V.bool x_4741) (.fn rfl) ?_
  refine SafeOps.nil ?_
  repeat (first | refine Safe.seq ?_ | refine Safe.skip ?_ | with_reducible refine thenQ.n ?_ | with_reducible refine blockQ.n ?_)
  refine Safe.region ?_
  refine SafeOps.quiet0 E_good rfl rfl rfl (v := V.bool x_4741) (.fn rfl) ?_
  refine SafeOps.quiet0 E_good rfl rfl rfl (v := V.bool (!x_4741)) (.fn rfl) ?_
  refine SafeOps.nil ?_
  repeat (first | refine Safe.seq ?_ | refine Safe.skip ?_ | with_reducible refine thenQ.n ?_ | with_reducible refine blockQ.n ?_)
  refine ifG h (fun hc4743 h => ?_) (fun hc4743 h => ?_)
  · skip
    refine Safe.condK rfl hc4743 ?_
    repeat (first | refine Safe.seq ?_ | refine Safe.skip ?_ | with_reducible refine thenQ.n ?_ | with_reducible refine blockQ.n ?_)
    refine Safe.region ?_
    refine SafeOps.quiet0 E_good rfl rfl rfl (v := V.bool false) (.fn rfl) ?_
    refine SafeOps.nil ?_
    repeat (first | refine Safe.seq ?_ | refine Safe.skip ?_ | with_reducible refine thenQ.n ?_ | with_reducible refine blockQ.n ?_)
    refine Safe.ret ?_
    repeat (first | with_reducible refine thenQ.r ?_ | with_reducible refine blockQ.r ?_)
    obtain rfl := Option.some.inj h
    exact retQ.gen (vs := [V.bool false]) rfl (.tmp (v := V.bool false) rfl .nil) (.free rfl) (by simp) (.inr rfl)
  · skip
    refine Safe.condN rfl hc4743 ?_
    repeat (first | refine Safe.seq ?_ | refine Safe.skip ?_ | with_reducible refine thenQ.n ?_ | with_reducible refine blockQ.n ?_)
    refine Safe.region ?_
    refine SafeOps.quiet0 E_good rfl rfl rfl (v := V.sl 2 (rws api_Timer.cells a0_2135)) (.fn rfl) ?_
    refine SafeOps.quiet0 E_good rfl rfl rfl (v := V.int .i64 (a0_2135.length : Int)) (.fnE rfl lenE) ?_
    refine SafeOps.quiet0 E_good rfl rfl rfl (v := V.bool (decide ((a0_2135.length : Int) > 300))) (.fn rfl) ?_
    refine SafeOps.quiet0 E_good rfl rfl rfl (v := V.bool (decide ((a0_2135.length : Int) > 300))) (.fn rfl) ?_
    refine SafeOps.bjoin 4 32 (b := ((decide ((a0_2135.length : Int) > 300)) || (decide ((a1_2136.length : Int) > 300)))) (b1 := true) (b0 := decide ((a1_2136.length : Int) > 300)) (fun hc4744 K => ?_) (fun hc4744 K => ?_) bj_or ?_
    · skip
      refine SafeOps.skip (congrArg (fun b => some (!b)) hc4744) rfl rfl ?_
      refine SafeOps.skip (congrArg (fun b => some (!b)) hc4744) rfl rfl ?_
      refine SafeOps.skip (congrArg (fun b => some (!b)) hc4744) rfl rfl ?_
      refine SafeOps.quiet0 E_good rfl rfl rfl (v := V.bool true) (.pickK rfl hc4744 rfl) ?_
      exact SafeOps.drop' 4 rfl rfl rfl K
    · skip
      refine SafeOps.quiet0 E_good (congrArg (fun b => some (!b)) hc4744) rfl rfl (v := V.sl 2 (rws api_Timer.cells a1_2136)) (.fn rfl) ?_
      refine SafeOps.quiet0 E_good (congrArg (fun b => some (!b)) hc4744) rfl rfl (v := V.int .i64 (a1_2136.length : Int)) (.fnE rfl lenE) ?_
      refine SafeOps.quiet0 E_good (congrArg (fun b => some (!b)) hc4744) rfl rfl (v := V.bool (decide ((a1_2136.length : Int) > 300))) (.fn rfl) ?_
      refine SafeOps.quiet0 E_good rfl rfl rfl (v := V.bool (decide ((a1_2136.length : Int) > 300))) (.pickK rfl hc4744 rfl) ?_
      exact SafeOps.drop' 4 rfl rfl rfl K
    refine SafeOps.nil ?_
    repeat (first | refine Safe.seq ?_ | refine Safe.skip ?_ | with_reducible refine thenQ.n ?_ | with_reducible refine blockQ.n ?_)
    refine ifG h (fun hc4745 h => ?_) (fun hc4745 h => ?_)
    · skip
      refine Safe.condK rfl hc4745 ?_
      repeat (first | refine Safe.seq ?_ | refine Safe.skip ?_ | with_reducible refine thenQ.n ?_ | with_reducible refine blockQ.n ?_)
      refine Safe.region ?_
      refine SafeOps.quiet0 E_good rfl rfl rfl (v := V.bool x_4741) (.fn rfl) ?_
      refine SafeOps.quiet0 E_good rfl rfl rfl (v := V.bool x_4741) (.fn rfl) ?_
      refine SafeOps.nil ?_
      repeat (first | refine Safe.seq ?_ | refine Safe.skip ?_ | with_reducible refine thenQ.n ?_ | with_reducible refine blockQ.n ?_)
      refine Safe.ret ?_
      repeat (first | with_reducible refine thenQ.r ?_ | with_reducible refine blockQ.r ?_)
      obtain rfl := Option.some.inj h
      exact retQ.gen (vs := [V.bool x_4741]) rfl (.tmp (v := V.bool x_4741) rfl .nil) (.free rfl) (by simp) (.inr rfl)
    · skip
      refine Safe.condN rfl hc4745 ?_
      repeat (first | refine Safe.seq ?_ | refine Safe.skip ?_ | with_reducible refine thenQ.n ?_ | with_reducible refine blockQ.n ?_)
      refine Safe.region ?_
      refine SafeOps.quiet0 E_good rfl rfl rfl (v := V.sl 2 (rws api_Timer.cells a0_2135)) (.fn rfl) ?_
      refine bindG h ?_
      rintro ⟨x_4746, x_4747⟩ he4748 h
      refine SafeOps.quiet E_good rfl rfl rfl (v := V.tup [V.ref [36, 0] 0 (rws api_Timer.cells x_4746).length, V.int .i64 x_4747]) (.callP rfl rfl (go_heap_Sorted_sc a0_2135 _ he4748) rfl) rfl ?_
      refine SafeOps.quiet0 E_good rfl rfl rfl (v := V.tup [V.ref [36, 0] 0 (rws api_Timer.cells x_4746).length, V.int .i64 x_4747]) (.fn rfl) ?_
      refine SafeOps.quiet0 E_good rfl rfl rfl (v := V.ref [36, 0] 0 (rws api_Timer.cells x_4746).length) (.fn rfl) ?_
      refine SafeOps.quiet0 E_good rfl rfl rfl (v := V.int .i64 x_4747) (.fn rfl) ?_
      refine SafeOps.quiet0 E_good rfl rfl rfl (v := V.ref [36, 0] 0 (rws api_Timer.cells x_4746).length) (.fn rfl) ?_
      refine SafeOps.quiet0 E_good rfl rfl rfl (v := V.int .i64 x_4747) (.fn rfl) ?_
      refine SafeOps.nil ?_
      repeat (first | refine Safe.seq ?_ | refine Safe.skip ?_ | with_reducible refine thenQ.n ?_ | with_reducible refine blockQ.n ?_)
      refine Safe.region ?_
      refine SafeOps.quiet0 E_good rfl rfl rfl (v := V.sl 2 (rws api_Timer.cells a0_2135)) (.fn rfl) ?_
      refine bindG h ?_
      rintro ⟨x_4749, x_4750⟩ he4751 h
      refine SafeOps.quiet E_good rfl rfl rfl (v := V.tup [V.ref [41, 0] 0 (rws api_Timer.cells x_4749).length, V.int .i64 x_4750]) (.callP rfl rfl (go_ravelref08_Sorted_sc a0_2135 _ he4751) rfl) rfl ?_
      refine SafeOps.quiet0 E_good rfl rfl rfl (v := V.tup [V.ref [41, 0] 0 (rws api_Timer.cells x_4749).length, V.int .i64 x_4750]) (.fn rfl) ?_
      refine SafeOps.quiet0 E_good rfl rfl rfl (v := V.ref [41, 0] 0 (rws api_Timer.cells x_4749).length) (.fn rfl) ?_
      refine SafeOps.quiet0 E_good rfl rfl rfl (v := V.int .i64 x_4750) (.fn rfl) ?_
      refine SafeOps.quiet0 E_good rfl rfl rfl (v := V.ref [41, 0] 0 (rws api_Timer.cells x_4749).length) (.fn rfl) ?_
      refine SafeOps.quiet0 E_good rfl rfl rfl (v := V.int .i64 x_4750) (.fn rfl) ?_
      refine SafeOps.nil ?_
      repeat (first | refine Safe.seq ?_ | refine Safe.skip ?_ | with_reducible refine thenQ.n ?_ | with_reducible refine blockQ.n ?_)
      refine Safe.region ?_
      refine SafeOps.quiet0 E_good rfl rfl rfl (v := V.sl 2 (rws api_Timer.cells a0_2135)) (.fn rfl) ?_
      refine bindG h ?_
      rintro ⟨x_4752, x_4753⟩ he4754 h
      refine SafeOps.quiet0 E_good rfl rfl rfl (v := V.tup [V.agg [V.int .i64 x_4752.At, V.int .i64 x_4752.Id], V.int .i64 x_4753]) (.callP rfl rfl (go_heap_Least_sc a0_2135 _ he4754) rfl) ?_
      refine SafeOps.quiet0 E_good rfl rfl rfl (v := V.tup [V.agg [V.int .i64 x_4752.At, V.int .i64 x_4752.Id], V.int .i64 x_4753]) (.fn rfl) ?_
      refine SafeOps.quiet0 E_good rfl rfl rfl (v := V.agg [V.int .i64 x_4752.At, V.int .i64 x_4752.Id]) (.fn rfl) ?_
      refine SafeOps.quiet0 E_good rfl rfl rfl (v := V.int .i64 x_4753) (.fn rfl) ?_
      refine SafeOps.quiet1 E_good rfl rfl rfl (.alloc rfl rfl) rfl ?_
      refine SafeOps.store (z := Obj.box [V.int .i64 x_4752.At, V.int .i64 x_4752.Id]) E_good rfl rfl rfl rfl rfl rfl rfl (.boxM (c := 2) rfl rfl (Nat.le_of_ble_eq_true rfl) rfl) ?_
      refine SafeOps.quiet0 E_good rfl rfl rfl (v := V.int .i64 x_4753) (.fn rfl) ?_
      refine SafeOps.nil ?_
      repeat (first | refine Safe.seq ?_ | refine Safe.skip ?_ | with_reducible refine thenQ.n ?_ | with_reducible refine blockQ.n ?_)
      refine Safe.region ?_
      refine SafeOps.quiet0 E_good rfl rfl rfl (v := V.sl 2 (rws api_Timer.cells a0_2135)) (.fn rfl) ?_
      refine bindG h ?_
      rintro ⟨x_4755, x_4756⟩ he4757 h
      refine SafeOps.quiet0 E_good rfl rfl rfl (v := V.tup [V.agg [V.int .i64 x_4755.At, V.int .i64 x_4755.Id], V.int .i64 x_4756]) (.callP rfl rfl (go_ravelref08_Least_sc a0_2135 _ he4757) rfl) ?_
      refine SafeOps.quiet0 E_good rfl rfl rfl (v := V.tup [V.agg [V.int .i64 x_4755.At, V.int .i64 x_4755.Id], V.int .i64 x_4756]) (.fn rfl) ?_
      refine SafeOps.quiet0 E_good rfl rfl rfl (v := V.agg [V.int .i64 x_4755.At, V.int .i64 x_4755.Id]) (.fn rfl) ?_
      refine SafeOps.quiet0 E_good rfl rfl rfl (v := V.int .i64 x_4756) (.fn rfl) ?_
      refine SafeOps.quiet1 E_good rfl rfl rfl (.alloc rfl rfl) rfl ?_
      refine SafeOps.store (z := Obj.box [V.int .i64 x_4755.At, V.int .i64 x_4755.Id]) E_good rfl rfl rfl rfl rfl rfl rfl (.boxM (c := 2) rfl rfl (Nat.le_of_ble_eq_true rfl) rfl) ?_
      refine SafeOps.quiet0 E_good rfl rfl rfl (v := V.int .i64 x_4756) (.fn rfl) ?_
      refine SafeOps.nil ?_
      repeat (first | refine Safe.seq ?_ | refine Safe.skip ?_ | with_reducible refine thenQ.n ?_ | with_reducible refine blockQ.n ?_)
      refine Safe.region ?_
      refine SafeOps.quiet0 E_good rfl rfl rfl (v := V.sl 2 (rws api_Timer.cells a0_2135)) (.fn rfl) ?_
      refine SafeOps.quiet0 E_good rfl rfl rfl (v := V.int .i64 a2_2137) (.fn rfl) ?_
      refine bindG h ?_
      rintro ⟨x_4758, x_4759, x_4760⟩ he4761 h
      refine SafeOps.quiet E_good rfl rfl rfl (v := V.tup [V.ref [57, 0] 0 (rws (fun n => [V.int .i64 n]) x_4758).length, V.ref [57, 1] 0 (rws api_Timer.cells x_4759).length, V.int .i64 x_4760]) (.callP rfl rfl (go_heap_Expire_sc a0_2135 a2_2137 _ he4761) rfl) rfl ?_
      refine SafeOps.quiet0 E_good rfl rfl rfl (v := V.tup [V.ref [57, 0] 0 (rws (fun n => [V.int .i64 n]) x_4758).length, V.ref [57, 1] 0 (rws api_Timer.cells x_4759).length, V.int .i64 x_4760]) (.fn rfl) ?_
      refine SafeOps.quiet0 E_good rfl rfl rfl (v := V.ref [57, 0] 0 (rws (fun n => [V.int .i64 n]) x_4758).length) (.fn rfl) ?_
      refine SafeOps.quiet0 E_good rfl rfl rfl (v := V.ref [57, 1] 0 (rws api_Timer.cells x_4759).length) (.fn rfl) ?_
      refine SafeOps.quiet0 E_good rfl rfl rfl (v := V.int .i64 x_4760) (.fn rfl) ?_
      refine SafeOps.quiet0 E_good rfl rfl rfl (v := V.ref [57, 0] 0 (rws (fun n => [V.int .i64 n]) x_4758).length) (.fn rfl) ?_
      refine SafeOps.quiet0 E_good rfl rfl rfl (v := V.ref [57, 1] 0 (rws api_Timer.cells x_4759).length) (.fn rfl) ?_
      refine SafeOps.quiet0 E_good rfl rfl rfl (v := V.int .i64 x_4760) (.fn rfl) ?_
      refine SafeOps.nil ?_
      repeat (first | refine Safe.seq ?_ | refine Safe.skip ?_ | with_reducible refine thenQ.n ?_ | with_reducible refine blockQ.n ?_)
      refine Safe.region ?_
      refine SafeOps.quiet0 E_good rfl rfl rfl (v := V.sl 2 (rws api_Timer.cells a0_2135)) (.fn rfl) ?_
      refine SafeOps.quiet0 E_good rfl rfl rfl (v := V.int .i64 a2_2137) (.fn rfl) ?_
      refine bindG h ?_
      rintro ⟨x_4762, x_4763, x_4764⟩ he4765 h
      refine SafeOps.quiet E_good rfl rfl rfl (v := V.tup [V.ref [64, 0] 0 (rws (fun n => [V.int .i64 n]) x_4762).length, V.ref [64, 1] 0 (rws api_Timer.cells x_4763).length, V.int .i64 x_4764]) (.callP rfl rfl (go_ravelref08_Expire_sc a0_2135 a2_2137 _ he4765) rfl) rfl ?_
      refine SafeOps.quiet0 E_good rfl rfl rfl (v := V.tup [V.ref [64, 0] 0 (rws (fun n => [V.int .i64 n]) x_4762).length, V.ref [64, 1] 0 (rws api_Timer.cells x_4763).length, V.int .i64 x_4764]) (.fn rfl) ?_
      refine SafeOps.quiet0 E_good rfl rfl rfl (v := V.ref [64, 0] 0 (rws (fun n => [V.int .i64 n]) x_4762).length) (.fn rfl) ?_
      refine SafeOps.quiet0 E_good rfl rfl rfl (v := V.ref [64, 1] 0 (rws api_Timer.cells x_4763).length) (.fn rfl) ?_
      refine SafeOps.quiet0 E_good rfl rfl rfl (v := V.int .i64 x_4764) (.fn rfl) ?_
      refine SafeOps.quiet0 E_good rfl rfl rfl (v := V.ref [64, 0] 0 (rws (fun n => [V.int .i64 n]) x_4762).length) (.fn rfl) ?_
      refine SafeOps.quiet0 E_good rfl rfl rfl (v := V.ref [64, 1] 0 (rws api_Timer.cells x_4763).length) (.fn rfl) ?_
      refine SafeOps.quiet0 E_good rfl rfl rfl (v := V.int .i64 x_4764) (.fn rfl) ?_
      refine SafeOps.nil ?_
      repeat (first | refine Safe.seq ?_ | refine Safe.skip ?_ | with_reducible refine thenQ.n ?_ | with_reducible refine blockQ.n ?_)
      refine Safe.region ?_
      refine SafeOps.quiet0 E_good rfl rfl rfl (v := V.bool x_4741) (.fn rfl) ?_
      refine SafeOps.quiet0 E_good rfl rfl rfl (v := V.bool x_4741) (.fn rfl) ?_
      refine SafeOps.bsplit 4 73 (fun b_4769 => go_ravellaw08_HeapTells_j1 a0_2135 a1_2136 x_4747 x_4750 x_4752 x_4753 x_4755 x_4756 x_4758 x_4759 x_4760 x_4762 x_4763 x_4764 b_4769 = some r) (fun HJ4770 => ?_) (fun b_4769 h => ?_)
      · refine ifG h (fun hc4766 h => ?_) (fun hc4766 h => ?_)
        · skip
          refine SafeOps.quiet0 E_good (congrArg some hc4766) rfl rfl (v := V.ref [36, 0] 0 (rws api_Timer.cells x_4746).length) (.fn rfl) ?_
          refine SafeOps.quiet0 E_good (congrArg some hc4766) rfl rfl (v := V.ref [41, 0] 0 (rws api_Timer.cells x_4749).length) (.fn rfl) ?_
          refine bindG h ?_
          intro x_4808 he4809 h
          refine SafeOps.quiet0 E_good (congrArg some hc4766) rfl rfl (v := V.bool x_4808) (.callS rfl (.cons (.full rfl rfl) (.cons (.full rfl rfl) .nil)) (go_ravelref08_SameList_sc x_4746 x_4749 _ he4809) (.plain rfl) rfl) ?_
          refine SafeOps.quiet0 E_good rfl rfl rfl (v := V.bool x_4808) (.pickK rfl hc4766 rfl) ?_
          exact SafeOps.drop' 4 rfl rfl rfl (HJ4770 _ h)
        · skip
          refine SafeOps.skip (congrArg some hc4766) rfl rfl ?_
          refine SafeOps.skip (congrArg some hc4766) rfl rfl ?_
          refine SafeOps.skip (congrArg some hc4766) rfl rfl ?_
          refine SafeOps.quiet0 E_good rfl rfl rfl (v := V.bool false) (.pickK rfl hc4766 rfl) ?_
          exact SafeOps.drop' 4 rfl rfl rfl (HJ4770 _ h)
      · replace h : go_ravellaw08_HeapTells_j1 a0_2135 a1_2136 x_4747 x_4750 x_4752 x_4753 x_4755 x_4756 x_4758 x_4759 x_4760 x_4762 x_4763 x_4764 b_4769 = some r := h
        rw [go_ravellaw08_HeapTells_j1] at h
        refine SafeOps.quiet0 E_good rfl rfl rfl (v := V.bool b_4769) (.fn rfl) ?_
        refine SafeOps.bjoin 4 78 (b := (b_4769 && (x_4747 == x_4750))) (b1 := (x_4747 == x_4750)) (b0 := false) (fun hc4771 K => ?_) (fun hc4771 K => ?_) bj_and ?_
        · skip
          refine SafeOps.quiet0 E_good (congrArg some hc4771) rfl rfl (v := V.int .i64 x_4747) (.fn rfl) ?_
          refine SafeOps.quiet0 E_good (congrArg some hc4771) rfl rfl (v := V.int .i64 x_4750) (.fn rfl) ?_
          refine SafeOps.quiet0 E_good (congrArg some hc4771) rfl rfl (v := V.bool (x_4747 == x_4750)) (.fn rfl) ?_
          refine SafeOps.quiet0 E_good rfl rfl rfl (v := V.bool (x_4747 == x_4750)) (.pickK rfl hc4771 rfl) ?_
          exact SafeOps.drop' 4 rfl rfl rfl K
        · skip
          refine SafeOps.skip (congrArg some hc4771) rfl rfl ?_
          refine SafeOps.skip (congrArg some hc4771) rfl rfl ?_
          refine SafeOps.skip (congrArg some hc4771) rfl rfl ?_
          refine SafeOps.quiet0 E_good rfl rfl rfl (v := V.bool false) (.pickK rfl hc4771 rfl) ?_
          exact SafeOps.drop' 4 rfl rfl rfl K
        refine SafeOps.quiet0 E_good rfl rfl rfl (v := V.bool (b_4769 && (x_4747 == x_4750))) (.fn rfl) ?_
        refine SafeOps.bjoin 4 83 (b := ((b_4769 && (x_4747 == x_4750)) && (api_Timer.beq x_4752 x_4755))) (b1 := api_Timer.beq x_4752 x_4755) (b0 := false) (fun hc4772 K => ?_) (fun hc4772 K => ?_) bj_and ?_
        · skip
          refine SafeOps.quiet0 E_good (congrArg some hc4772) rfl rfl (v := V.agg [V.int .i64 x_4752.At, V.int .i64 x_4752.Id]) (.load rfl rfl (.box rfl rfl) rfl) ?_
          refine SafeOps.quiet0 E_good (congrArg some hc4772) rfl rfl (v := V.agg [V.int .i64 x_4755.At, V.int .i64 x_4755.Id]) (.load rfl rfl (.box rfl rfl) rfl) ?_
          refine SafeOps.quiet0 E_good (congrArg some hc4772) rfl rfl (v := V.bool (api_Timer.beq x_4752 x_4755)) (.eqA rfl rfl rfl rfl okT24 rfl) ?_
          refine SafeOps.quiet0 E_good rfl rfl rfl (v := V.bool (api_Timer.beq x_4752 x_4755)) (.pickK rfl hc4772 rfl) ?_
          exact SafeOps.drop' 4 rfl rfl rfl K
        · skip
          refine SafeOps.skip (congrArg some hc4772) rfl rfl ?_
          refine SafeOps.skip (congrArg some hc4772) rfl rfl ?_
          refine SafeOps.skip (congrArg some hc4772) rfl rfl ?_
          refine SafeOps.quiet0 E_good rfl rfl rfl (v := V.bool false) (.pickK rfl hc4772 rfl) ?_
          exact SafeOps.drop' 4 rfl rfl rfl K
        refine SafeOps.quiet0 E_good rfl rfl rfl (v := V.bool ((b_4769 && (x_4747 == x_4750)) && (api_Timer.beq x_4752 x_4755))) (.fn rfl) ?_
        refine SafeOps.bjoin 4 88 (b := (((b_4769 && (x_4747 == x_4750)) && (api_Timer.beq x_4752 x_4755)) && (x_4753 == x_4756))) (b1 := (x_4753 == x_4756)) (b0 := false) (fun hc4773 K => ?_) (fun hc4773 K => ?_) bj_and ?_
        · skip
          refine SafeOps.quiet0 E_good (congrArg some hc4773) rfl rfl (v := V.int .i64 x_4753) (.fn rfl) ?_
          refine SafeOps.quiet0 E_good (congrArg some hc4773) rfl rfl (v := V.int .i64 x_4756) (.fn rfl) ?_
          refine SafeOps.quiet0 E_good (congrArg some hc4773) rfl rfl (v := V.bool (x_4753 == x_4756)) (.fn rfl) ?_
          refine SafeOps.quiet0 E_good rfl rfl rfl (v := V.bool (x_4753 == x_4756)) (.pickK rfl hc4773 rfl) ?_
          exact SafeOps.drop' 4 rfl rfl rfl K
        · skip
          refine SafeOps.skip (congrArg some hc4773) rfl rfl ?_
          refine SafeOps.skip (congrArg some hc4773) rfl rfl ?_
          refine SafeOps.skip (congrArg some hc4773) rfl rfl ?_
          refine SafeOps.quiet0 E_good rfl rfl rfl (v := V.bool false) (.pickK rfl hc4773 rfl) ?_
          exact SafeOps.drop' 4 rfl rfl rfl K
        refine SafeOps.quiet0 E_good rfl rfl rfl (v := V.bool (((b_4769 && (x_4747 == x_4750)) && (api_Timer.beq x_4752 x_4755)) && (x_4753 == x_4756))) (.fn rfl) ?_
        refine SafeOps.bsplit 4 93 (fun b_4777 => go_ravellaw08_HeapTells_j2 a0_2135 a1_2136 x_4759 x_4760 x_4763 x_4764 b_4777 = some r) (fun HJ4778 => ?_) (fun b_4777 h => ?_)
        · refine ifG h (fun hc4774 h => ?_) (fun hc4774 h => ?_)
          · skip
            refine SafeOps.quiet0 E_good (congrArg some hc4774) rfl rfl (v := V.ref [57, 0] 0 (rws (fun n => [V.int .i64 n]) x_4758).length) (.fn rfl) ?_
            refine SafeOps.quiet0 E_good (congrArg some hc4774) rfl rfl (v := V.ref [64, 0] 0 (rws (fun n => [V.int .i64 n]) x_4762).length) (.fn rfl) ?_
            refine bindG h ?_
            intro x_4806 he4807 h
            refine SafeOps.quiet0 E_good (congrArg some hc4774) rfl rfl (v := V.bool x_4806) (.callS rfl (.cons (.full rfl rfl) (.cons (.full rfl rfl) .nil)) (go_ravelref01_Same_sc x_4758 x_4762 _ he4807) (.plain rfl) rfl) ?_
            refine SafeOps.quiet0 E_good rfl rfl rfl (v := V.bool x_4806) (.pickK rfl hc4774 rfl) ?_
            exact SafeOps.drop' 4 rfl rfl rfl (HJ4778 _ h)
          · skip
            refine SafeOps.skip (congrArg some hc4774) rfl rfl ?_
            refine SafeOps.skip (congrArg some hc4774) rfl rfl ?_
            refine SafeOps.skip (congrArg some hc4774) rfl rfl ?_
            refine SafeOps.quiet0 E_good rfl rfl rfl (v := V.bool false) (.pickK rfl hc4774 rfl) ?_
            exact SafeOps.drop' 4 rfl rfl rfl (HJ4778 _ h)
        · replace h : go_ravellaw08_HeapTells_j2 a0_2135 a1_2136 x_4759 x_4760 x_4763 x_4764 b_4777 = some r := h
          rw [go_ravellaw08_HeapTells_j2] at h
          refine SafeOps.quiet0 E_good rfl rfl rfl (v := V.bool b_4777) (.fn rfl) ?_
          refine SafeOps.bsplit 6 100 (fun b_4782 => go_ravellaw08_HeapTells_j3 a0_2135 a1_2136 b_4782 = some r) (fun HJ4783 => ?_) (fun b_4782 h => ?_)
          · refine ifG h (fun hc4779 h => ?_) (fun hc4779 h => ?_)
            · skip
              refine SafeOps.quiet0 E_good (congrArg some hc4779) rfl rfl (v := V.ref [57, 1] 0 (rws api_Timer.cells x_4759).length) (.fn rfl) ?_
              refine SafeOps.quiet0 E_good (congrArg some hc4779) rfl rfl (v := V.int .i64 x_4760) (.fn rfl) ?_
              refine SafeOps.quiet0 E_good (congrArg some hc4779) rfl rfl (v := V.ref [64, 1] 0 (rws api_Timer.cells x_4763).length) (.fn rfl) ?_
              refine SafeOps.quiet0 E_good (congrArg some hc4779) rfl rfl (v := V.int .i64 x_4764) (.fn rfl) ?_
              refine bindG h ?_
              intro x_4804 he4805 h
              refine SafeOps.quiet0 E_good (congrArg some hc4779) rfl rfl (v := V.bool x_4804) (.callS rfl (.cons (.full rfl rfl) (.cons (.free rfl) (.cons (.full rfl rfl) (.cons (.free rfl) .nil)))) (go_ravellaw08_fits_sc x_4759 x_4760 x_4763 x_4764 _ he4805) (.plain rfl) rfl) ?_
              refine SafeOps.quiet0 E_good rfl rfl rfl (v := V.bool x_4804) (.pickK rfl hc4779 rfl) ?_
              exact SafeOps.drop' 6 rfl rfl rfl (HJ4783 _ h)
            · skip
              refine SafeOps.skip (congrArg some hc4779) rfl rfl ?_
              refine SafeOps.skip (congrArg some hc4779) rfl rfl ?_
              refine SafeOps.skip (congrArg some hc4779) rfl rfl ?_
              refine SafeOps.skip (congrArg some hc4779) rfl rfl ?_
              refine SafeOps.skip (congrArg some hc4779) rfl rfl ?_
              refine SafeOps.quiet0 E_good rfl rfl rfl (v := V.bool false) (.pickK rfl hc4779 rfl) ?_
              exact SafeOps.drop' 6 rfl rfl rfl (HJ4783 _ h)
          · replace h : go_ravellaw08_HeapTells_j3 a0_2135 a1_2136 b_4782 = some r := h
            rw [go_ravellaw08_HeapTells_j3] at h
            refine SafeOps.quiet0 E_good rfl rfl rfl (v := V.bool b_4782) (.fn rfl) ?_
            refine SafeOps.bsplit 6 107 (fun b_4789 => go_ravellaw08_HeapTells_j4 a0_2135 a1_2136 b_4789 = some r) (fun HJ4790 => ?_) (fun b_4789 h => ?_)
            · refine ifG h (fun hc4784 h => ?_) (fun hc4784 h => ?_)
              · skip
                refine SafeOps.quiet0 E_good (congrArg some hc4784) rfl rfl (v := V.sl 2 (rws api_Timer.cells a0_2135)) (.fn rfl) ?_
                refine bindG h ?_
                intro x_4800 he4801 h
                refine SafeOps.quiet0 E_good (congrArg some hc4784) rfl rfl (v := V.int .i64 x_4800) (.callP rfl rfl (go_heap_Check_sc a0_2135 _ he4801) rfl) ?_
                refine SafeOps.quiet0 E_good (congrArg some hc4784) rfl rfl (v := V.sl 2 (rws api_Timer.cells a0_2135)) (.fn rfl) ?_
                refine bindG h ?_
                intro x_4802 he4803 h
                refine SafeOps.quiet0 E_good (congrArg some hc4784) rfl rfl (v := V.int .i64 x_4802) (.callP rfl rfl (go_ravelref08_Check_sc a0_2135 _ he4803) rfl) ?_
                refine SafeOps.quiet0 E_good (congrArg some hc4784) rfl rfl (v := V.bool (x_4800 == x_4802)) (.fn rfl) ?_
                refine SafeOps.quiet0 E_good rfl rfl rfl (v := V.bool (x_4800 == x_4802)) (.pickK rfl hc4784 rfl) ?_
                exact SafeOps.drop' 6 rfl rfl rfl (HJ4790 _ h)
              · skip
                refine SafeOps.skip (congrArg some hc4784) rfl rfl ?_
                refine SafeOps.skip (congrArg some hc4784) rfl rfl ?_
                refine SafeOps.skip (congrArg some hc4784) rfl rfl ?_
                refine SafeOps.skip (congrArg some hc4784) rfl rfl ?_
                refine SafeOps.skip (congrArg some hc4784) rfl rfl ?_
                refine SafeOps.quiet0 E_good rfl rfl rfl (v := V.bool false) (.pickK rfl hc4784 rfl) ?_
                exact SafeOps.drop' 6 rfl rfl rfl (HJ4790 _ h)
            · replace h : go_ravellaw08_HeapTells_j4 a0_2135 a1_2136 b_4789 = some r := h
              rw [go_ravellaw08_HeapTells_j4] at h
              refine SafeOps.quiet0 E_good rfl rfl rfl (v := V.bool b_4789) (.fn rfl) ?_
              refine ifG h (fun hc4791 h => ?_) (fun hc4791 h => ?_)
              · skip
                refine SafeOps.quiet0 E_good (congrArg some hc4791) rfl rfl (v := V.sl 2 (rws api_Timer.cells a0_2135)) (.fn rfl) ?_
                refine SafeOps.quiet0 E_good (congrArg some hc4791) rfl rfl (v := V.sl 2 (rws api_Timer.cells a1_2136)) (.fn rfl) ?_
                refine bindG h ?_
                intro x_4796 he4797 h
                refine SafeOps.quiet0 E_good (congrArg some hc4791) rfl rfl (v := V.bool x_4796) (.callP rfl rfl (go_heap_Same_sc a0_2135 a1_2136 _ he4797) rfl) ?_
                refine SafeOps.quiet0 E_good (congrArg some hc4791) rfl rfl (v := V.sl 2 (rws api_Timer.cells a0_2135)) (.fn rfl) ?_
                refine SafeOps.quiet0 E_good (congrArg some hc4791) rfl rfl (v := V.sl 2 (rws api_Timer.cells a1_2136)) (.fn rfl) ?_
                refine bindG h ?_
                intro x_4798 he4799 h
                refine SafeOps.quiet0 E_good (congrArg some hc4791) rfl rfl (v := V.bool x_4798) (.callP rfl rfl (go_ravelref08_Same_sc a0_2135 a1_2136 _ he4799) rfl) ?_
                refine SafeOps.quiet0 E_good (congrArg some hc4791) rfl rfl (v := V.bool (x_4796 == x_4798)) (.fn rfl) ?_
                refine SafeOps.quiet0 E_good rfl rfl rfl (v := V.bool (x_4796 == x_4798)) (.pickK rfl hc4791 rfl) ?_
                refine SafeOps.quiet0 E_good rfl rfl rfl (v := V.bool (x_4796 == x_4798)) (.fn rfl) ?_
                refine SafeOps.nil ?_
                repeat (first | refine Safe.seq ?_ | refine Safe.skip ?_ | with_reducible refine thenQ.n ?_ | with_reducible refine blockQ.n ?_)
                refine Safe.ret ?_
                repeat (first | with_reducible refine thenQ.r ?_ | with_reducible refine blockQ.r ?_)
                obtain rfl := Option.some.inj h
                exact retQ.gen (vs := [V.bool (x_4796 == x_4798)]) rfl (.tmp (v := V.bool (x_4796 == x_4798)) rfl .nil) (.free rfl) (by simp) (.inr rfl)
              · skip
                refine SafeOps.skip (congrArg some hc4791) rfl rfl ?_
                refine SafeOps.skip (congrArg some hc4791) rfl rfl ?_
                refine SafeOps.skip (congrArg some hc4791) rfl rfl ?_
                refine SafeOps.skip (congrArg some hc4791) rfl rfl ?_
                refine SafeOps.skip (congrArg some hc4791) rfl rfl ?_
                refine SafeOps.skip (congrArg some hc4791) rfl rfl ?_
                refine SafeOps.skip (congrArg some hc4791) rfl rfl ?_
                refine SafeOps.quiet0 E_good rfl rfl rfl (v := V.bool false) (.pickK rfl hc4791 rfl) ?_
                refine SafeOps.quiet0 E_good rfl rfl rfl (v := V.bool false) (.fn rfl) ?_
                refine SafeOps.nil ?_
                repeat (first | refine Safe.seq ?_ | refine Safe.skip ?_ | with_reducible refine thenQ.n ?_ | with_reducible refine blockQ.n ?_)
                refine Safe.ret ?_
                repeat (first | with_reducible refine thenQ.r ?_ | with_reducible refine blockQ.r ?_)
                obtain rfl := Option.some.inj h
                exact retQ.gen (vs := [V.bool false]) rfl (.tmp (v := V.bool false) rfl .nil) (.free rfl) (by simp) (.inr rfl)
end Go.Proofs.Ytbcapidhhbkkcaa
