/- Helper lemmas for the claim's theorem: an abstract machine over the model, proved sound; no condition beyond each lemma's own. -/
import Derived.Test.YtbcapidhhbkkcaaT1
set_option linter.unusedVariables false
set_option linter.unusedSimpArgs false
set_option linter.unnecessarySimpa false
set_option linter.unusedSectionVars false
namespace Go.Proofs.Ytbcapidhhbkkcaa
open Go Go.AM
set_option maxRecDepth 100000
set_option maxHeartbeats 1000000
set_option linter.unusedVariables false
set_option linter.unusedSimpArgs false
variable {gl : List (Nat × List V)}
noncomputable def go_heap_Expire_j26 (v4_3883 : List Int) (v5_3884 : List api_Timer) : Option ((List Int) × (List api_Timer) × Int) :=
  some (v4_3883, v5_3884, 0)

noncomputable def go_heap_Expire_s51 (v4_4258 : List Int) (v5_4259 : List api_Timer) (v0_4385 : List api_Timer) : (Unit) → Option ((Unit) ⊕ (((List Int) × (List api_Timer)) ⊕ ((List Int) × (List api_Timer) × Int)))
  | _ =>
    inrO (
      nextO (v4_4258 ++ [(gt v5_4259 0).Id], v0_4385))

noncomputable def go_heap_Expire_s50 (v4_4258 : List Int) (v5_4259 : List api_Timer) (v0_4385 : List api_Timer) (v1_4386 : Int) : (Int × Int) → Option ((Int × Int) ⊕ (((List api_Timer) × Int) ⊕ (((List Int) × (List api_Timer)) ⊕ ((List Int) × (List api_Timer) × Int))))
  | (v4_4430, v5_4431) =>
    if ((decide (v5_4431 ≤ (IntKind.i64.wrap ((IntKind.i64.wrap (4 * v1_4386)) + 4)))) && (decide (v5_4431 < (v0_4385.length : Int)))) = true then
      if 0 ≤ v5_4431 ∧ v5_4431 < (v0_4385.length : Int) then
        if 0 ≤ v4_4430 ∧ v4_4430 < (v0_4385.length : Int) then
          (go_heap_order (gt v0_4385 v5_4431) (gt v0_4385 v4_4430)).bind fun x_4437 =>
          if (decide (x_4437 < 0)) = true then
            nextO (v5_4431, IntKind.i64.wrap (v5_4431 + 1))
          else
            nextO (v4_4430, IntKind.i64.wrap (v5_4431 + 1))
        else none
      else none
    else
      inrO (
        if (v4_4430 == v1_4386) = true then
          inrO (
            whileO (go_heap_Expire_s51 v4_4258 v5_4259 v0_4385) ())
        else
          if 0 ≤ v1_4386 ∧ v1_4386 < (v0_4385.length : Int) then
            if 0 ≤ v4_4430 ∧ v4_4430 < (v0_4385.length : Int) then
              if 0 ≤ v4_4430 ∧ v4_4430 < (v0_4385.length : Int) then
                if 0 ≤ v1_4386 ∧ v1_4386 < ((st v0_4385 v4_4430 (gt v0_4385 v1_4386)).length : Int) then
                  nextO (st (st v0_4385 v4_4430 (gt v0_4385 v1_4386)) v1_4386 (gt v0_4385 v4_4430), v4_4430)
                else none
              else none
            else none
          else none)

noncomputable def go_heap_Expire_s48 (v4_4258 : List Int) (v5_4259 : List api_Timer) : ((List api_Timer) × Int) → Option (((List api_Timer) × Int) ⊕ (((List Int) × (List api_Timer)) ⊕ ((List Int) × (List api_Timer) × Int)))
  | (v0_4385, v1_4386) =>
    whileO (go_heap_Expire_s50 v4_4258 v5_4259 v0_4385 v1_4386) (v1_4386, IntKind.i64.wrap ((IntKind.i64.wrap (4 * v1_4386)) + 1))

noncomputable def go_heap_Expire_s43 (a1_2182 : Int) : ((List Int) × (List api_Timer)) → Option (((List Int) × (List api_Timer)) ⊕ ((List Int) × (List api_Timer) × Int))
  | (v4_4258, v5_4259) =>
    if (decide ((v5_4259.length : Int) > 0)) = true then
      if 0 ≤ (0 : Int) ∧ (0 : Int) < (v5_4259.length : Int) then
        if (decide (((gt v5_4259 0).At) ≤ a1_2182)) = true then
          if 0 ≤ (0 : Int) ∧ (0 : Int) < (v5_4259.length : Int) then
            if few (v4_4258 ++ [(gt v5_4259 0).Id]).length then
              if 0 ≤ (IntKind.i64.wrap ((v5_4259.length : Int) - 1)) ∧ (IntKind.i64.wrap ((v5_4259.length : Int) - 1)) < (v5_4259.length : Int) then
                if 0 ≤ (0 : Int) ∧ (0 : Int) < (v5_4259.length : Int) then
                  if 0 ≤ (IntKind.i64.wrap ((v5_4259.length : Int) - 1)) ∧ (IntKind.i64.wrap ((v5_4259.length : Int) - 1)) ≤ ((st v5_4259 0 (gt v5_4259 (IntKind.i64.wrap ((v5_4259.length : Int) - 1)))).length : Int) then
                    if (decide ((0 : Int) < (IntKind.i64.wrap ((v5_4259.length : Int) - 1)))) = true then
                      whileO (go_heap_Expire_s48 v4_4258 v5_4259) (sub (st v5_4259 0 (gt v5_4259 (IntKind.i64.wrap ((v5_4259.length : Int) - 1)))) 0 (IntKind.i64.wrap ((v5_4259.length : Int) - 1)), 0)
                    else
                      nextO (v4_4258 ++ [(gt v5_4259 0).Id], sub (st v5_4259 0 (gt v5_4259 (IntKind.i64.wrap ((v5_4259.length : Int) - 1)))) 0 (IntKind.i64.wrap ((v5_4259.length : Int) - 1)))
                  else none
                else none
              else none
            else none
          else none
        else
          inrO (
            go_heap_Expire_j26 v4_4258 v5_4259)
      else none
    else
      inrO (
        go_heap_Expire_j26 v4_4258 v5_4259)

noncomputable def go_heap_Expire (a0_2181 : List api_Timer) (a1_2182 : Int) : Option ((List Int) × (List api_Timer) × Int) :=
  (go_heap_Check a0_2181).bind fun x_3318 =>
  if (x_3318 != 0) = true then
    some ([], [], x_3318)
  else
    (go_slices_Clone_api_Timer_api_Timer a0_2181).bind fun x_3321 =>
    whileO (go_heap_Expire_s43 a1_2182) ([], x_3321)

theorem go_heap_Expire_sc (a0_2181 : List api_Timer) (a1_2182 : Int) (r : (List Int) × (List api_Timer) × Int) (h : go_heap_Expire a0_2181 a1_2182 = some r) : SC Try.prog gl 19 [V.sl 2 (rws api_Timer.cells a0_2181), V.int .i64 a1_2182] (V.tup [V.own 1 (rws (fun n => [V.int .i64 n]) r.1), V.own 2 (rws api_Timer.cells r.2.1), V.int .i64 r.2.2]) := by
  rw [go_heap_Expire] at h
  refine SC.of E_good Try.func19 rfl (fun _ _ => Try.call19 _ _) rfl ?_
  repeat (first | refine Safe.seq ?_ | refine Safe.skip ?_ | with_reducible refine thenQ.n ?_ | with_reducible refine blockQ.n ?_)
  refine Safe.region ?_
  refine SafeOps.quiet0 E_good rfl rfl rfl (v := V.nils) (.fn rfl) ?_
  refine SafeOps.quiet0 E_good rfl rfl rfl (v := V.nils) (.fn rfl) ?_
  refine SafeOps.quiet0 E_good rfl rfl rfl (v := V.int .i64 0) (.fn rfl) ?_
  refine SafeOps.nil ?_
  repeat (first | refine Safe.seq ?_ | refine Safe.skip ?_ | with_reducible refine thenQ.n ?_ | with_reducible refine blockQ.n ?_)
  refine Safe.region ?_
  refine SafeOps.quiet0 E_good rfl rfl rfl (v := V.sl 2 (rws api_Timer.cells a0_2181)) (.fn rfl) ?_
  refine bindG h ?_
  intro x_3318 he3319 h
  refine SafeOps.quiet0 E_good rfl rfl rfl (v := V.int .i64 x_3318) (.callP rfl rfl (go_heap_Check_sc a0_2181 _ he3319) rfl) ?_
  refine SafeOps.quiet0 E_good rfl rfl rfl (v := V.int .i64 x_3318) (.fn rfl) ?_
  refine SafeOps.nil ?_
  repeat (first | refine Safe.seq ?_ | refine Safe.skip ?_ | with_reducible refine thenQ.n ?_ | with_reducible refine blockQ.n ?_)
  refine Safe.region ?_
  refine SafeOps.quiet0 E_good rfl rfl rfl (v := V.int .i64 x_3318) (.fn rfl) ?_
  refine SafeOps.quiet0 E_good rfl rfl rfl (v := V.bool (x_3318 != 0)) (.fn rfl) ?_
  refine SafeOps.nil ?_
  repeat (first | refine Safe.seq ?_ | refine Safe.skip ?_ | with_reducible refine thenQ.n ?_ | with_reducible refine blockQ.n ?_)
  refine ifG h (fun hc3320 h => ?_) (fun hc3320 h => ?_)
  · skip
    refine Safe.condK rfl hc3320 ?_
    repeat (first | refine Safe.seq ?_ | refine Safe.skip ?_ | with_reducible refine thenQ.n ?_ | with_reducible refine blockQ.n ?_)
    refine Safe.region ?_
    refine SafeOps.quiet0 E_good rfl rfl rfl (v := V.int .i64 x_3318) (.fn rfl) ?_
    refine SafeOps.quiet0 E_good rfl rfl rfl (v := V.nils) (.fn rfl) ?_
    refine SafeOps.quiet0 E_good rfl rfl rfl (v := V.nils) (.fn rfl) ?_
    refine SafeOps.quiet0 E_good rfl rfl rfl (v := V.int .i64 x_3318) (.fn rfl) ?_
    refine SafeOps.nil ?_
    repeat (first | refine Safe.seq ?_ | refine Safe.skip ?_ | with_reducible refine thenQ.n ?_ | with_reducible refine blockQ.n ?_)
    refine Safe.ret ?_
    repeat (first | with_reducible refine thenQ.r ?_ | with_reducible refine blockQ.r ?_)
    obtain rfl := Option.some.inj h
    exact retQ.gen (vs := [V.nils, V.nils, V.int .i64 x_3318]) rfl (.tmp (v := V.nils) rfl (.tmp (v := V.nils) rfl (.tmp (v := V.int .i64 x_3318) rfl .nil))) (by exact (.tup (.cons (.nils _) (.cons (.nils _) (.cons (.free rfl) .nil))))) (by simp) (.inr rfl)
  · skip
    refine Safe.condN rfl hc3320 ?_
    repeat (first | refine Safe.seq ?_ | refine Safe.skip ?_ | with_reducible refine thenQ.n ?_ | with_reducible refine blockQ.n ?_)
    refine Safe.region ?_
    refine SafeOps.quiet0 E_good rfl rfl rfl (v := V.sl 2 (rws api_Timer.cells a0_2181)) (.fn rfl) ?_
    refine bindG h ?_
    intro x_3321 he3322 h
    refine SafeOps.quiet E_good rfl rfl rfl (v := V.ref [13, 0] 0 (rws api_Timer.cells x_3321).length) (.callP rfl rfl (go_slices_Clone_api_Timer_api_Timer_sc a0_2181 _ he3322) rfl) rfl ?_
    refine SafeOps.quiet0 E_good rfl rfl rfl (v := V.ref [13, 0] 0 (rws api_Timer.cells x_3321).length) (.fn rfl) ?_
    refine SafeOps.nil ?_
    repeat (first | refine Safe.seq ?_ | refine Safe.skip ?_ | with_reducible refine thenQ.n ?_ | with_reducible refine blockQ.n ?_)
    refine Safe.joinT (fun ((v4_3883, v5_3884) : (List Int) × (List api_Timer)) => go_heap_Expire_j26 v4_3883 v5_3884 = some r) (fun ((v4_3883, v5_3884) : (List Int) × (List api_Timer)) => ⟨Try.f19.ntmps, [(4, V.ref [7000, 118, 4] 0 (rws (fun n => [V.int .i64 n]) v4_3883).length), (5, V.ref [13, 0] 0 (rws api_Timer.cells v5_3884).length)], [([13, 0], Obj.rows 2 (rws api_Timer.cells v5_3884) false), ([7000, 118, 4], Obj.rows 1 (rws (fun n => [V.int .i64 n]) v4_3883) false)], [], []⟩) ?_ (fun HJ3885 => ?_)
    · rintro ⟨v4_3883, v5_3884⟩ h
      replace h : go_heap_Expire_j26 v4_3883 v5_3884 = some r := h
      rw [go_heap_Expire_j26] at h
      repeat (first | refine Safe.seq ?_ | refine Safe.skip ?_ | with_reducible refine thenQ.n ?_ | with_reducible refine blockQ.n ?_)
      refine Safe.region ?_
      refine SafeOps.quiet0 E_good rfl rfl rfl (v := V.ref [7000, 118, 4] 0 (rws (fun n => [V.int .i64 n]) v4_3883).length) (.fn rfl) ?_
      refine SafeOps.quiet0 E_good rfl rfl rfl (v := V.ref [13, 0] 0 (rws api_Timer.cells v5_3884).length) (.fn rfl) ?_
      refine SafeOps.quiet0 E_good rfl rfl rfl (v := V.ref [7000, 118, 4] 0 (rws (fun n => [V.int .i64 n]) v4_3883).length) (.fn rfl) ?_
      refine SafeOps.quiet0 E_good rfl rfl rfl (v := V.ref [13, 0] 0 (rws api_Timer.cells v5_3884).length) (.fn rfl) ?_
      refine SafeOps.quiet0 E_good rfl rfl rfl (v := V.int .i64 0) (.fn rfl) ?_
      refine SafeOps.nil ?_
      repeat (first | refine Safe.seq ?_ | refine Safe.skip ?_ | with_reducible refine thenQ.n ?_ | with_reducible refine blockQ.n ?_)
      refine Safe.ret ?_
      repeat (first | with_reducible refine thenQ.r ?_ | with_reducible refine blockQ.r ?_)
      obtain rfl := Option.some.inj h
      exact retQ.gen (vs := [V.ref [7000, 118, 4] 0 (rws (fun n => [V.int .i64 n]) v4_3883).length, V.ref [13, 0] 0 (rws api_Timer.cells v5_3884).length, V.int .i64 0]) rfl (.tmp (v := V.ref [7000, 118, 4] 0 (rws (fun n => [V.int .i64 n]) v4_3883).length) rfl (.tmp (v := V.ref [13, 0] 0 (rws api_Timer.cells v5_3884).length) rfl (.tmp (v := V.int .i64 0) rfl .nil))) (by exact (.tup (.cons (.own rfl rfl) (.cons (.own rfl rfl) (.cons (.free rfl) .nil))))) (by simp) (.inr rfl)
    · skip
      refine Safe.block ?_
      repeat (first | refine Safe.seq ?_ | refine Safe.skip ?_ | with_reducible refine thenQ.n ?_ | with_reducible refine blockQ.n ?_)
      refine Safe.loopW (fun ((v4_4258, v5_4259) : (List Int) × (List api_Timer)) => ⟨Try.f19.ntmps, [(1, V.int .i64 a1_2182), (4, V.ref [7000, 118, 4] 0 (rws (fun n => [V.int .i64 n]) v4_4258).length), (5, V.ref [13, 0] 0 (rws api_Timer.cells v5_4259).length)], [([13, 0], Obj.rows 2 (rws api_Timer.cells v5_4259) false), ([7000, 118, 4], Obj.rows 1 (rws (fun n => [V.int .i64 n]) v4_4258) false)], [], []⟩) h (.empty [7000, 118, 4] 1 rfl (.cov ⟨rfl, rfl, (upT_cons (.refl _) (upT_cons (.nilref _) (upT_cons (.refl _) upT_nil))), (upOb_cons rfl (.refl _) (upOb_cons rfl (.refl _) upOb_nil)), upOut_nil, rfl⟩)) ?_
      rintro ⟨v4_4258, v5_4259⟩ ohr4260 h hr4260
      replace h : go_heap_Expire_s43 a1_2182 (v4_4258, v5_4259) = some ohr4260 := h
      rw [go_heap_Expire_s43] at h
      repeat (first | refine Safe.seq ?_ | refine Safe.skip ?_ | with_reducible refine thenQ.n ?_ | with_reducible refine blockQ.n ?_)
      refine Safe.region ?_
      refine SafeOps.quiet0 E_good rfl rfl rfl (v := V.ref [13, 0] 0 (rws api_Timer.cells v5_4259).length) (.fn rfl) ?_
      refine SafeOps.quiet0 E_good rfl rfl rfl (v := V.int .i64 (v5_4259.length : Int)) (.fnE rfl lenE) ?_
      refine SafeOps.quiet0 E_good rfl rfl rfl (v := V.bool (decide ((v5_4259.length : Int) > 0))) (.fn rfl) ?_
      refine SafeOps.quiet0 E_good rfl rfl rfl (v := V.bool (decide ((v5_4259.length : Int) > 0))) (.fn rfl) ?_
      refine ifG h (fun hc4261 h => ?_) (fun hc4261 h => ?_)
      · skip
        refine SafeOps.quiet0 E_good (congrArg some hc4261) rfl rfl (v := V.ref [13, 0] 0 (rws api_Timer.cells v5_4259).length) (.fn rfl) ?_
        refine okG h (fun hb4263 h => ?_)
        refine SafeOps.quiet0 E_good (congrArg some hc4261) rfl rfl (v := V.ptr [13, 0] (0 + Int.toNat 0) 0) (.idxRefM (f := api_Timer.cells) (xs := v5_4259) rfl rfl rfl rfl rfl rfl hb4263) ?_
        refine SafeOps.quiet0 E_good (congrArg some hc4261) rfl rfl (v := V.ptr [13, 0] (0 + Int.toNat 0) 0) (.fn rfl) ?_
        refine SafeOps.quiet0 E_good (congrArg some hc4261) rfl rfl (v := V.int .i64 ((gt v5_4259 0).At)) (.load rfl rfl (.rowsM (f := api_Timer.cells) (xs := v5_4259) hb4263 rfl rfl) rfl) ?_
        refine SafeOps.quiet0 E_good (congrArg some hc4261) rfl rfl (v := V.int .i64 a1_2182) (.fn rfl) ?_
        refine SafeOps.quiet0 E_good (congrArg some hc4261) rfl rfl (v := V.bool (decide (((gt v5_4259 0).At) ≤ a1_2182))) (.fn rfl) ?_
        refine SafeOps.quiet0 E_good rfl rfl rfl (v := V.bool (decide (((gt v5_4259 0).At) ≤ a1_2182))) (.pickK rfl hc4261 rfl) ?_
        refine SafeOps.nil ?_
        repeat (first | refine Safe.seq ?_ | refine Safe.skip ?_ | with_reducible refine thenQ.n ?_ | with_reducible refine blockQ.n ?_)
        refine ifG h (fun hc4264 h => ?_) (fun hc4264 h => ?_)
        · skip
          refine Safe.condK rfl hc4264 ?_
          repeat (first | refine Safe.seq ?_ | refine Safe.skip ?_ | with_reducible refine thenQ.n ?_ | with_reducible refine blockQ.n ?_)
          refine Safe.block ?_
          repeat (first | refine Safe.seq ?_ | refine Safe.skip ?_ | with_reducible refine thenQ.n ?_ | with_reducible refine blockQ.n ?_)
          refine Safe.region ?_
          refine SafeOps.quiet0 E_good rfl rfl rfl (v := V.ref [7000, 118, 4] 0 (rws (fun n => [V.int .i64 n]) v4_4258).length) (.fn rfl) ?_
          refine SafeOps.quiet0 E_good rfl rfl rfl (v := V.ref [13, 0] 0 (rws api_Timer.cells v5_4259).length) (.fn rfl) ?_
          refine okG h (fun hb4265 h => ?_)
          refine SafeOps.quiet0 E_good rfl rfl rfl (v := V.ptr [13, 0] (0 + Int.toNat 0) 0) (.idxRefM (f := api_Timer.cells) (xs := v5_4259) rfl rfl rfl rfl rfl rfl hb4265) ?_
          refine SafeOps.quiet0 E_good rfl rfl rfl (v := V.ptr [13, 0] (0 + Int.toNat 0) 1) (.fn rfl) ?_
          refine SafeOps.quiet0 E_good rfl rfl rfl (v := V.int .i64 ((gt v5_4259 0).Id)) (.load rfl rfl (.rowsM (f := api_Timer.cells) (xs := v5_4259) hb4265 rfl rfl) rfl) ?_
          refine SafeOps.quiet1 E_good rfl rfl rfl (.litM (f := (fun n => [V.int .i64 n])) (xs := [(gt v5_4259 0).Id]) rfl rfl (by decide) rfl rfl rfl rfl rfl) rfl ?_
          refine okG h (fun hb4266 h => ?_)
          refine SafeOps.appendM (fun n => [V.int .i64 n]) (xs := v4_4258) (ys := [(gt v5_4259 0).Id]) E_good rfl rfl rfl rfl rfl rfl rfl rfl rfl (.own rfl) (.own rfl) (fun _ => rfl) hb4266 ?_
          refine SafeOps.quiet0 E_good rfl rfl rfl (v := V.ref [31] 0 (rws (fun n => [V.int .i64 n]) (v4_4258 ++ [(gt v5_4259 0).Id])).length) (.fn rfl) ?_
          refine SafeOps.nil ?_
          repeat (first | refine Safe.seq ?_ | refine Safe.skip ?_ | with_reducible refine thenQ.n ?_ | with_reducible refine blockQ.n ?_)
          refine Safe.region ?_
          refine SafeOps.quiet0 E_good rfl rfl rfl (v := V.ref [13, 0] 0 (rws api_Timer.cells v5_4259).length) (.fn rfl) ?_
          refine SafeOps.inline E_good rfl rfl rfl rfl rfl Try.func39 rfl (fun _ _ => Try.call39 _ _) rfl ?_
          repeat (first | refine Safe.seq ?_ | refine Safe.skip ?_ | with_reducible refine thenQ.n ?_ | with_reducible refine blockQ.n ?_)
          refine Safe.region ?_
          refine SafeOps.quiet0 E_good rfl rfl rfl (v := V.nils) (.fn rfl) ?_
          refine SafeOps.nil ?_
          repeat (first | refine Safe.seq ?_ | refine Safe.skip ?_ | with_reducible refine thenQ.n ?_ | with_reducible refine blockQ.n ?_)
          refine Safe.region ?_
          refine SafeOps.quiet0 E_good rfl rfl rfl (v := V.ref [13, 0] 0 (rws api_Timer.cells v5_4259).length) (.fn rfl) ?_
          refine SafeOps.quiet0 E_good rfl rfl rfl (v := V.int .i64 (v5_4259.length : Int)) (.fnE rfl lenE) ?_
          refine SafeOps.quiet0 E_good rfl rfl rfl (v := V.int .i64 (IntKind.i64.wrap ((v5_4259.length : Int) - 1))) (.fn rfl) ?_
          refine SafeOps.quiet0 E_good rfl rfl rfl (v := V.int .i64 (IntKind.i64.wrap ((v5_4259.length : Int) - 1))) (.fn rfl) ?_
          refine SafeOps.nil ?_
          repeat (first | refine Safe.seq ?_ | refine Safe.skip ?_ | with_reducible refine thenQ.n ?_ | with_reducible refine blockQ.n ?_)
          refine Safe.region ?_
          refine SafeOps.quiet0 E_good rfl rfl rfl (v := V.ref [13, 0] 0 (rws api_Timer.cells v5_4259).length) (.fn rfl) ?_
          refine SafeOps.quiet0 E_good rfl rfl rfl (v := V.int .i64 0) (.fn rfl) ?_
          refine SafeOps.quiet0 E_good rfl rfl rfl (v := V.ref [13, 0] 0 (rws api_Timer.cells v5_4259).length) (.fn rfl) ?_
          refine SafeOps.quiet0 E_good rfl rfl rfl (v := V.int .i64 (IntKind.i64.wrap ((v5_4259.length : Int) - 1))) (.fn rfl) ?_
          refine okG h (fun hb4267 h => ?_)
          refine SafeOps.quiet0 E_good rfl rfl rfl (v := V.ptr [13, 0] (0 + Int.toNat (IntKind.i64.wrap ((v5_4259.length : Int) - 1))) 0) (.idxRefM (f := api_Timer.cells) (xs := v5_4259) rfl rfl rfl rfl rfl rfl hb4267) ?_
          refine SafeOps.quiet0 E_good rfl rfl rfl (v := V.agg [V.int .i64 ((gt v5_4259 (IntKind.i64.wrap ((v5_4259.length : Int) - 1))).At), V.int .i64 ((gt v5_4259 (IntKind.i64.wrap ((v5_4259.length : Int) - 1))).Id)]) (.load rfl rfl (.rowsM (f := api_Timer.cells) (xs := v5_4259) hb4267 rfl rfl) rfl) ?_
          refine okG h (fun hb4268 h => ?_)
          refine SafeOps.quiet0 E_good rfl rfl rfl (v := V.ptr [13, 0] (0 + Int.toNat 0) 0) (.idxRefM (f := api_Timer.cells) (xs := v5_4259) rfl rfl rfl rfl rfl rfl hb4268) ?_
          refine SafeOps.store (z := Obj.rows 2 (rws api_Timer.cells (st v5_4259 0 (gt v5_4259 (IntKind.i64.wrap ((v5_4259.length : Int) - 1))))) false) E_good rfl rfl rfl rfl rfl rfl rfl (.rowsM (f := api_Timer.cells) (xs := v5_4259) (y := (gt v5_4259 (IntKind.i64.wrap ((v5_4259.length : Int) - 1)))) hb4268 rfl rfl rfl rfl) ?_
          refine SafeOps.see 0 (u := V.ref [13, 0] 0 (rws api_Timer.cells (st v5_4259 0 (gt v5_4259 (IntKind.i64.wrap ((v5_4259.length : Int) - 1))))).length) rfl (.len (by simp [rws, st])) ?_
          refine SafeOps.see 6 (u := V.ref [13, 0] 0 (rws api_Timer.cells (st v5_4259 0 (gt v5_4259 (IntKind.i64.wrap ((v5_4259.length : Int) - 1))))).length) rfl (.len (by simp [rws, st])) ?_
          refine SafeOps.see 9 (u := V.ref [13, 0] 0 (rws api_Timer.cells (st v5_4259 0 (gt v5_4259 (IntKind.i64.wrap ((v5_4259.length : Int) - 1))))).length) rfl (.len (by simp [rws, st])) ?_
          refine SafeOps.see 11 (u := V.ref [13, 0] 0 (rws api_Timer.cells (st v5_4259 0 (gt v5_4259 (IntKind.i64.wrap ((v5_4259.length : Int) - 1))))).length) rfl (.len (by simp [rws, st])) ?_
          refine SafeOps.nil ?_
          repeat (first | refine Safe.seq ?_ | refine Safe.skip ?_ | with_reducible refine thenQ.n ?_ | with_reducible refine blockQ.n ?_)
          refine Safe.region ?_
          refine SafeOps.quiet0 E_good rfl rfl rfl (v := V.ref [13, 0] 0 (rws api_Timer.cells (st v5_4259 0 (gt v5_4259 (IntKind.i64.wrap ((v5_4259.length : Int) - 1))))).length) (.fn rfl) ?_
          refine SafeOps.quiet0 E_good rfl rfl rfl (v := V.int .i64 (IntKind.i64.wrap ((v5_4259.length : Int) - 1))) (.fn rfl) ?_
          refine okG h (fun hb4269 h => ?_)
          refine SafeOps.quiet0 E_good rfl rfl rfl (v := V.ref [13, 0] 0 (Int.toNat (IntKind.i64.wrap ((v5_4259.length : Int) - 1)))) (.slRefH (f := api_Timer.cells) (xs := st v5_4259 0 (gt v5_4259 (IntKind.i64.wrap ((v5_4259.length : Int) - 1)))) rfl rfl rfl rfl rfl hb4269) ?_
          refine SafeOps.truncM (f := api_Timer.cells) (xs := st v5_4259 0 (gt v5_4259 (IntKind.i64.wrap ((v5_4259.length : Int) - 1)))) [13, 0] (IntKind.i64.wrap ((v5_4259.length : Int) - 1)) rfl ?_
          refine SafeOps.see 18 (u := V.ref [13, 0] 0 (rws api_Timer.cells (sub (st v5_4259 0 (gt v5_4259 (IntKind.i64.wrap ((v5_4259.length : Int) - 1)))) 0 (IntKind.i64.wrap ((v5_4259.length : Int) - 1)))).length) rfl (.len (len_sub hb4269)) ?_
          refine SafeOps.quiet0 E_good rfl rfl rfl (v := V.ref [13, 0] 0 (rws api_Timer.cells (sub (st v5_4259 0 (gt v5_4259 (IntKind.i64.wrap ((v5_4259.length : Int) - 1)))) 0 (IntKind.i64.wrap ((v5_4259.length : Int) - 1)))).length) (.fn rfl) ?_
          refine SafeOps.nil ?_
          repeat (first | refine Safe.seq ?_ | refine Safe.skip ?_ | with_reducible refine thenQ.n ?_ | with_reducible refine blockQ.n ?_)
          refine Safe.region ?_
          refine SafeOps.quiet0 E_good rfl rfl rfl (v := V.int .i64 0) (.fn rfl) ?_
          refine SafeOps.quiet0 E_good rfl rfl rfl (v := V.int .i64 (IntKind.i64.wrap ((v5_4259.length : Int) - 1))) (.fn rfl) ?_
          refine SafeOps.quiet0 E_good rfl rfl rfl (v := V.bool (decide ((0 : Int) < (IntKind.i64.wrap ((v5_4259.length : Int) - 1))))) (.fn rfl) ?_
          refine SafeOps.nil ?_
          repeat (first | refine Safe.seq ?_ | refine Safe.skip ?_ | with_reducible refine thenQ.n ?_ | with_reducible refine blockQ.n ?_)
          refine ifG h (fun hc4270 h => ?_) (fun hc4270 h => ?_)
          · skip
            refine Safe.condK rfl hc4270 ?_
            repeat (first | refine Safe.seq ?_ | refine Safe.skip ?_ | with_reducible refine thenQ.n ?_ | with_reducible refine blockQ.n ?_)
            refine Safe.region ?_
            refine SafeOps.quiet0 E_good rfl rfl rfl (v := V.ref [13, 0] 0 (rws api_Timer.cells (sub (st v5_4259 0 (gt v5_4259 (IntKind.i64.wrap ((v5_4259.length : Int) - 1)))) 0 (IntKind.i64.wrap ((v5_4259.length : Int) - 1)))).length) (.fn rfl) ?_
            refine SafeOps.quiet0 E_good rfl rfl rfl (v := V.int .i64 0) (.fn rfl) ?_
            refine SafeOps.inline E_good rfl rfl rfl rfl rfl Try.func40 rfl (fun _ _ => Try.call40 _ _) rfl ?_
            repeat (first | refine Safe.seq ?_ | refine Safe.skip ?_ | with_reducible refine thenQ.n ?_ | with_reducible refine blockQ.n ?_)
            refine Safe.block ?_
            repeat (first | refine Safe.seq ?_ | refine Safe.skip ?_ | with_reducible refine thenQ.n ?_ | with_reducible refine blockQ.n ?_)
            refine Safe.loopW (fun ((v0_4385, v1_4386) : (List api_Timer) × Int) => ⟨Try.f40.ntmps, [(0, V.ref [13, 0] 0 (rws api_Timer.cells v0_4385).length), (1, V.int .i64 v1_4386)], [([13, 0], Obj.rows 2 (rws api_Timer.cells v0_4385) false), ([31], Obj.rows 1 (rws (fun n => [V.int .i64 n]) (v4_4258 ++ [(gt v5_4259 0).Id])) false)], [(Try.f39.ntmps, [(0, V.ref [13, 0] 0 (rws api_Timer.cells v0_4385).length), (1, V.int .i64 0)]), (Try.f19.ntmps, [(1, V.int .i64 a1_2182), (4, V.ref [31] 0 (rws (fun n => [V.int .i64 n]) (v4_4258 ++ [(gt v5_4259 0).Id])).length), (21, V.int .i64 ((gt v5_4259 0).At)), (22, V.int .i64 a1_2182), (23, V.bool (decide (((gt v5_4259 0).At) ≤ a1_2182)))])], [33, 24]⟩) h (.cov ⟨rfl, rfl, (upT_cons (.refl _) (upT_cons (.refl _) upT_nil)), (upOb_cons rfl (.refl _) (upOb_cons rfl (.refl _) upOb_nil)), (upOut_cons rfl (upT_cons (.refl _) (upT_cons (.refl _) upT_nil)) (upOut_cons rfl (upT_cons (.refl _) (upT_cons (.refl _) (upT_cons (.refl _) (upT_cons (.refl _) (upT_cons (.refl _) upT_nil))))) upOut_nil)), rfl⟩) ?_
            rintro ⟨v0_4385, v1_4386⟩ ohr4387 h hr4387
            replace h : go_heap_Expire_s48 v4_4258 v5_4259 (v0_4385, v1_4386) = some ohr4387 := h
            rw [go_heap_Expire_s48] at h
            repeat (first | refine Safe.seq ?_ | refine Safe.skip ?_ | with_reducible refine thenQ.n ?_ | with_reducible refine blockQ.n ?_)
            refine Safe.block ?_
            repeat (first | refine Safe.seq ?_ | refine Safe.skip ?_ | with_reducible refine thenQ.n ?_ | with_reducible refine blockQ.n ?_)
            refine Safe.region ?_
            refine SafeOps.quiet0 E_good rfl rfl rfl (v := V.int .i64 v1_4386) (.fn rfl) ?_
            refine SafeOps.quiet0 E_good rfl rfl rfl (v := V.int .i64 v1_4386) (.fn rfl) ?_
            refine SafeOps.nil ?_
            repeat (first | refine Safe.seq ?_ | refine Safe.skip ?_ | with_reducible refine thenQ.n ?_ | with_reducible refine blockQ.n ?_)
            refine Safe.region ?_
            refine SafeOps.quiet0 E_good rfl rfl rfl (v := V.int .i64 v1_4386) (.fn rfl) ?_
            refine SafeOps.quiet0 E_good rfl rfl rfl (v := V.int .i64 (IntKind.i64.wrap (4 * v1_4386))) (.fn rfl) ?_
            refine SafeOps.quiet0 E_good rfl rfl rfl (v := V.int .i64 (IntKind.i64.wrap ((IntKind.i64.wrap (4 * v1_4386)) + 1))) (.fn rfl) ?_
            refine SafeOps.quiet0 E_good rfl rfl rfl (v := V.int .i64 (IntKind.i64.wrap ((IntKind.i64.wrap (4 * v1_4386)) + 1))) (.fn rfl) ?_
            refine SafeOps.nil ?_
            repeat (first | refine Safe.seq ?_ | refine Safe.skip ?_ | with_reducible refine thenQ.n ?_ | with_reducible refine blockQ.n ?_)
            refine Safe.block ?_
            repeat (first | refine Safe.seq ?_ | refine Safe.skip ?_ | with_reducible refine thenQ.n ?_ | with_reducible refine blockQ.n ?_)
            refine Safe.loopW (fun ((v4_4430, v5_4431) : Int × Int) => ⟨Try.f40.ntmps, [(0, V.ref [13, 0] 0 (rws api_Timer.cells v0_4385).length), (1, V.int .i64 v1_4386), (4, V.int .i64 v4_4430), (5, V.int .i64 v5_4431)], [([13, 0], Obj.rows 2 (rws api_Timer.cells v0_4385) false), ([31], Obj.rows 1 (rws (fun n => [V.int .i64 n]) (v4_4258 ++ [(gt v5_4259 0).Id])) false)], [(Try.f39.ntmps, [(0, V.ref [13, 0] 0 (rws api_Timer.cells v0_4385).length), (1, V.int .i64 0)]), (Try.f19.ntmps, [(1, V.int .i64 a1_2182), (4, V.ref [31] 0 (rws (fun n => [V.int .i64 n]) (v4_4258 ++ [(gt v5_4259 0).Id])).length), (21, V.int .i64 ((gt v5_4259 0).At)), (22, V.int .i64 a1_2182), (23, V.bool (decide (((gt v5_4259 0).At) ≤ a1_2182)))])], [33, 24]⟩) h (.cov ⟨rfl, rfl, (upT_cons (.refl _) (upT_cons (.refl _) (upT_cons (.refl _) (upT_cons (.refl _) upT_nil)))), (upOb_cons rfl (.refl _) (upOb_cons rfl (.refl _) upOb_nil)), (upOut_cons rfl (upT_cons (.refl _) (upT_cons (.refl _) upT_nil)) (upOut_cons rfl (upT_cons (.refl _) (upT_cons (.refl _) (upT_cons (.refl _) (upT_cons (.refl _) (upT_cons (.refl _) upT_nil))))) upOut_nil)), rfl⟩) ?_
            rintro ⟨v4_4430, v5_4431⟩ ohr4432 h hr4432
            replace h : go_heap_Expire_s50 v4_4258 v5_4259 v0_4385 v1_4386 (v4_4430, v5_4431) = some ohr4432 := h
            rw [go_heap_Expire_s50] at h
            repeat (first | refine Safe.seq ?_ | refine Safe.skip ?_ | with_reducible refine thenQ.n ?_ | with_reducible refine blockQ.n ?_)
            refine Safe.region ?_
            refine SafeOps.quiet0 E_good rfl rfl rfl (v := V.int .i64 v5_4431) (.fn rfl) ?_
            refine SafeOps.quiet0 E_good rfl rfl rfl (v := V.int .i64 v1_4386) (.fn rfl) ?_
            refine SafeOps.quiet0 E_good rfl rfl rfl (v := V.int .i64 (IntKind.i64.wrap (4 * v1_4386))) (.fn rfl) ?_
            refine SafeOps.quiet0 E_good rfl rfl rfl (v := V.int .i64 (IntKind.i64.wrap ((IntKind.i64.wrap (4 * v1_4386)) + 4))) (.fn rfl) ?_
            refine SafeOps.quiet0 E_good rfl rfl rfl (v := V.bool (decide (v5_4431 ≤ (IntKind.i64.wrap ((IntKind.i64.wrap (4 * v1_4386)) + 4))))) (.fn rfl) ?_
            refine SafeOps.quiet0 E_good rfl rfl rfl (v := V.bool (decide (v5_4431 ≤ (IntKind.i64.wrap ((IntKind.i64.wrap (4 * v1_4386)) + 4))))) (.fn rfl) ?_
            refine SafeOps.bjoin 5 20 (b := ((decide (v5_4431 ≤ (IntKind.i64.wrap ((IntKind.i64.wrap (4 * v1_4386)) + 4)))) && (decide (v5_4431 < (v0_4385.length : Int))))) (b1 := decide (v5_4431 < (v0_4385.length : Int))) (b0 := false) (fun hc4433 K => ?_) (fun hc4433 K => ?_) bj_and ?_
            · skip
              refine SafeOps.quiet0 E_good (congrArg some hc4433) rfl rfl (v := V.int .i64 v5_4431) (.fn rfl) ?_
              refine SafeOps.quiet0 E_good (congrArg some hc4433) rfl rfl (v := V.ref [13, 0] 0 (rws api_Timer.cells v0_4385).length) (.fn rfl) ?_
              refine SafeOps.quiet0 E_good (congrArg some hc4433) rfl rfl (v := V.int .i64 (v0_4385.length : Int)) (.fnE rfl lenE) ?_
              refine SafeOps.quiet0 E_good (congrArg some hc4433) rfl rfl (v := V.bool (decide (v5_4431 < (v0_4385.length : Int)))) (.fn rfl) ?_
              refine SafeOps.quiet0 E_good rfl rfl rfl (v := V.bool (decide (v5_4431 < (v0_4385.length : Int)))) (.pickK rfl hc4433 rfl) ?_
              exact SafeOps.drop' 5 rfl rfl rfl K
            · skip
              refine SafeOps.skip (congrArg some hc4433) rfl rfl ?_
              refine SafeOps.skip (congrArg some hc4433) rfl rfl ?_
              refine SafeOps.skip (congrArg some hc4433) rfl rfl ?_
              refine SafeOps.skip (congrArg some hc4433) rfl rfl ?_
              refine SafeOps.quiet0 E_good rfl rfl rfl (v := V.bool false) (.pickK rfl hc4433 rfl) ?_
              exact SafeOps.drop' 5 rfl rfl rfl K
            refine SafeOps.nil ?_
            repeat (first | refine Safe.seq ?_ | refine Safe.skip ?_ | with_reducible refine thenQ.n ?_ | with_reducible refine blockQ.n ?_)
            refine ifG h (fun hc4434 h => ?_) (fun hc4434 h => ?_)
            · skip
              refine Safe.condK rfl hc4434 ?_
              repeat (first | refine Safe.seq ?_ | refine Safe.skip ?_ | with_reducible refine thenQ.n ?_ | with_reducible refine blockQ.n ?_)
              refine Safe.block ?_
              repeat (first | refine Safe.seq ?_ | refine Safe.skip ?_ | with_reducible refine thenQ.n ?_ | with_reducible refine blockQ.n ?_)
              refine Safe.regionD (n := 10) [] [] E_good mixed rfl ?_
              refine DAny.take (i := 0) rfl (by kernel_rfl) [] (by kernel_rfl) (by kernel_rfl) (by kernel_rfl) rfl rfl rfl (v := V.ref [13, 0] 0 (rws api_Timer.cells v0_4385).length) (fun _ hz => (.fn rfl)) ?_
              refine DAny.take (i := 1) rfl (by kernel_rfl) [] (by kernel_rfl) (by kernel_rfl) (by kernel_rfl) rfl rfl rfl (v := V.int .i64 v5_4431) (fun _ hz => (.fn rfl)) ?_
              refine okG h (fun hb4435 h => ?_)
              refine DAny.take (i := 2) rfl (by kernel_rfl) [] (by kernel_rfl) (by kernel_rfl) (by kernel_rfl) rfl rfl rfl (v := V.ptr [13, 0] (0 + Int.toNat v5_4431) 0) (fun _ hz => (.idxRefM (f := api_Timer.cells) (xs := v0_4385) rfl rfl rfl (hz _ _ rfl rfl) rfl rfl hb4435)) ?_
              refine DAny.take (i := 3) rfl (by kernel_rfl) [] (by kernel_rfl) (by kernel_rfl) (by kernel_rfl) rfl rfl rfl (v := V.agg [V.int .i64 ((gt v0_4385 v5_4431).At), V.int .i64 ((gt v0_4385 v5_4431).Id)]) (fun _ hz => (.load rfl rfl (.rowsM (f := api_Timer.cells) (xs := v0_4385) hb4435 (hz _ _ rfl rfl) rfl) rfl)) ?_
              refine DAny.take (i := 4) rfl (by kernel_rfl) [] (by kernel_rfl) (by kernel_rfl) (by kernel_rfl) rfl rfl rfl (v := V.ref [13, 0] 0 (rws api_Timer.cells v0_4385).length) (fun _ hz => (.fn rfl)) ?_
              refine DAny.take (i := 5) rfl (by kernel_rfl) [] (by kernel_rfl) (by kernel_rfl) (by kernel_rfl) rfl rfl rfl (v := V.int .i64 v4_4430) (fun _ hz => (.fn rfl)) ?_
              refine okG h (fun hb4436 h => ?_)
              refine DAny.take (i := 6) rfl (by kernel_rfl) [] (by kernel_rfl) (by kernel_rfl) (by kernel_rfl) rfl rfl rfl (v := V.ptr [13, 0] (0 + Int.toNat v4_4430) 0) (fun _ hz => (.idxRefM (f := api_Timer.cells) (xs := v0_4385) rfl rfl rfl (hz _ _ rfl rfl) rfl rfl hb4436)) ?_
              refine DAny.take (i := 7) rfl (by kernel_rfl) [] (by kernel_rfl) (by kernel_rfl) (by kernel_rfl) rfl rfl rfl (v := V.agg [V.int .i64 ((gt v0_4385 v4_4430).At), V.int .i64 ((gt v0_4385 v4_4430).Id)]) (fun _ hz => (.load rfl rfl (.rowsM (f := api_Timer.cells) (xs := v0_4385) hb4436 (hz _ _ rfl rfl) rfl) rfl)) ?_
              refine bindG h ?_
              intro x_4437 he4438 h
              refine DAny.take (i := 8) rfl (by kernel_rfl) [] (by kernel_rfl) (by kernel_rfl) (by kernel_rfl) rfl rfl rfl (v := V.int .i64 x_4437) (fun _ hz => (.callP rfl rfl (go_heap_order_sc (gt v0_4385 v5_4431) (gt v0_4385 v4_4430) _ he4438) rfl)) ?_
              refine DAny.take (i := 9) rfl (by kernel_rfl) [] (by kernel_rfl) (by kernel_rfl) (by kernel_rfl) rfl rfl rfl (v := V.bool (decide (x_4437 < 0))) (fun _ hz => (.fn rfl)) ?_
              refine DAny.nil (by kernel_rfl) ?_
              repeat (first | refine Safe.seq ?_ | refine Safe.skip ?_ | with_reducible refine thenQ.n ?_ | with_reducible refine blockQ.n ?_)
              refine ifG h (fun hc4439 h => ?_) (fun hc4439 h => ?_)
              · skip
                refine Safe.condK rfl hc4439 ?_
                repeat (first | refine Safe.seq ?_ | refine Safe.skip ?_ | with_reducible refine thenQ.n ?_ | with_reducible refine blockQ.n ?_)
                refine Safe.region ?_
                refine SafeOps.quiet0 E_good rfl rfl rfl (v := V.int .i64 v5_4431) (.fn rfl) ?_
                refine SafeOps.quiet0 E_good rfl rfl rfl (v := V.int .i64 v5_4431) (.fn rfl) ?_
                refine SafeOps.nil ?_
                repeat (first | refine Safe.seq ?_ | refine Safe.skip ?_ | with_reducible refine thenQ.n ?_ | with_reducible refine blockQ.n ?_)
                refine Safe.region ?_
                refine SafeOps.quiet0 E_good rfl rfl rfl (v := V.int .i64 v5_4431) (.fn rfl) ?_
                refine SafeOps.quiet0 E_good rfl rfl rfl (v := V.int .i64 (IntKind.i64.wrap (v5_4431 + 1))) (.fn rfl) ?_
                refine SafeOps.quiet0 E_good rfl rfl rfl (v := V.int .i64 (IntKind.i64.wrap (v5_4431 + 1))) (.fn rfl) ?_
                refine SafeOps.nil ?_
                repeat (first | refine Safe.seq ?_ | refine Safe.skip ?_ | with_reducible refine thenQ.n ?_ | with_reducible refine blockQ.n ?_)
                exact ⟨_, next_out h, (.cov ⟨rfl, rfl, (upT_cons (.refl _) (upT_cons (.refl _) (upT_cons (.refl _) (upT_cons (.refl _) upT_nil)))), (upOb_cons rfl (.refl _) (upOb_cons rfl (.refl _) upOb_nil)), (upOut_cons rfl (upT_cons (.refl _) (upT_cons (.refl _) upT_nil)) (upOut_cons rfl (upT_cons (.refl _) (upT_cons (.refl _) (upT_cons (.refl _) (upT_cons (.refl _) (upT_cons (.refl _) upT_nil))))) upOut_nil)), rfl⟩)⟩
              · skip
                refine Safe.condN rfl hc4439 ?_
                repeat (first | refine Safe.seq ?_ | refine Safe.skip ?_ | with_reducible refine thenQ.n ?_ | with_reducible refine blockQ.n ?_)
                refine Safe.region ?_
                refine SafeOps.quiet0 E_good rfl rfl rfl (v := V.int .i64 v5_4431) (.fn rfl) ?_
                refine SafeOps.quiet0 E_good rfl rfl rfl (v := V.int .i64 (IntKind.i64.wrap (v5_4431 + 1))) (.fn rfl) ?_
                refine SafeOps.quiet0 E_good rfl rfl rfl (v := V.int .i64 (IntKind.i64.wrap (v5_4431 + 1))) (.fn rfl) ?_
                refine SafeOps.nil ?_
                repeat (first | refine Safe.seq ?_ | refine Safe.skip ?_ | with_reducible refine thenQ.n ?_ | with_reducible refine blockQ.n ?_)
                exact ⟨_, next_out h, (.cov ⟨rfl, rfl, (upT_cons (.refl _) (upT_cons (.refl _) (upT_cons (.refl _) (upT_cons (.refl _) upT_nil)))), (upOb_cons rfl (.refl _) (upOb_cons rfl (.refl _) upOb_nil)), (upOut_cons rfl (upT_cons (.refl _) (upT_cons (.refl _) upT_nil)) (upOut_cons rfl (upT_cons (.refl _) (upT_cons (.refl _) (upT_cons (.refl _) (upT_cons (.refl _) (upT_cons (.refl _) upT_nil))))) upOut_nil)), rfl⟩)⟩
            · skip
              refine Safe.condN rfl hc4434 ?_
              repeat (first | refine Safe.seq ?_ | refine Safe.skip ?_ | with_reducible refine thenQ.n ?_ | with_reducible refine blockQ.n ?_)
              refine Safe.exit ?_
              repeat (first | with_reducible refine thenQ.e ?_ | with_reducible refine blockQ.x rfl ?_ | with_reducible refine blockQ.y rfl ?_)
              replace h := inr_out h hr4432
              repeat (first | refine Safe.seq ?_ | refine Safe.skip ?_ | with_reducible refine thenQ.n ?_ | with_reducible refine blockQ.n ?_)
              refine Safe.region ?_
              refine SafeOps.quiet0 E_good rfl rfl rfl (v := V.int .i64 v4_4430) (.fn rfl) ?_
              refine SafeOps.quiet0 E_good rfl rfl rfl (v := V.int .i64 v1_4386) (.fn rfl) ?_
              refine SafeOps.quiet0 E_good rfl rfl rfl (v := V.bool (v4_4430 == v1_4386)) (.fn rfl) ?_
              refine SafeOps.nil ?_
              repeat (first | refine Safe.seq ?_ | refine Safe.skip ?_ | with_reducible refine thenQ.n ?_ | with_reducible refine blockQ.n ?_)
              refine ifG h (fun hc4440 h => ?_) (fun hc4440 h => ?_)
              · skip
                refine Safe.condK rfl hc4440 ?_
                repeat (first | refine Safe.seq ?_ | refine Safe.skip ?_ | with_reducible refine thenQ.n ?_ | with_reducible refine blockQ.n ?_)
                refine Safe.ret ?_
                repeat (first | with_reducible refine thenQ.r ?_ | with_reducible refine blockQ.r ?_)
                refine inQ.gen (vs := []) (v := V.tup []) (.inr rfl) rfl .nil rfl ?_
                replace h := inr_out h hr4387
                refine SafeOps.nil ?_
                repeat (first | refine Safe.seq ?_ | refine Safe.skip ?_ | with_reducible refine thenQ.n ?_ | with_reducible refine blockQ.n ?_)
                refine Safe.region ?_
                refine SafeOps.quiet0 E_good rfl rfl rfl (v := V.ref [13, 0] 0 (rws api_Timer.cells v0_4385).length) (.fn rfl) ?_
                refine SafeOps.quiet0 E_good rfl rfl rfl (v := V.int .i64 0) (.fn rfl) ?_
                refine SafeOps.inline E_good rfl rfl rfl rfl rfl Try.func34 rfl (fun _ _ => Try.call34 _ _) rfl ?_
                repeat (first | refine Safe.seq ?_ | refine Safe.skip ?_ | with_reducible refine thenQ.n ?_ | with_reducible refine blockQ.n ?_)
                refine Safe.block ?_
                repeat (first | refine Safe.seq ?_ | refine Safe.skip ?_ | with_reducible refine thenQ.n ?_ | with_reducible refine blockQ.n ?_)
                refine Safe.loopW (fun (_ : Unit) => ⟨Try.f34.ntmps, [(0, V.ref [13, 0] 0 (rws api_Timer.cells v0_4385).length), (1, V.int .i64 0)], [([13, 0], Obj.rows 2 (rws api_Timer.cells v0_4385) false), ([31], Obj.rows 1 (rws (fun n => [V.int .i64 n]) (v4_4258 ++ [(gt v5_4259 0).Id])) false)], [(Try.f39.ntmps, [(0, V.ref [13, 0] 0 (rws api_Timer.cells v0_4385).length)]), (Try.f19.ntmps, [(1, V.int .i64 a1_2182), (4, V.ref [31] 0 (rws (fun n => [V.int .i64 n]) (v4_4258 ++ [(gt v5_4259 0).Id])).length), (21, V.int .i64 ((gt v5_4259 0).At)), (22, V.int .i64 a1_2182), (23, V.bool (decide (((gt v5_4259 0).At) ≤ a1_2182)))])], [33, 27]⟩) h (.cov ⟨rfl, rfl, (upT_cons (.refl _) (upT_cons (.refl _) upT_nil)), (upOb_cons rfl (.refl _) (upOb_cons rfl (.refl _) upOb_nil)), (upOut_cons rfl (upT_cons (.refl _) upT_nil) (upOut_cons rfl (upT_cons (.refl _) (upT_cons (.refl _) (upT_cons (.refl _) (upT_cons (.refl _) (upT_cons (.refl _) upT_nil))))) upOut_nil)), rfl⟩) ?_
                intro _ ohr4441 h hr4441
                replace h : go_heap_Expire_s51 v4_4258 v5_4259 v0_4385 () = some ohr4441 := h
                rw [go_heap_Expire_s51] at h
                repeat (first | refine Safe.seq ?_ | refine Safe.skip ?_ | with_reducible refine thenQ.n ?_ | with_reducible refine blockQ.n ?_)
                refine Safe.region ?_
                refine SafeOps.quiet0 E_good rfl rfl rfl (v := V.int .i64 0) (.fn rfl) ?_
                refine SafeOps.quiet0 E_good rfl rfl rfl (v := V.bool false) (.fn rfl) ?_
                refine SafeOps.nil ?_
                repeat (first | refine Safe.seq ?_ | refine Safe.skip ?_ | with_reducible refine thenQ.n ?_ | with_reducible refine blockQ.n ?_)
                refine Safe.condN rfl rfl ?_
                repeat (first | refine Safe.seq ?_ | refine Safe.skip ?_ | with_reducible refine thenQ.n ?_ | with_reducible refine blockQ.n ?_)
                refine Safe.exit ?_
                repeat (first | with_reducible refine thenQ.e ?_ | with_reducible refine blockQ.x rfl ?_ | with_reducible refine blockQ.y rfl ?_)
                replace h := inr_out h hr4441
                repeat (first | refine Safe.seq ?_ | refine Safe.skip ?_ | with_reducible refine thenQ.n ?_ | with_reducible refine blockQ.n ?_)
                repeat (first | with_reducible refine thenQ.r ?_ | with_reducible refine blockQ.r ?_)
                refine inQ.gen (vs := []) (v := V.tup []) (.inl rfl) rfl .nil rfl ?_
                refine SafeOps.nil ?_
                repeat (first | refine Safe.seq ?_ | refine Safe.skip ?_ | with_reducible refine thenQ.n ?_ | with_reducible refine blockQ.n ?_)
                refine Safe.region ?_
                refine SafeOps.quiet0 E_good rfl rfl rfl (v := V.ref [13, 0] 0 (rws api_Timer.cells v0_4385).length) (.fn rfl) ?_
                refine SafeOps.quiet0 E_good rfl rfl rfl (v := V.ref [13, 0] 0 (rws api_Timer.cells v0_4385).length) (.fn rfl) ?_
                refine SafeOps.nil ?_
                repeat (first | refine Safe.seq ?_ | refine Safe.skip ?_ | with_reducible refine thenQ.n ?_ | with_reducible refine blockQ.n ?_)
                refine Safe.ret ?_
                repeat (first | with_reducible refine thenQ.r ?_ | with_reducible refine blockQ.r ?_)
                refine inQ.gen (vs := [V.ref [13, 0] 0 (rws api_Timer.cells v0_4385).length]) (v := V.ref [13, 0] 0 (rws api_Timer.cells v0_4385).length) (.inr rfl) rfl (.tmp (v := V.ref [13, 0] 0 (rws api_Timer.cells v0_4385).length) rfl .nil) rfl ?_
                refine SafeOps.quiet0 E_good rfl rfl rfl (v := V.ref [13, 0] 0 (rws api_Timer.cells v0_4385).length) (.fn rfl) ?_
                refine SafeOps.nil ?_
                repeat (first | refine Safe.seq ?_ | refine Safe.skip ?_ | with_reducible refine thenQ.n ?_ | with_reducible refine blockQ.n ?_)
                exact ⟨_, next_out h, (.ren [31] [7000, 118, 4] (.cov ⟨rfl, rfl, (upT_cons (.refl _) (upT_cons (.refl _) (upT_cons (.refl _) upT_nil))), (upOb_cons rfl (.refl _) (upOb_cons rfl (.refl _) upOb_nil)), upOut_nil, rfl⟩))⟩
              · skip
                refine Safe.condN rfl hc4440 ?_
                repeat (first | refine Safe.seq ?_ | refine Safe.skip ?_ | with_reducible refine thenQ.n ?_ | with_reducible refine blockQ.n ?_)
                refine Safe.regionD (n := 16) [(13, [12, 0]), (13, [13, 0]), (13, [14, 0]), (15, [12, 0]), (15, [13, 0]), (15, [14, 0])] [] E_good mixed rfl ?_
                refine DAny.take (i := 0) rfl (by kernel_rfl) [[12, 0], [13, 0], [14, 0]] (by kernel_rfl) (by kernel_rfl) (by kernel_rfl) rfl rfl rfl (v := V.ref [13, 0] 0 (rws api_Timer.cells v0_4385).length) (fun _ hz => (.fn rfl)) ?_
                refine DAny.take (i := 1) rfl (by kernel_rfl) [[12, 0], [13, 0], [14, 0]] (by kernel_rfl) (by kernel_rfl) (by kernel_rfl) rfl rfl rfl (v := V.int .i64 v4_4430) (fun _ hz => (.fn rfl)) ?_
                refine DAny.take (i := 2) rfl (by kernel_rfl) [[12, 0], [13, 0], [14, 0]] (by kernel_rfl) (by kernel_rfl) (by kernel_rfl) rfl rfl rfl (v := V.ref [13, 0] 0 (rws api_Timer.cells v0_4385).length) (fun _ hz => (.fn rfl)) ?_
                refine DAny.take (i := 3) rfl (by kernel_rfl) [[12, 0], [13, 0], [14, 0]] (by kernel_rfl) (by kernel_rfl) (by kernel_rfl) rfl rfl rfl (v := V.int .i64 v1_4386) (fun _ hz => (.fn rfl)) ?_
                refine DAny.take (i := 4) rfl (by kernel_rfl) [[12, 0], [13, 0], [14, 0]] (by kernel_rfl) (by kernel_rfl) (by kernel_rfl) rfl rfl rfl (v := V.ref [13, 0] 0 (rws api_Timer.cells v0_4385).length) (fun _ hz => (.fn rfl)) ?_
                refine DAny.take (i := 5) rfl (by kernel_rfl) [[12, 0], [13, 0], [14, 0]] (by kernel_rfl) (by kernel_rfl) (by kernel_rfl) rfl rfl rfl (v := V.int .i64 v1_4386) (fun _ hz => (.fn rfl)) ?_
                refine okG h (fun hb4442 h => ?_)
                refine DAny.take (i := 6) rfl (by kernel_rfl) [[12, 0], [14, 0]] (by kernel_rfl) (by kernel_rfl) (by kernel_rfl) rfl rfl rfl (v := V.ptr [13, 0] (0 + Int.toNat v1_4386) 0) (fun _ hz => (.idxRefM (f := api_Timer.cells) (xs := v0_4385) rfl rfl rfl (hz _ _ rfl rfl) rfl rfl hb4442)) ?_
                refine DAny.take (i := 7) rfl (by kernel_rfl) [[12, 0], [14, 0]] (by kernel_rfl) (by kernel_rfl) (by kernel_rfl) rfl rfl rfl (v := V.agg [V.int .i64 ((gt v0_4385 v1_4386).At), V.int .i64 ((gt v0_4385 v1_4386).Id)]) (fun _ hz => (.load rfl rfl (.rowsM (f := api_Timer.cells) (xs := v0_4385) hb4442 (hz _ _ rfl rfl) rfl) rfl)) ?_
                refine DAny.take (i := 8) rfl (by kernel_rfl) [[12, 0], [13, 0], [14, 0]] (by kernel_rfl) (by kernel_rfl) (by kernel_rfl) rfl rfl rfl (v := V.ref [13, 0] 0 (rws api_Timer.cells v0_4385).length) (fun _ hz => (.fn rfl)) ?_
                refine DAny.take (i := 9) rfl (by kernel_rfl) [[12, 0], [13, 0], [14, 0]] (by kernel_rfl) (by kernel_rfl) (by kernel_rfl) rfl rfl rfl (v := V.int .i64 v4_4430) (fun _ hz => (.fn rfl)) ?_
                refine okG h (fun hb4443 h => ?_)
                refine DAny.take (i := 10) rfl (by kernel_rfl) [[12, 0], [14, 0]] (by kernel_rfl) (by kernel_rfl) (by kernel_rfl) rfl rfl rfl (v := V.ptr [13, 0] (0 + Int.toNat v4_4430) 0) (fun _ hz => (.idxRefM (f := api_Timer.cells) (xs := v0_4385) rfl rfl rfl (hz _ _ rfl rfl) rfl rfl hb4443)) ?_
                refine DAny.take (i := 11) rfl (by kernel_rfl) [[12, 0], [14, 0]] (by kernel_rfl) (by kernel_rfl) (by kernel_rfl) rfl rfl rfl (v := V.agg [V.int .i64 ((gt v0_4385 v4_4430).At), V.int .i64 ((gt v0_4385 v4_4430).Id)]) (fun _ hz => (.load rfl rfl (.rowsM (f := api_Timer.cells) (xs := v0_4385) hb4443 (hz _ _ rfl rfl) rfl) rfl)) ?_
                refine okG h (fun hb4444 h => ?_)
                refine DAny.take (i := 12) rfl (by kernel_rfl) [[12, 0], [14, 0]] (by kernel_rfl) (by kernel_rfl) (by kernel_rfl) rfl rfl rfl (v := V.ptr [13, 0] (0 + Int.toNat v4_4430) 0) (fun _ hz => (.idxRefM (f := api_Timer.cells) (xs := v0_4385) rfl rfl rfl (hz _ _ rfl rfl) rfl rfl hb4444)) ?_
                refine DAny.only (i := 13) rfl (by kernel_rfl) (.store (z := Obj.rows 2 (rws api_Timer.cells (st v0_4385 v4_4430 (gt v0_4385 v1_4386))) false) rfl rfl rfl rfl rfl rfl rfl (.rowsM (f := api_Timer.cells) (xs := v0_4385) (y := (gt v0_4385 v1_4386)) hb4444 rfl rfl rfl rfl) rfl ?_)
                refine okG h (fun hb4445 h => ?_)
                refine DAny.take (i := 14) rfl (by kernel_rfl) [[12, 0], [14, 0]] (by kernel_rfl) (by kernel_rfl) (by kernel_rfl) rfl rfl rfl (v := V.ptr [13, 0] (0 + Int.toNat v1_4386) 0) (fun _ hz => (.idxRefL (f := api_Timer.cells) (xs := st v0_4385 v4_4430 (gt v0_4385 v1_4386)) (ys := v0_4385) rfl rfl rfl (hz _ _ rfl rfl) rfl (by simp [st]) hb4445)) ?_
                refine DAny.only (i := 15) rfl (by kernel_rfl) (.store (z := Obj.rows 2 (rws api_Timer.cells (st (st v0_4385 v4_4430 (gt v0_4385 v1_4386)) v1_4386 (gt v0_4385 v4_4430))) false) rfl rfl rfl rfl rfl rfl rfl (.rowsM (f := api_Timer.cells) (xs := st v0_4385 v4_4430 (gt v0_4385 v1_4386)) (y := (gt v0_4385 v4_4430)) hb4445 rfl rfl rfl rfl) rfl ?_)
                refine DAny.nil (by kernel_rfl) ?_
                repeat (first | refine Safe.seq ?_ | refine Safe.skip ?_ | with_reducible refine thenQ.n ?_ | with_reducible refine blockQ.n ?_)
                refine Safe.see 0 (u := V.ref [13, 0] 0 (rws api_Timer.cells (st (st v0_4385 v4_4430 (gt v0_4385 v1_4386)) v1_4386 (gt v0_4385 v4_4430))).length) rfl (.len (by simp [rws, st])) ?_
                refine Safe.see 37 (u := V.ref [13, 0] 0 (rws api_Timer.cells (st (st v0_4385 v4_4430 (gt v0_4385 v1_4386)) v1_4386 (gt v0_4385 v4_4430))).length) rfl (.len (by simp [rws, st])) ?_
                refine Safe.see 39 (u := V.ref [13, 0] 0 (rws api_Timer.cells (st (st v0_4385 v4_4430 (gt v0_4385 v1_4386)) v1_4386 (gt v0_4385 v4_4430))).length) rfl (.len (by simp [rws, st])) ?_
                refine Safe.see 41 (u := V.ref [13, 0] 0 (rws api_Timer.cells (st (st v0_4385 v4_4430 (gt v0_4385 v1_4386)) v1_4386 (gt v0_4385 v4_4430))).length) rfl (.len (by simp [rws, st])) ?_
                refine Safe.see 45 (u := V.ref [13, 0] 0 (rws api_Timer.cells (st (st v0_4385 v4_4430 (gt v0_4385 v1_4386)) v1_4386 (gt v0_4385 v4_4430))).length) rfl (.len (by simp [rws, st])) ?_
                repeat (first | refine Safe.seq ?_ | refine Safe.skip ?_ | with_reducible refine thenQ.n ?_ | with_reducible refine blockQ.n ?_)
                refine Safe.region ?_
                refine SafeOps.quiet0 E_good rfl rfl rfl (v := V.int .i64 v4_4430) (.fn rfl) ?_
                refine SafeOps.quiet0 E_good rfl rfl rfl (v := V.int .i64 v4_4430) (.fn rfl) ?_
                refine SafeOps.nil ?_
                repeat (first | refine Safe.seq ?_ | refine Safe.skip ?_ | with_reducible refine thenQ.n ?_ | with_reducible refine blockQ.n ?_)
                exact ⟨_, next_out h, (.cov ⟨rfl, rfl, (upT_cons (.refl _) (upT_cons (.refl _) upT_nil)), (upOb_cons rfl (.refl _) (upOb_cons rfl (.refl _) upOb_nil)), (upOut_cons rfl (upT_cons (.len (by simp [rws, st])) (upT_cons (.refl _) upT_nil)) (upOut_cons rfl (upT_cons (.refl _) (upT_cons (.refl _) (upT_cons (.refl _) (upT_cons (.refl _) (upT_cons (.refl _) upT_nil))))) upOut_nil)), rfl⟩)⟩
          · skip
            refine Safe.condN rfl hc4270 ?_
            repeat (first | refine Safe.seq ?_ | refine Safe.skip ?_ | with_reducible refine thenQ.n ?_ | with_reducible refine blockQ.n ?_)
            refine Safe.region ?_
            refine SafeOps.quiet0 E_good rfl rfl rfl (v := V.ref [13, 0] 0 (rws api_Timer.cells (sub (st v5_4259 0 (gt v5_4259 (IntKind.i64.wrap ((v5_4259.length : Int) - 1)))) 0 (IntKind.i64.wrap ((v5_4259.length : Int) - 1)))).length) (.fn rfl) ?_
            refine SafeOps.quiet0 E_good rfl rfl rfl (v := V.ref [13, 0] 0 (rws api_Timer.cells (sub (st v5_4259 0 (gt v5_4259 (IntKind.i64.wrap ((v5_4259.length : Int) - 1)))) 0 (IntKind.i64.wrap ((v5_4259.length : Int) - 1)))).length) (.fn rfl) ?_
            refine SafeOps.nil ?_
            repeat (first | refine Safe.seq ?_ | refine Safe.skip ?_ | with_reducible refine thenQ.n ?_ | with_reducible refine blockQ.n ?_)
            refine Safe.ret ?_
            repeat (first | with_reducible refine thenQ.r ?_ | with_reducible refine blockQ.r ?_)
            refine inQ.gen (vs := [V.ref [13, 0] 0 (rws api_Timer.cells (sub (st v5_4259 0 (gt v5_4259 (IntKind.i64.wrap ((v5_4259.length : Int) - 1)))) 0 (IntKind.i64.wrap ((v5_4259.length : Int) - 1)))).length]) (v := V.ref [13, 0] 0 (rws api_Timer.cells (sub (st v5_4259 0 (gt v5_4259 (IntKind.i64.wrap ((v5_4259.length : Int) - 1)))) 0 (IntKind.i64.wrap ((v5_4259.length : Int) - 1)))).length) (.inr rfl) rfl (.tmp (v := V.ref [13, 0] 0 (rws api_Timer.cells (sub (st v5_4259 0 (gt v5_4259 (IntKind.i64.wrap ((v5_4259.length : Int) - 1)))) 0 (IntKind.i64.wrap ((v5_4259.length : Int) - 1)))).length) rfl .nil) rfl ?_
            refine SafeOps.quiet0 E_good rfl rfl rfl (v := V.ref [13, 0] 0 (rws api_Timer.cells (sub (st v5_4259 0 (gt v5_4259 (IntKind.i64.wrap ((v5_4259.length : Int) - 1)))) 0 (IntKind.i64.wrap ((v5_4259.length : Int) - 1)))).length) (.fn rfl) ?_
            refine SafeOps.nil ?_
            repeat (first | refine Safe.seq ?_ | refine Safe.skip ?_ | with_reducible refine thenQ.n ?_ | with_reducible refine blockQ.n ?_)
            exact ⟨_, next_out h, (.ren [31] [7000, 118, 4] (.cov ⟨rfl, rfl, (upT_cons (.refl _) (upT_cons (.refl _) (upT_cons (.refl _) upT_nil))), (upOb_cons rfl (.refl _) (upOb_cons rfl (.refl _) upOb_nil)), upOut_nil, rfl⟩))⟩
        · skip
          refine Safe.condN rfl hc4264 ?_
          repeat (first | refine Safe.seq ?_ | refine Safe.skip ?_ | with_reducible refine thenQ.n ?_ | with_reducible refine blockQ.n ?_)
          refine Safe.exit ?_
          repeat (first | with_reducible refine thenQ.e ?_ | with_reducible refine blockQ.x rfl ?_ | with_reducible refine blockQ.y rfl ?_)
          replace h := inr_out h hr4260
          repeat (first | refine Safe.skip ?_ | with_reducible refine thenQ.n ?_ | with_reducible refine blockQ.n ?_)
          exact Safe.got (HJ3885 (v4_4258, v5_4259) h) (.cov ⟨rfl, rfl, (upT_cons (.refl _) (upT_cons (.refl _) upT_nil)), (upOb_cons rfl (.refl _) (upOb_cons rfl (.refl _) upOb_nil)), upOut_nil, rfl⟩)
      · skip
        refine SafeOps.skip (congrArg some hc4261) rfl rfl ?_
        refine SafeOps.skip (congrArg some hc4261) rfl rfl ?_
        refine SafeOps.skip (congrArg some hc4261) rfl rfl ?_
        refine SafeOps.skip (congrArg some hc4261) rfl rfl ?_
        refine SafeOps.skip (congrArg some hc4261) rfl rfl ?_
        refine SafeOps.skip (congrArg some hc4261) rfl rfl ?_
        refine SafeOps.quiet0 E_good rfl rfl rfl (v := V.bool false) (.pickK rfl hc4261 rfl) ?_
        refine SafeOps.nil ?_
        repeat (first | refine Safe.seq ?_ | refine Safe.skip ?_ | with_reducible refine thenQ.n ?_ | with_reducible refine blockQ.n ?_)
        refine Safe.condN rfl rfl ?_
        repeat (first | refine Safe.seq ?_ | refine Safe.skip ?_ | with_reducible refine thenQ.n ?_ | with_reducible refine blockQ.n ?_)
        refine Safe.exit ?_
        repeat (first | with_reducible refine thenQ.e ?_ | with_reducible refine blockQ.x rfl ?_ | with_reducible refine blockQ.y rfl ?_)
        replace h := inr_out h hr4260
        repeat (first | refine Safe.skip ?_ | with_reducible refine thenQ.n ?_ | with_reducible refine blockQ.n ?_)
        exact Safe.got (HJ3885 (v4_4258, v5_4259) h) (.cov ⟨rfl, rfl, (upT_cons (.refl _) (upT_cons (.refl _) upT_nil)), (upOb_cons rfl (.refl _) (upOb_cons rfl (.refl _) upOb_nil)), upOut_nil, rfl⟩)

end Go.Proofs.Ytbcapidhhbkkcaa
