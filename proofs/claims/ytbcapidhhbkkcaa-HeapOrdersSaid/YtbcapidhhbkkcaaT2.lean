/- Helper lemmas for the claim's theorem: an abstract machine over the model, proved sound; no condition beyond each lemma's own. -/
import Derived.Test.YtbcapidhhbkkcaaT1
set_option linter.unusedVariables false
set_option linter.unusedSimpArgs false
set_option linter.unnecessarySimpa false
set_option linter.unusedSectionVars false
namespace Go.Proofs.Ytbcapidhhbkkcaa
open Go Go.AM
set_option maxRecDepth 100000
set_option maxHeartbeats 1000000
set_option linter.unusedVariables false
set_option linter.unusedSimpArgs false
variable {gl : List (Nat × List V)}
noncomputable def go_slices_Equal_api_Timer_api_Timer_s1 (a0_4651 : List api_Timer) (a1_4652 : List api_Timer) : (Int) → Option ((Int) ⊕ (Bool))
  | v13_4681 =>
    if (decide (v13_4681 < (a0_4651.length : Int))) = true then
      if 0 ≤ v13_4681 ∧ v13_4681 < (a0_4651.length : Int) then
        if 0 ≤ v13_4681 ∧ v13_4681 < (a1_4652.length : Int) then
          if (!(api_Timer.beq (gt a0_4651 v13_4681) (gt a1_4652 v13_4681))) = true then
            inrO (
              some false)
          else
            nextO (IntKind.i64.wrap (v13_4681 + 1))
        else none
      else none
    else
      inrO (
        some true)

noncomputable def go_slices_Equal_api_Timer_api_Timer (a0_4651 : List api_Timer) (a1_4652 : List api_Timer) : Option Bool :=
  if ((a0_4651.length : Int) != (a1_4652.length : Int)) = true then
    some false
  else
    whileO (go_slices_Equal_api_Timer_api_Timer_s1 a0_4651 a1_4652) 0

theorem go_slices_Equal_api_Timer_api_Timer_sc (a0_4651 : List api_Timer) (a1_4652 : List api_Timer) (r : Bool) (h : go_slices_Equal_api_Timer_api_Timer a0_4651 a1_4652 = some r) : SC Try.prog gl 44 [V.sl 2 (rws api_Timer.cells a0_4651), V.sl 2 (rws api_Timer.cells a1_4652)] (V.bool r) := by
  rw [go_slices_Equal_api_Timer_api_Timer] at h
  refine SC.of E_good Try.func44 rfl (fun _ _ => Try.call44 _ _) rfl ?_
  repeat (first | refine Safe.seq ?_ | refine Safe.skip ?_ | with_reducible refine thenQ.n ?_ | with_reducible refine blockQ.n ?_)
  refine Safe.region ?_
  refine SafeOps.quiet0 E_good rfl rfl rfl (v := V.bool false) (.fn rfl) ?_
  refine SafeOps.nil ?_
  repeat (first | refine Safe.seq ?_ | refine Safe.skip ?_ | with_reducible refine thenQ.n ?_ | with_reducible refine blockQ.n ?_)
  refine Safe.region ?_
  refine SafeOps.quiet0 E_good rfl rfl rfl (v := V.sl 2 (rws api_Timer.cells a0_4651)) (.fn rfl) ?_
  refine SafeOps.quiet0 E_good rfl rfl rfl (v := V.int .i64 (a0_4651.length : Int)) (.fnE rfl lenE) ?_
  refine SafeOps.quiet0 E_good rfl rfl rfl (v := V.sl 2 (rws api_Timer.cells a1_4652)) (.fn rfl) ?_
  refine SafeOps.quiet0 E_good rfl rfl rfl (v := V.int .i64 (a1_4652.length : Int)) (.fnE rfl lenE) ?_
  refine SafeOps.quiet0 E_good rfl rfl rfl (v := V.bool ((a0_4651.length : Int) != (a1_4652.length : Int))) (.fn rfl) ?_
  refine SafeOps.nil ?_
  repeat (first | refine Safe.seq ?_ | refine Safe.skip ?_ | with_reducible refine thenQ.n ?_ | with_reducible refine blockQ.n ?_)
  refine ifG h (fun hc4671 h => ?_) (fun hc4671 h => ?_)
  · skip
    refine Safe.condK rfl hc4671 ?_
    repeat (first | refine Safe.seq ?_ | refine Safe.skip ?_ | with_reducible refine thenQ.n ?_ | with_reducible refine blockQ.n ?_)
    refine Safe.region ?_
    refine SafeOps.quiet0 E_good rfl rfl rfl (v := V.bool false) (.fn rfl) ?_
    refine SafeOps.nil ?_
    repeat (first | refine Safe.seq ?_ | refine Safe.skip ?_ | with_reducible refine thenQ.n ?_ | with_reducible refine blockQ.n ?_)
    refine Safe.ret ?_
    repeat (first | with_reducible refine thenQ.r ?_ | with_reducible refine blockQ.r ?_)
    obtain rfl := Option.some.inj h
    exact retQ.gen (vs := [V.bool false]) rfl (.tmp (v := V.bool false) rfl .nil) (.free rfl) (by simp) (.inr rfl)
  · skip
    refine Safe.condN rfl hc4671 ?_
    repeat (first | refine Safe.seq ?_ | refine Safe.skip ?_ | with_reducible refine thenQ.n ?_ | with_reducible refine blockQ.n ?_)
    refine Safe.region ?_
    refine SafeOps.quiet0 E_good rfl rfl rfl (v := V.sl 2 (rws api_Timer.cells a0_4651)) (.fn rfl) ?_
    refine SafeOps.quiet0 E_good rfl rfl rfl (v := V.int .i64 (a0_4651.length : Int)) (.fnE rfl lenE) ?_
    refine SafeOps.quiet0 E_good rfl rfl rfl (v := V.int .i64 0) (.fn rfl) ?_
    refine SafeOps.nil ?_
    repeat (first | refine Safe.seq ?_ | refine Safe.skip ?_ | with_reducible refine thenQ.n ?_ | with_reducible refine blockQ.n ?_)
    refine Safe.block ?_
    repeat (first | refine Safe.seq ?_ | refine Safe.skip ?_ | with_reducible refine thenQ.n ?_ | with_reducible refine blockQ.n ?_)
    refine Safe.loopW (fun (v13_4681 : Int) => ⟨Try.f44.ntmps, [(0, V.sl 2 (rws api_Timer.cells a0_4651)), (1, V.sl 2 (rws api_Timer.cells a1_4652)), (12, V.int .i64 (a0_4651.length : Int)), (13, V.int .i64 v13_4681)], [], [], []⟩) h (.cov ⟨rfl, rfl, (upT_cons (.refl _) (upT_cons (.refl _) (upT_cons (.refl _) (upT_cons (.refl _) upT_nil)))), upOb_nil, upOut_nil, rfl⟩) ?_
    intro v13_4681 ohr4682 h hr4682
    replace h : go_slices_Equal_api_Timer_api_Timer_s1 a0_4651 a1_4652 v13_4681 = some ohr4682 := h
    rw [go_slices_Equal_api_Timer_api_Timer_s1] at h
    repeat (first | refine Safe.seq ?_ | refine Safe.skip ?_ | with_reducible refine thenQ.n ?_ | with_reducible refine blockQ.n ?_)
    refine Safe.region ?_
    refine SafeOps.quiet0 E_good rfl rfl rfl (v := V.bool (decide (v13_4681 < (a0_4651.length : Int)))) (.fn rfl) ?_
    refine SafeOps.nil ?_
    repeat (first | refine Safe.seq ?_ | refine Safe.skip ?_ | with_reducible refine thenQ.n ?_ | with_reducible refine blockQ.n ?_)
    refine ifG h (fun hc4683 h => ?_) (fun hc4683 h => ?_)
    · skip
      refine Safe.condK rfl hc4683 ?_
      repeat (first | refine Safe.seq ?_ | refine Safe.skip ?_ | with_reducible refine thenQ.n ?_ | with_reducible refine blockQ.n ?_)
      refine Safe.block ?_
      repeat (first | refine Safe.seq ?_ | refine Safe.skip ?_ | with_reducible refine thenQ.n ?_ | with_reducible refine blockQ.n ?_)
      refine Safe.region ?_
      refine SafeOps.quiet0 E_good rfl rfl rfl (v := V.int .i64 v13_4681) (.fn rfl) ?_
      refine SafeOps.quiet0 E_good rfl rfl rfl (v := V.int .i64 v13_4681) (.fn rfl) ?_
      refine SafeOps.nil ?_
      repeat (first | refine Safe.seq ?_ | refine Safe.skip ?_ | with_reducible refine thenQ.n ?_ | with_reducible refine blockQ.n ?_)
      refine Safe.regionD (n := 9) [] [] E_good mixed rfl ?_
      refine DAny.take (i := 0) rfl (by kernel_rfl) [] (by kernel_rfl) (by kernel_rfl) (by kernel_rfl) rfl rfl rfl (v := V.sl 2 (rws api_Timer.cells a0_4651)) (fun _ hz => (.fn rfl)) ?_
      refine DAny.take (i := 1) rfl (by kernel_rfl) [] (by kernel_rfl) (by kernel_rfl) (by kernel_rfl) rfl rfl rfl (v := V.int .i64 v13_4681) (fun _ hz => (.fn rfl)) ?_
      refine okG h (fun hb4684 h => ?_)
      refine DAny.take (i := 2) rfl (by kernel_rfl) [] (by kernel_rfl) (by kernel_rfl) (by kernel_rfl) rfl rfl rfl (v := V.spt 2 (rws api_Timer.cells a0_4651) (Int.toNat v13_4681) 0) (fun _ hz => (.idxSlM (f := api_Timer.cells) rfl rfl rfl rfl rfl hb4684)) ?_
      refine DAny.take (i := 3) rfl (by kernel_rfl) [] (by kernel_rfl) (by kernel_rfl) (by kernel_rfl) rfl rfl rfl (v := V.agg [V.int .i64 ((gt a0_4651 v13_4681).At), V.int .i64 ((gt a0_4651 v13_4681).Id)]) (fun _ hz => (.load rfl rfl (.sptM (f := api_Timer.cells) hb4684 rfl) rfl)) ?_
      refine DAny.take (i := 4) rfl (by kernel_rfl) [] (by kernel_rfl) (by kernel_rfl) (by kernel_rfl) rfl rfl rfl (v := V.sl 2 (rws api_Timer.cells a1_4652)) (fun _ hz => (.fn rfl)) ?_
      refine DAny.take (i := 5) rfl (by kernel_rfl) [] (by kernel_rfl) (by kernel_rfl) (by kernel_rfl) rfl rfl rfl (v := V.int .i64 v13_4681) (fun _ hz => (.fn rfl)) ?_
      refine okG h (fun hb4685 h => ?_)
      refine DAny.take (i := 6) rfl (by kernel_rfl) [] (by kernel_rfl) (by kernel_rfl) (by kernel_rfl) rfl rfl rfl (v := V.spt 2 (rws api_Timer.cells a1_4652) (Int.toNat v13_4681) 0) (fun _ hz => (.idxSlM (f := api_Timer.cells) rfl rfl rfl rfl rfl hb4685)) ?_
      refine DAny.take (i := 7) rfl (by kernel_rfl) [] (by kernel_rfl) (by kernel_rfl) (by kernel_rfl) rfl rfl rfl (v := V.agg [V.int .i64 ((gt a1_4652 v13_4681).At), V.int .i64 ((gt a1_4652 v13_4681).Id)]) (fun _ hz => (.load rfl rfl (.sptM (f := api_Timer.cells) hb4685 rfl) rfl)) ?_
      refine DAny.take (i := 8) rfl (by kernel_rfl) [] (by kernel_rfl) (by kernel_rfl) (by kernel_rfl) rfl rfl rfl (v := V.bool (!(api_Timer.beq (gt a0_4651 v13_4681) (gt a1_4652 v13_4681)))) (fun _ hz => (.neA rfl rfl rfl rfl okT24 rfl)) ?_
      refine DAny.nil (by kernel_rfl) ?_
      repeat (first | refine Safe.seq ?_ | refine Safe.skip ?_ | with_reducible refine thenQ.n ?_ | with_reducible refine blockQ.n ?_)
      refine ifG h (fun hc4686 h => ?_) (fun hc4686 h => ?_)
      · skip
        refine Safe.condK rfl hc4686 ?_
        repeat (first | refine Safe.seq ?_ | refine Safe.skip ?_ | with_reducible refine thenQ.n ?_ | with_reducible refine blockQ.n ?_)
        refine Safe.region ?_
        refine SafeOps.quiet0 E_good rfl rfl rfl (v := V.bool false) (.fn rfl) ?_
        refine SafeOps.nil ?_
        repeat (first | refine Safe.seq ?_ | refine Safe.skip ?_ | with_reducible refine thenQ.n ?_ | with_reducible refine blockQ.n ?_)
        refine Safe.ret ?_
        repeat (first | with_reducible refine thenQ.r ?_ | with_reducible refine blockQ.r ?_)
        replace h := inr_out h hr4682
        obtain rfl := Option.some.inj h
        exact retQ.gen (vs := [V.bool false]) rfl (.tmp (v := V.bool false) rfl .nil) (.free rfl) (by simp) (.inr rfl)
      · skip
        refine Safe.condN rfl hc4686 ?_
        repeat (first | refine Safe.seq ?_ | refine Safe.skip ?_ | with_reducible refine thenQ.n ?_ | with_reducible refine blockQ.n ?_)
        refine Safe.region ?_
        refine SafeOps.quiet0 E_good rfl rfl rfl (v := V.int .i64 (IntKind.i64.wrap (v13_4681 + 1))) (.fn rfl) ?_
        refine SafeOps.quiet0 E_good rfl rfl rfl (v := V.int .i64 (IntKind.i64.wrap (v13_4681 + 1))) (.fn rfl) ?_
        refine SafeOps.nil ?_
        repeat (first | refine Safe.seq ?_ | refine Safe.skip ?_ | with_reducible refine thenQ.n ?_ | with_reducible refine blockQ.n ?_)
        exact ⟨_, next_out h, (.cov ⟨rfl, rfl, (upT_cons (.refl _) (upT_cons (.refl _) (upT_cons (.refl _) (upT_cons (.refl _) upT_nil)))), upOb_nil, upOut_nil, rfl⟩)⟩
    · skip
      refine Safe.condN rfl hc4683 ?_
      repeat (first | refine Safe.seq ?_ | refine Safe.skip ?_ | with_reducible refine thenQ.n ?_ | with_reducible refine blockQ.n ?_)
      refine Safe.exit ?_
      repeat (first | with_reducible refine thenQ.e ?_ | with_reducible refine blockQ.x rfl ?_ | with_reducible refine blockQ.y rfl ?_)
      replace h := inr_out h hr4682
      repeat (first | refine Safe.seq ?_ | refine Safe.skip ?_ | with_reducible refine thenQ.n ?_ | with_reducible refine blockQ.n ?_)
      refine Safe.region ?_
      refine SafeOps.quiet0 E_good rfl rfl rfl (v := V.bool true) (.fn rfl) ?_
      refine SafeOps.nil ?_
      repeat (first | refine Safe.seq ?_ | refine Safe.skip ?_ | with_reducible refine thenQ.n ?_ | with_reducible refine blockQ.n ?_)
      refine Safe.ret ?_
      repeat (first | with_reducible refine thenQ.r ?_ | with_reducible refine blockQ.r ?_)
      obtain rfl := Option.some.inj h
      exact retQ.gen (vs := [V.bool true]) rfl (.tmp (v := V.bool true) rfl .nil) (.free rfl) (by simp) (.inr rfl)

noncomputable def go_heap_Same_s2 (a1_4617 : List api_Timer) (s_4703 : List api_Timer) : (Int × (List api_Timer)) → Option ((Int × (List api_Timer)) ⊕ (Bool))
  | (v7_4713, v10_7_4_20_4714) =>
    if (decide (v7_4713 < (a1_4617.length : Int))) = true then
      if 0 ≤ v7_4713 ∧ v7_4713 < (a1_4617.length : Int) then
        if few (v10_7_4_20_4714 ++ [(gt a1_4617 v7_4713)]).length then
          nextO (IntKind.i64.wrap (v7_4713 + 1), v10_7_4_20_4714 ++ [(gt a1_4617 v7_4713)])
        else none
      else none
    else
      inrO (
        (sortO go_heap_order v10_7_4_20_4714).bind fun s_4719 =>
        (go_slices_Equal_api_Timer_api_Timer s_4703 s_4719).bind fun x_4721 =>
        some x_4721)

noncomputable def go_heap_Same_s1 (a0_4616 : List api_Timer) (a1_4617 : List api_Timer) : (Int × (List api_Timer)) → Option ((Int × (List api_Timer)) ⊕ (Bool))
  | (v7_4697, v7_7_4_20_4698) =>
    if (decide (v7_4697 < (a0_4616.length : Int))) = true then
      if 0 ≤ v7_4697 ∧ v7_4697 < (a0_4616.length : Int) then
        if few (v7_7_4_20_4698 ++ [(gt a0_4616 v7_4697)]).length then
          nextO (IntKind.i64.wrap (v7_4697 + 1), v7_7_4_20_4698 ++ [(gt a0_4616 v7_4697)])
        else none
      else none
    else
      inrO (
        (sortO go_heap_order v7_7_4_20_4698).bind fun s_4703 =>
        whileO (go_heap_Same_s2 a1_4617 s_4703) (0, []))

noncomputable def go_heap_Same (a0_4616 : List api_Timer) (a1_4617 : List api_Timer) : Option Bool :=
  whileO (go_heap_Same_s1 a0_4616 a1_4617) (0, [])

theorem go_heap_Same_sc (a0_4616 : List api_Timer) (a1_4617 : List api_Timer) (r : Bool) (h : go_heap_Same a0_4616 a1_4617 = some r) : SC Try.prog gl 29 [V.sl 2 (rws api_Timer.cells a0_4616), V.sl 2 (rws api_Timer.cells a1_4617)] (V.bool r) := by
  rw [go_heap_Same] at h
  refine SC.of E_good Try.func29 rfl (fun _ _ => Try.call29 _ _) rfl ?_
  repeat (first | refine Safe.seq ?_ | refine Safe.skip ?_ | with_reducible refine thenQ.n ?_ | with_reducible refine blockQ.n ?_)
  refine Safe.region ?_
  refine SafeOps.quiet0 E_good rfl rfl rfl (v := V.bool false) (.fn rfl) ?_
  refine SafeOps.nil ?_
  repeat (first | refine Safe.seq ?_ | refine Safe.skip ?_ | with_reducible refine thenQ.n ?_ | with_reducible refine blockQ.n ?_)
  refine Safe.region ?_
  refine SafeOps.quiet0 E_good rfl rfl rfl (v := V.sl 2 (rws api_Timer.cells a0_4616)) (.fn rfl) ?_
  refine SafeOps.inline E_good rfl rfl rfl rfl rfl Try.func43 rfl (fun _ _ => Try.call43 _ _) rfl ?_
  repeat (first | refine Safe.seq ?_ | refine Safe.skip ?_ | with_reducible refine thenQ.n ?_ | with_reducible refine blockQ.n ?_)
  refine Safe.region ?_
  refine SafeOps.quiet1 E_good rfl rfl rfl (.box rfl rfl) rfl ?_
  refine SafeOps.quiet0 E_good rfl rfl rfl (v := V.nilf) (.fn rfl) ?_
  refine SafeOps.nil ?_
  repeat (first | refine Safe.seq ?_ | refine Safe.skip ?_ | with_reducible refine thenQ.n ?_ | with_reducible refine blockQ.n ?_)
  refine Safe.region ?_
  refine SafeOps.quiet0 E_good rfl rfl rfl (v := V.fn 51 [V.ptr [6, 1] 0 0]) (.fn rfl) ?_
  refine SafeOps.quiet0 E_good rfl rfl rfl (v := V.fn 51 [V.ptr [6, 1] 0 0]) (.fn rfl) ?_
  refine SafeOps.nil ?_
  repeat (first | refine Safe.seq ?_ | refine Safe.skip ?_ | with_reducible refine thenQ.n ?_ | with_reducible refine blockQ.n ?_)
  refine Safe.ret ?_
  repeat (first | with_reducible refine thenQ.r ?_ | with_reducible refine blockQ.r ?_)
  refine inQ.gen (vs := [V.fn 51 [V.ptr [6, 1] 0 0]]) (v := V.fn 51 [V.ptr [6, 1] 0 0]) (.inr rfl) rfl (.tmp (v := V.fn 51 [V.ptr [6, 1] 0 0]) rfl .nil) rfl ?_
  refine SafeOps.inline E_good rfl rfl rfl rfl rfl Try.func42 rfl (fun _ _ => Try.call42 _ _) rfl ?_
  repeat (first | refine Safe.seq ?_ | refine Safe.skip ?_ | with_reducible refine thenQ.n ?_ | with_reducible refine blockQ.n ?_)
  refine Safe.region ?_
  refine SafeOps.quiet0 E_good rfl rfl rfl (v := V.nils) (.fn rfl) ?_
  refine SafeOps.nil ?_
  repeat (first | refine Safe.seq ?_ | refine Safe.skip ?_ | with_reducible refine thenQ.n ?_ | with_reducible refine blockQ.n ?_)
  refine Safe.region ?_
  refine SafeOps.quiet0 E_good rfl rfl rfl (v := V.fn 51 [V.ptr [6, 1] 0 0]) (.fn rfl) ?_
  refine SafeOps.inline E_good rfl rfl rfl rfl rfl Try.func49 rfl (fun _ _ => Try.call49 _ _) rfl ?_
  repeat (first | refine Safe.seq ?_ | refine Safe.skip ?_ | with_reducible refine thenQ.n ?_ | with_reducible refine blockQ.n ?_)
  refine Safe.region ?_
  refine SafeOps.quiet0 E_good rfl rfl rfl (v := V.nils) (.fn rfl) ?_
  refine SafeOps.nil ?_
  repeat (first | refine Safe.seq ?_ | refine Safe.skip ?_ | with_reducible refine thenQ.n ?_ | with_reducible refine blockQ.n ?_)
  refine Safe.region ?_
  refine SafeOps.quiet0 E_good rfl rfl rfl (v := V.fn 51 [V.ptr [6, 1] 0 0]) (.fn rfl) ?_
  refine SafeOps.inline E_good rfl rfl rfl rfl rfl Try.func53 rfl (fun _ _ => Try.call53 _ _) rfl ?_
  repeat (first | refine Safe.seq ?_ | refine Safe.skip ?_ | with_reducible refine thenQ.n ?_ | with_reducible refine blockQ.n ?_)
  refine Safe.region ?_
  refine SafeOps.quiet1 E_good rfl rfl rfl (.box rfl rfl) rfl ?_
  refine SafeOps.quiet0 E_good rfl rfl rfl (v := V.nils) (.fn rfl) ?_
  refine SafeOps.nil ?_
  repeat (first | refine Safe.seq ?_ | refine Safe.skip ?_ | with_reducible refine thenQ.n ?_ | with_reducible refine blockQ.n ?_)
  refine Safe.region ?_
  refine SafeOps.quiet0 E_good rfl rfl rfl (v := V.fn 51 [V.ptr [6, 1] 0 0]) (.fn rfl) ?_
  refine SafeOps.nil ?_
  repeat (first | refine Safe.seq ?_ | refine Safe.skip ?_ | with_reducible refine thenQ.n ?_ | with_reducible refine blockQ.n ?_)
  refine Safe.block ?_
  repeat (first | refine Safe.seq ?_ | refine Safe.skip ?_ | with_reducible refine thenQ.n ?_ | with_reducible refine blockQ.n ?_)
  refine Safe.rangeFunc (k := 9007) rfl rfl Try.func51 rfl (fun _ _ => Try.call51 _ _) rfl rfl rfl ?_
  repeat (first | refine Safe.seq ?_ | refine Safe.skip ?_ | with_reducible refine thenQ.n ?_ | with_reducible refine blockQ.n ?_)
  refine Safe.region ?_
  refine SafeOps.quiet0 E_good rfl rfl rfl (v := V.sl 2 (rws api_Timer.cells a0_4616)) (.load rfl rfl (.box rfl rfl) rfl) ?_
  refine SafeOps.quiet0 E_good rfl rfl rfl (v := V.int .i64 (a0_4616.length : Int)) (.fnE rfl lenE) ?_
  refine SafeOps.quiet0 E_good rfl rfl rfl (v := V.int .i64 0) (.fn rfl) ?_
  refine SafeOps.nil ?_
  repeat (first | refine Safe.seq ?_ | refine Safe.skip ?_ | with_reducible refine thenQ.n ?_ | with_reducible refine blockQ.n ?_)
  refine Safe.block ?_
  repeat (first | refine Safe.seq ?_ | refine Safe.skip ?_ | with_reducible refine thenQ.n ?_ | with_reducible refine blockQ.n ?_)
  refine Safe.loopW (fun ((v7_4697, v7_7_4_20_4698) : Int × (List api_Timer)) => ⟨Try.f51.ntmps, [(0, V.yld [7, 7, 4, 9007]), (5, V.sl 2 (rws api_Timer.cells a0_4616)), (6, V.int .i64 (a0_4616.length : Int)), (7, V.int .i64 v7_4697)], [([7, 7, 4, 2], Obj.box [V.ref [7000, 114, 7, 7, 4, 2, 0] 0 (rws api_Timer.cells v7_7_4_20_4698).length]), ([7, 7, 4, 9007], Go.AM.Obj.loop Try.f53.ntmps [(2, V.ptr [7, 7, 4, 2] 0 0)] [7] (rfA Try.f53 0) (rfB Try.f53 0) .ready none), ([7000, 114, 7, 7, 4, 2, 0], Obj.rows 2 (rws api_Timer.cells v7_7_4_20_4698) false)], [(1, [(0, V.yld [7, 7, 4, 9007])]), (Try.f53.ntmps, [(2, V.ptr [7, 7, 4, 2] 0 0)]), (Try.f49.ntmps, []), (Try.f42.ntmps, [(1, V.fn 41 [])]), (Try.f29.ntmps, [(1, V.sl 2 (rws api_Timer.cells a1_4617))])], [7, 7, 4, 9007, 0]⟩) h (.empty [7000, 114, 7, 7, 4, 2, 0] 2 rfl (.cov ⟨rfl, rfl, (upT_cons (.refl _) (upT_cons (.refl _) (upT_cons (.refl _) (upT_cons (.refl _) upT_nil)))), (upOb_cons rfl (.box (.cons (.nilref _) .nil)) (upOb_cons rfl (by exact .loop (upT_cons (.refl _) upT_nil)) (upOb_cons rfl (.refl _) upOb_nil))), (upOut_cons rfl (upT_cons (.refl _) upT_nil) (upOut_cons rfl (upT_cons (.refl _) upT_nil) (upOut_cons rfl upT_nil (upOut_cons rfl (upT_cons (.refl _) upT_nil) (upOut_cons rfl (upT_cons (.refl _) upT_nil) upOut_nil))))), rfl⟩)) ?_
  rintro ⟨v7_4697, v7_7_4_20_4698⟩ ohr4699 h hr4699
  replace h : go_heap_Same_s1 a0_4616 a1_4617 (v7_4697, v7_7_4_20_4698) = some ohr4699 := h
  rw [go_heap_Same_s1] at h
  repeat (first | refine Safe.seq ?_ | refine Safe.skip ?_ | with_reducible refine thenQ.n ?_ | with_reducible refine blockQ.n ?_)
  refine Safe.region ?_
  refine SafeOps.quiet0 E_good rfl rfl rfl (v := V.bool (decide (v7_4697 < (a0_4616.length : Int)))) (.fn rfl) ?_
  refine SafeOps.nil ?_
  repeat (first | refine Safe.seq ?_ | refine Safe.skip ?_ | with_reducible refine thenQ.n ?_ | with_reducible refine blockQ.n ?_)
  refine ifG h (fun hc4700 h => ?_) (fun hc4700 h => ?_)
  · skip
    refine Safe.condK rfl hc4700 ?_
    repeat (first | refine Safe.seq ?_ | refine Safe.skip ?_ | with_reducible refine thenQ.n ?_ | with_reducible refine blockQ.n ?_)
    refine Safe.block ?_
    repeat (first | refine Safe.seq ?_ | refine Safe.skip ?_ | with_reducible refine thenQ.n ?_ | with_reducible refine blockQ.n ?_)
    refine Safe.region ?_
    refine okG h (fun hb4701 h => ?_)
    refine SafeOps.quiet0 E_good rfl rfl rfl (v := V.spt 2 (rws api_Timer.cells a0_4616) (Int.toNat v7_4697) 0) (.idxSlM (f := api_Timer.cells) rfl rfl rfl rfl rfl hb4701) ?_
    refine SafeOps.quiet0 E_good rfl rfl rfl (v := V.agg [V.int .i64 ((gt a0_4616 v7_4697).At), V.int .i64 ((gt a0_4616 v7_4697).Id)]) (.load rfl rfl (.sptM (f := api_Timer.cells) hb4701 rfl) rfl) ?_
    refine SafeOps.quiet1 E_good rfl rfl rfl (.alloc rfl rfl) rfl ?_
    refine SafeOps.store (z := Obj.box [V.int .i64 ((gt a0_4616 v7_4697).At), V.int .i64 ((gt a0_4616 v7_4697).Id)]) E_good rfl rfl rfl rfl rfl rfl rfl (.boxM (c := 2) rfl rfl (Nat.le_of_ble_eq_true rfl) rfl) ?_
    refine SafeOps.nil ?_
    repeat (first | refine Safe.seq ?_ | refine Safe.skip ?_ | with_reducible refine thenQ.n ?_ | with_reducible refine blockQ.n ?_)
    refine Safe.region ?_
    refine SafeOps.quiet0 E_good rfl rfl rfl (v := V.yld [7, 7, 4, 9007]) (.fn rfl) ?_
    refine SafeOps.quiet0 E_good rfl rfl rfl (v := V.agg [V.int .i64 ((gt a0_4616 v7_4697).At), V.int .i64 ((gt a0_4616 v7_4697).Id)]) (.load rfl rfl (.box rfl rfl) rfl) ?_
    refine SafeOps.yield rfl rfl rfl rfl rfl rfl rfl rfl ?_
    repeat (first | refine Safe.seq ?_ | refine Safe.skip ?_ | with_reducible refine thenQ.n ?_ | with_reducible refine blockQ.n ?_)
    refine Safe.region ?_
    refine SafeOps.quiet1 E_good rfl rfl rfl (.alloc rfl rfl) rfl ?_
    refine SafeOps.store (z := Obj.box [V.int .i64 ((gt a0_4616 v7_4697).At), V.int .i64 ((gt a0_4616 v7_4697).Id)]) E_good rfl rfl rfl rfl rfl rfl rfl (.boxM (c := 2) rfl rfl (Nat.le_of_ble_eq_true rfl) rfl) ?_
    refine SafeOps.nil ?_
    repeat (first | refine Safe.seq ?_ | refine Safe.skip ?_ | with_reducible refine thenQ.n ?_ | with_reducible refine blockQ.n ?_)
    refine asgQ.go rfl rfl ?_
    repeat (first | refine Safe.seq ?_ | refine Safe.skip ?_ | with_reducible refine thenQ.n ?_ | with_reducible refine blockQ.n ?_)
    refine Safe.block ?_
    repeat (first | refine Safe.seq ?_ | refine Safe.skip ?_ | with_reducible refine thenQ.n ?_ | with_reducible refine blockQ.n ?_)
    refine Safe.region ?_
    refine SafeOps.quiet0 E_good rfl rfl rfl (v := V.ref [7000, 114, 7, 7, 4, 2, 0] 0 (rws api_Timer.cells v7_7_4_20_4698).length) (.load rfl rfl (.box rfl rfl) rfl) ?_
    refine SafeOps.quiet0 E_good rfl rfl rfl (v := V.agg [V.int .i64 ((gt a0_4616 v7_4697).At), V.int .i64 ((gt a0_4616 v7_4697).Id)]) (.load rfl rfl (.box rfl rfl) rfl) ?_
    refine SafeOps.quiet1 E_good rfl rfl rfl (.litM (f := api_Timer.cells) (xs := [(gt a0_4616 v7_4697)]) rfl rfl (by decide) rfl rfl rfl rfl rfl) rfl ?_
    refine okG h (fun hb4702 h => ?_)
    refine SafeOps.appendM api_Timer.cells (xs := v7_7_4_20_4698) (ys := [(gt a0_4616 v7_4697)]) E_good rfl rfl rfl rfl rfl rfl rfl rfl rfl (.own rfl) (.own rfl) (fun _ => rfl) hb4702 ?_
    refine SafeOps.store (z := Obj.box [V.ref [7, 7, 4, 9007, 0, 13, 11] 0 (rws api_Timer.cells (v7_7_4_20_4698 ++ [(gt a0_4616 v7_4697)])).length]) E_good rfl rfl rfl rfl rfl rfl rfl (.boxM (c := 1) rfl rfl (Nat.le_of_ble_eq_true rfl) rfl) ?_
    refine SafeOps.nil ?_
    repeat (first | refine Safe.seq ?_ | refine Safe.skip ?_ | with_reducible refine thenQ.n ?_ | with_reducible refine blockQ.n ?_)
    refine roundQ.go rfl rfl rfl rfl rfl ?_
    refine SafeOps.quiet0 E_good rfl rfl rfl (v := V.bool false) (.fn rfl) ?_
    refine SafeOps.nil ?_
    repeat (first | refine Safe.seq ?_ | refine Safe.skip ?_ | with_reducible refine thenQ.n ?_ | with_reducible refine blockQ.n ?_)
    refine Safe.condN rfl rfl ?_
    repeat (first | refine Safe.seq ?_ | refine Safe.skip ?_ | with_reducible refine thenQ.n ?_ | with_reducible refine blockQ.n ?_)
    refine Safe.region ?_
    refine SafeOps.quiet0 E_good rfl rfl rfl (v := V.int .i64 (IntKind.i64.wrap (v7_4697 + 1))) (.fn rfl) ?_
    refine SafeOps.quiet0 E_good rfl rfl rfl (v := V.int .i64 (IntKind.i64.wrap (v7_4697 + 1))) (.fn rfl) ?_
    refine SafeOps.nil ?_
    repeat (first | refine Safe.seq ?_ | refine Safe.skip ?_ | with_reducible refine thenQ.n ?_ | with_reducible refine blockQ.n ?_)
    exact ⟨_, next_out h, (.ren [7, 7, 4, 9007, 0, 13, 11] [7000, 114, 7, 7, 4, 2, 0] (.cov ⟨rfl, rfl, (upT_cons (.refl _) (upT_cons (.refl _) (upT_cons (.refl _) (upT_cons (.refl _) upT_nil)))), (upOb_cons rfl (.refl _) (upOb_cons rfl (by exact .loop (upT_cons (.refl _) upT_nil)) (upOb_cons rfl (.refl _) upOb_nil))), (upOut_cons rfl (upT_cons (.refl _) upT_nil) (upOut_cons rfl (upT_cons (.refl _) upT_nil) (upOut_cons rfl upT_nil (upOut_cons rfl (upT_cons (.refl _) upT_nil) (upOut_cons rfl (upT_cons (.refl _) upT_nil) upOut_nil))))), rfl⟩))⟩
  · skip
    refine Safe.condN rfl hc4700 ?_
    repeat (first | refine Safe.seq ?_ | refine Safe.skip ?_ | with_reducible refine thenQ.n ?_ | with_reducible refine blockQ.n ?_)
    refine Safe.exit ?_
    repeat (first | with_reducible refine thenQ.e ?_ | with_reducible refine blockQ.x rfl ?_ | with_reducible refine blockQ.y rfl ?_)
    replace h := inr_out h hr4699
    repeat (first | refine Safe.seq ?_ | refine Safe.skip ?_ | with_reducible refine thenQ.n ?_ | with_reducible refine blockQ.n ?_)
    refine rfQ.n (.inl rfl) rfl rfl (fun hbusy => by cases hbusy) ?_
    repeat (first | refine Safe.seq ?_ | refine Safe.skip ?_ | with_reducible refine thenQ.n ?_ | with_reducible refine blockQ.n ?_)
    refine Safe.region ?_
    refine SafeOps.quiet0 E_good rfl rfl rfl (v := V.ref [7000, 114, 7, 7, 4, 2, 0] 0 (rws api_Timer.cells v7_7_4_20_4698).length) (.load rfl rfl (.box rfl rfl) rfl) ?_
    refine SafeOps.quiet0 E_good rfl rfl rfl (v := V.ref [7000, 114, 7, 7, 4, 2, 0] 0 (rws api_Timer.cells v7_7_4_20_4698).length) (.fn rfl) ?_
    refine SafeOps.nil ?_
    repeat (first | refine Safe.seq ?_ | refine Safe.skip ?_ | with_reducible refine thenQ.n ?_ | with_reducible refine blockQ.n ?_)
    refine Safe.ret ?_
    repeat (first | with_reducible refine thenQ.r ?_ | with_reducible refine blockQ.r ?_)
    refine inQ.gen (vs := [V.ref [7000, 114, 7, 7, 4, 2, 0] 0 (rws api_Timer.cells v7_7_4_20_4698).length]) (v := V.ref [7000, 114, 7, 7, 4, 2, 0] 0 (rws api_Timer.cells v7_7_4_20_4698).length) (.inr rfl) rfl (.tmp (v := V.ref [7000, 114, 7, 7, 4, 2, 0] 0 (rws api_Timer.cells v7_7_4_20_4698).length) rfl .nil) rfl ?_
    refine SafeOps.quiet0 E_good rfl rfl rfl (v := V.ref [7000, 114, 7, 7, 4, 2, 0] 0 (rws api_Timer.cells v7_7_4_20_4698).length) (.fn rfl) ?_
    refine SafeOps.nil ?_
    repeat (first | refine Safe.seq ?_ | refine Safe.skip ?_ | with_reducible refine thenQ.n ?_ | with_reducible refine blockQ.n ?_)
    refine Safe.ret ?_
    repeat (first | with_reducible refine thenQ.r ?_ | with_reducible refine blockQ.r ?_)
    refine inQ.gen (vs := [V.ref [7000, 114, 7, 7, 4, 2, 0] 0 (rws api_Timer.cells v7_7_4_20_4698).length]) (v := V.ref [7000, 114, 7, 7, 4, 2, 0] 0 (rws api_Timer.cells v7_7_4_20_4698).length) (.inr rfl) rfl (.tmp (v := V.ref [7000, 114, 7, 7, 4, 2, 0] 0 (rws api_Timer.cells v7_7_4_20_4698).length) rfl .nil) rfl ?_
    refine SafeOps.quiet0 E_good rfl rfl rfl (v := V.ref [7000, 114, 7, 7, 4, 2, 0] 0 (rws api_Timer.cells v7_7_4_20_4698).length) (.fn rfl) ?_
    refine SafeOps.nil ?_
    repeat (first | refine Safe.seq ?_ | refine Safe.skip ?_ | with_reducible refine thenQ.n ?_ | with_reducible refine blockQ.n ?_)
    refine Safe.region ?_
    refine SafeOps.quiet0 E_good rfl rfl rfl (v := V.ref [7000, 114, 7, 7, 4, 2, 0] 0 (rws api_Timer.cells v7_7_4_20_4698).length) (.fn rfl) ?_
    refine SafeOps.quiet0 E_good rfl rfl rfl (v := V.fn 41 []) (.fn rfl) ?_
    refine bindG h ?_
    intro s_4703 he4704 h
    refine SafeOps.sort api_Timer.cells E_good sortL50 rfl rfl rfl rfl rfl rfl rfl rfl rfl rfl rfl rfl rfl (fun _ => rfl) (fun _ => rfl) (fun _ _ => Try.call41 _ _) (fun a b v hv => go_heap_order_sc a b v hv) he4704 ?_
    refine SafeOps.see 7 (u := V.ref [7000, 114, 7, 7, 4, 2, 0] 0 (rws api_Timer.cells s_4703).length) rfl (.len (by rw [rws_len, rws_len]; first | exact sortO_len he4704 | exact (sortO_len he4704).symm)) ?_
    refine SafeOps.see 5 (u := V.ref [7000, 114, 7, 7, 4, 2, 0] 0 (rws api_Timer.cells s_4703).length) rfl (.len (by rw [rws_len, rws_len]; first | exact sortO_len he4704 | exact (sortO_len he4704).symm)) ?_
    refine SafeOps.see 8 (u := V.ref [7000, 114, 7, 7, 4, 2, 0] 0 (rws api_Timer.cells s_4703).length) rfl (.len (by rw [rws_len, rws_len]; first | exact sortO_len he4704 | exact (sortO_len he4704).symm)) ?_
    refine SafeOps.nil ?_
    repeat (first | refine Safe.seq ?_ | refine Safe.skip ?_ | with_reducible refine thenQ.n ?_ | with_reducible refine blockQ.n ?_)
    refine Safe.region ?_
    refine SafeOps.quiet0 E_good rfl rfl rfl (v := V.ref [7000, 114, 7, 7, 4, 2, 0] 0 (rws api_Timer.cells s_4703).length) (.fn rfl) ?_
    refine SafeOps.quiet0 E_good rfl rfl rfl (v := V.ref [7000, 114, 7, 7, 4, 2, 0] 0 (rws api_Timer.cells s_4703).length) (.fn rfl) ?_
    refine SafeOps.nil ?_
    repeat (first | refine Safe.seq ?_ | refine Safe.skip ?_ | with_reducible refine thenQ.n ?_ | with_reducible refine blockQ.n ?_)
    refine Safe.ret ?_
    repeat (first | with_reducible refine thenQ.r ?_ | with_reducible refine blockQ.r ?_)
    refine inQ.gen (vs := [V.ref [7000, 114, 7, 7, 4, 2, 0] 0 (rws api_Timer.cells s_4703).length]) (v := V.ref [7000, 114, 7, 7, 4, 2, 0] 0 (rws api_Timer.cells s_4703).length) (.inr rfl) rfl (.tmp (v := V.ref [7000, 114, 7, 7, 4, 2, 0] 0 (rws api_Timer.cells s_4703).length) rfl .nil) rfl ?_
    refine SafeOps.quiet0 E_good rfl rfl rfl (v := V.sl 2 (rws api_Timer.cells a1_4617)) (.fn rfl) ?_
    refine SafeOps.inline E_good rfl rfl rfl rfl rfl Try.func43 rfl (fun _ _ => Try.call43 _ _) rfl ?_
    repeat (first | refine Safe.seq ?_ | refine Safe.skip ?_ | with_reducible refine thenQ.n ?_ | with_reducible refine blockQ.n ?_)
    refine Safe.region ?_
    refine SafeOps.quiet1 E_good rfl rfl rfl (.box rfl rfl) rfl ?_
    refine SafeOps.quiet0 E_good rfl rfl rfl (v := V.nilf) (.fn rfl) ?_
    refine SafeOps.nil ?_
    repeat (first | refine Safe.seq ?_ | refine Safe.skip ?_ | with_reducible refine thenQ.n ?_ | with_reducible refine blockQ.n ?_)
    refine Safe.region ?_
    refine SafeOps.quiet0 E_good rfl rfl rfl (v := V.fn 51 [V.ptr [9, 1] 0 0]) (.fn rfl) ?_
    refine SafeOps.quiet0 E_good rfl rfl rfl (v := V.fn 51 [V.ptr [9, 1] 0 0]) (.fn rfl) ?_
    refine SafeOps.nil ?_
    repeat (first | refine Safe.seq ?_ | refine Safe.skip ?_ | with_reducible refine thenQ.n ?_ | with_reducible refine blockQ.n ?_)
    refine Safe.ret ?_
    repeat (first | with_reducible refine thenQ.r ?_ | with_reducible refine blockQ.r ?_)
    refine inQ.gen (vs := [V.fn 51 [V.ptr [9, 1] 0 0]]) (v := V.fn 51 [V.ptr [9, 1] 0 0]) (.inr rfl) rfl (.tmp (v := V.fn 51 [V.ptr [9, 1] 0 0]) rfl .nil) rfl ?_
    refine SafeOps.inline E_good rfl rfl rfl rfl rfl Try.func42 rfl (fun _ _ => Try.call42 _ _) rfl ?_
    repeat (first | refine Safe.seq ?_ | refine Safe.skip ?_ | with_reducible refine thenQ.n ?_ | with_reducible refine blockQ.n ?_)
    refine Safe.region ?_
    refine SafeOps.quiet0 E_good rfl rfl rfl (v := V.nils) (.fn rfl) ?_
    refine SafeOps.nil ?_
    repeat (first | refine Safe.seq ?_ | refine Safe.skip ?_ | with_reducible refine thenQ.n ?_ | with_reducible refine blockQ.n ?_)
    refine Safe.region ?_
    refine SafeOps.quiet0 E_good rfl rfl rfl (v := V.fn 51 [V.ptr [9, 1] 0 0]) (.fn rfl) ?_
    refine SafeOps.inline E_good rfl rfl rfl rfl rfl Try.func49 rfl (fun _ _ => Try.call49 _ _) rfl ?_
    repeat (first | refine Safe.seq ?_ | refine Safe.skip ?_ | with_reducible refine thenQ.n ?_ | with_reducible refine blockQ.n ?_)
    refine Safe.region ?_
    refine SafeOps.quiet0 E_good rfl rfl rfl (v := V.nils) (.fn rfl) ?_
    refine SafeOps.nil ?_
    repeat (first | refine Safe.seq ?_ | refine Safe.skip ?_ | with_reducible refine thenQ.n ?_ | with_reducible refine blockQ.n ?_)
    refine Safe.region ?_
    refine SafeOps.quiet0 E_good rfl rfl rfl (v := V.fn 51 [V.ptr [9, 1] 0 0]) (.fn rfl) ?_
    refine SafeOps.inline E_good rfl rfl rfl rfl rfl Try.func53 rfl (fun _ _ => Try.call53 _ _) rfl ?_
    repeat (first | refine Safe.seq ?_ | refine Safe.skip ?_ | with_reducible refine thenQ.n ?_ | with_reducible refine blockQ.n ?_)
    refine Safe.region ?_
    refine SafeOps.quiet1 E_good rfl rfl rfl (.box rfl rfl) rfl ?_
    refine SafeOps.quiet0 E_good rfl rfl rfl (v := V.nils) (.fn rfl) ?_
    refine SafeOps.nil ?_
    repeat (first | refine Safe.seq ?_ | refine Safe.skip ?_ | with_reducible refine thenQ.n ?_ | with_reducible refine blockQ.n ?_)
    refine Safe.region ?_
    refine SafeOps.quiet0 E_good rfl rfl rfl (v := V.fn 51 [V.ptr [9, 1] 0 0]) (.fn rfl) ?_
    refine SafeOps.nil ?_
    repeat (first | refine Safe.seq ?_ | refine Safe.skip ?_ | with_reducible refine thenQ.n ?_ | with_reducible refine blockQ.n ?_)
    refine Safe.block ?_
    repeat (first | refine Safe.seq ?_ | refine Safe.skip ?_ | with_reducible refine thenQ.n ?_ | with_reducible refine blockQ.n ?_)
    refine Safe.rangeFunc (k := 9007) rfl rfl Try.func51 rfl (fun _ _ => Try.call51 _ _) rfl rfl rfl ?_
    repeat (first | refine Safe.seq ?_ | refine Safe.skip ?_ | with_reducible refine thenQ.n ?_ | with_reducible refine blockQ.n ?_)
    refine Safe.region ?_
    refine SafeOps.quiet0 E_good rfl rfl rfl (v := V.sl 2 (rws api_Timer.cells a1_4617)) (.load rfl rfl (.box rfl rfl) rfl) ?_
    refine SafeOps.quiet0 E_good rfl rfl rfl (v := V.int .i64 (a1_4617.length : Int)) (.fnE rfl lenE) ?_
    refine SafeOps.quiet0 E_good rfl rfl rfl (v := V.int .i64 0) (.fn rfl) ?_
    refine SafeOps.nil ?_
    repeat (first | refine Safe.seq ?_ | refine Safe.skip ?_ | with_reducible refine thenQ.n ?_ | with_reducible refine blockQ.n ?_)
    refine Safe.block ?_
    repeat (first | refine Safe.seq ?_ | refine Safe.skip ?_ | with_reducible refine thenQ.n ?_ | with_reducible refine blockQ.n ?_)
    refine Safe.loopW (fun ((v7_4713, v10_7_4_20_4714) : Int × (List api_Timer)) => ⟨Try.f51.ntmps, [(0, V.yld [10, 7, 4, 9007]), (5, V.sl 2 (rws api_Timer.cells a1_4617)), (6, V.int .i64 (a1_4617.length : Int)), (7, V.int .i64 v7_4713)], [([10, 7, 4, 2], Obj.box [V.ref [7000, 114, 10, 7, 4, 2, 0] 0 (rws api_Timer.cells v10_7_4_20_4714).length]), ([10, 7, 4, 9007], Go.AM.Obj.loop Try.f53.ntmps [(2, V.ptr [10, 7, 4, 2] 0 0)] [7] (rfA Try.f53 0) (rfB Try.f53 0) .ready none), ([7000, 114, 7, 7, 4, 2, 0], Obj.rows 2 (rws api_Timer.cells s_4703) false), ([7000, 114, 10, 7, 4, 2, 0], Obj.rows 2 (rws api_Timer.cells v10_7_4_20_4714) false)], [(1, [(0, V.yld [10, 7, 4, 9007])]), (Try.f53.ntmps, [(2, V.ptr [10, 7, 4, 2] 0 0)]), (Try.f49.ntmps, []), (Try.f42.ntmps, [(1, V.fn 41 [])]), (Try.f29.ntmps, [(7, V.ref [7000, 114, 7, 7, 4, 2, 0] 0 (rws api_Timer.cells s_4703).length)])], [10, 7, 4, 9007, 0]⟩) h (.empty [7000, 114, 10, 7, 4, 2, 0] 2 rfl (.cov ⟨rfl, rfl, (upT_cons (.refl _) (upT_cons (.refl _) (upT_cons (.refl _) (upT_cons (.refl _) upT_nil)))), (upOb_cons rfl (.box (.cons (.nilref _) .nil)) (upOb_cons rfl (by exact .loop (upT_cons (.refl _) upT_nil)) (upOb_cons rfl (.refl _) (upOb_cons rfl (.refl _) upOb_nil)))), (upOut_cons rfl (upT_cons (.refl _) upT_nil) (upOut_cons rfl (upT_cons (.refl _) upT_nil) (upOut_cons rfl upT_nil (upOut_cons rfl (upT_cons (.refl _) upT_nil) (upOut_cons rfl (upT_cons (.refl _) upT_nil) upOut_nil))))), rfl⟩)) ?_
    rintro ⟨v7_4713, v10_7_4_20_4714⟩ ohr4715 h hr4715
    replace h : go_heap_Same_s2 a1_4617 s_4703 (v7_4713, v10_7_4_20_4714) = some ohr4715 := h
    rw [go_heap_Same_s2] at h
    repeat (first | refine Safe.seq ?_ | refine Safe.skip ?_ | with_reducible refine thenQ.n ?_ | with_reducible refine blockQ.n ?_)
    refine Safe.region ?_
    refine SafeOps.quiet0 E_good rfl rfl rfl (v := V.bool (decide (v7_4713 < (a1_4617.length : Int)))) (.fn rfl) ?_
    refine SafeOps.nil ?_
    repeat (first | refine Safe.seq ?_ | refine Safe.skip ?_ | with_reducible refine thenQ.n ?_ | with_reducible refine blockQ.n ?_)
    refine ifG h (fun hc4716 h => ?_) (fun hc4716 h => ?_)
    · skip
      refine Safe.condK rfl hc4716 ?_
      repeat (first | refine Safe.seq ?_ | refine Safe.skip ?_ | with_reducible refine thenQ.n ?_ | with_reducible refine blockQ.n ?_)
      refine Safe.block ?_
      repeat (first | refine Safe.seq ?_ | refine Safe.skip ?_ | with_reducible refine thenQ.n ?_ | with_reducible refine blockQ.n ?_)
      refine Safe.region ?_
      refine okG h (fun hb4717 h => ?_)
      refine SafeOps.quiet0 E_good rfl rfl rfl (v := V.spt 2 (rws api_Timer.cells a1_4617) (Int.toNat v7_4713) 0) (.idxSlM (f := api_Timer.cells) rfl rfl rfl rfl rfl hb4717) ?_
      refine SafeOps.quiet0 E_good rfl rfl rfl (v := V.agg [V.int .i64 ((gt a1_4617 v7_4713).At), V.int .i64 ((gt a1_4617 v7_4713).Id)]) (.load rfl rfl (.sptM (f := api_Timer.cells) hb4717 rfl) rfl) ?_
      refine SafeOps.quiet1 E_good rfl rfl rfl (.alloc rfl rfl) rfl ?_
      refine SafeOps.store (z := Obj.box [V.int .i64 ((gt a1_4617 v7_4713).At), V.int .i64 ((gt a1_4617 v7_4713).Id)]) E_good rfl rfl rfl rfl rfl rfl rfl (.boxM (c := 2) rfl rfl (Nat.le_of_ble_eq_true rfl) rfl) ?_
      refine SafeOps.nil ?_
      repeat (first | refine Safe.seq ?_ | refine Safe.skip ?_ | with_reducible refine thenQ.n ?_ | with_reducible refine blockQ.n ?_)
      refine Safe.region ?_
      refine SafeOps.quiet0 E_good rfl rfl rfl (v := V.yld [10, 7, 4, 9007]) (.fn rfl) ?_
      refine SafeOps.quiet0 E_good rfl rfl rfl (v := V.agg [V.int .i64 ((gt a1_4617 v7_4713).At), V.int .i64 ((gt a1_4617 v7_4713).Id)]) (.load rfl rfl (.box rfl rfl) rfl) ?_
      refine SafeOps.yield rfl rfl rfl rfl rfl rfl rfl rfl ?_
      repeat (first | refine Safe.seq ?_ | refine Safe.skip ?_ | with_reducible refine thenQ.n ?_ | with_reducible refine blockQ.n ?_)
      refine Safe.region ?_
      refine SafeOps.quiet1 E_good rfl rfl rfl (.alloc rfl rfl) rfl ?_
      refine SafeOps.store (z := Obj.box [V.int .i64 ((gt a1_4617 v7_4713).At), V.int .i64 ((gt a1_4617 v7_4713).Id)]) E_good rfl rfl rfl rfl rfl rfl rfl (.boxM (c := 2) rfl rfl (Nat.le_of_ble_eq_true rfl) rfl) ?_
      refine SafeOps.nil ?_
      repeat (first | refine Safe.seq ?_ | refine Safe.skip ?_ | with_reducible refine thenQ.n ?_ | with_reducible refine blockQ.n ?_)
      refine asgQ.go rfl rfl ?_
      repeat (first | refine Safe.seq ?_ | refine Safe.skip ?_ | with_reducible refine thenQ.n ?_ | with_reducible refine blockQ.n ?_)
      refine Safe.block ?_
      repeat (first | refine Safe.seq ?_ | refine Safe.skip ?_ | with_reducible refine thenQ.n ?_ | with_reducible refine blockQ.n ?_)
      refine Safe.region ?_
      refine SafeOps.quiet0 E_good rfl rfl rfl (v := V.ref [7000, 114, 10, 7, 4, 2, 0] 0 (rws api_Timer.cells v10_7_4_20_4714).length) (.load rfl rfl (.box rfl rfl) rfl) ?_
      refine SafeOps.quiet0 E_good rfl rfl rfl (v := V.agg [V.int .i64 ((gt a1_4617 v7_4713).At), V.int .i64 ((gt a1_4617 v7_4713).Id)]) (.load rfl rfl (.box rfl rfl) rfl) ?_
      refine SafeOps.quiet1 E_good rfl rfl rfl (.litM (f := api_Timer.cells) (xs := [(gt a1_4617 v7_4713)]) rfl rfl (by decide) rfl rfl rfl rfl rfl) rfl ?_
      refine okG h (fun hb4718 h => ?_)
      refine SafeOps.appendM api_Timer.cells (xs := v10_7_4_20_4714) (ys := [(gt a1_4617 v7_4713)]) E_good rfl rfl rfl rfl rfl rfl rfl rfl rfl (.own rfl) (.own rfl) (fun _ => rfl) hb4718 ?_
      refine SafeOps.store (z := Obj.box [V.ref [10, 7, 4, 9007, 0, 13, 11] 0 (rws api_Timer.cells (v10_7_4_20_4714 ++ [(gt a1_4617 v7_4713)])).length]) E_good rfl rfl rfl rfl rfl rfl rfl (.boxM (c := 1) rfl rfl (Nat.le_of_ble_eq_true rfl) rfl) ?_
      refine SafeOps.nil ?_
      repeat (first | refine Safe.seq ?_ | refine Safe.skip ?_ | with_reducible refine thenQ.n ?_ | with_reducible refine blockQ.n ?_)
      refine roundQ.go rfl rfl rfl rfl rfl ?_
      refine SafeOps.quiet0 E_good rfl rfl rfl (v := V.bool false) (.fn rfl) ?_
      refine SafeOps.nil ?_
      repeat (first | refine Safe.seq ?_ | refine Safe.skip ?_ | with_reducible refine thenQ.n ?_ | with_reducible refine blockQ.n ?_)
      refine Safe.condN rfl rfl ?_
      repeat (first | refine Safe.seq ?_ | refine Safe.skip ?_ | with_reducible refine thenQ.n ?_ | with_reducible refine blockQ.n ?_)
      refine Safe.region ?_
      refine SafeOps.quiet0 E_good rfl rfl rfl (v := V.int .i64 (IntKind.i64.wrap (v7_4713 + 1))) (.fn rfl) ?_
      refine SafeOps.quiet0 E_good rfl rfl rfl (v := V.int .i64 (IntKind.i64.wrap (v7_4713 + 1))) (.fn rfl) ?_
      refine SafeOps.nil ?_
      repeat (first | refine Safe.seq ?_ | refine Safe.skip ?_ | with_reducible refine thenQ.n ?_ | with_reducible refine blockQ.n ?_)
      exact ⟨_, next_out h, (.ren [10, 7, 4, 9007, 0, 13, 11] [7000, 114, 10, 7, 4, 2, 0] (.cov ⟨rfl, rfl, (upT_cons (.refl _) (upT_cons (.refl _) (upT_cons (.refl _) (upT_cons (.refl _) upT_nil)))), (upOb_cons rfl (.refl _) (upOb_cons rfl (by exact .loop (upT_cons (.refl _) upT_nil)) (upOb_cons rfl (.refl _) (upOb_cons rfl (.refl _) upOb_nil)))), (upOut_cons rfl (upT_cons (.refl _) upT_nil) (upOut_cons rfl (upT_cons (.refl _) upT_nil) (upOut_cons rfl upT_nil (upOut_cons rfl (upT_cons (.refl _) upT_nil) (upOut_cons rfl (upT_cons (.refl _) upT_nil) upOut_nil))))), rfl⟩))⟩
    · skip
      refine Safe.condN rfl hc4716 ?_
      repeat (first | refine Safe.seq ?_ | refine Safe.skip ?_ | with_reducible refine thenQ.n ?_ | with_reducible refine blockQ.n ?_)
      refine Safe.exit ?_
      repeat (first | with_reducible refine thenQ.e ?_ | with_reducible refine blockQ.x rfl ?_ | with_reducible refine blockQ.y rfl ?_)
      replace h := inr_out h hr4715
      repeat (first | refine Safe.seq ?_ | refine Safe.skip ?_ | with_reducible refine thenQ.n ?_ | with_reducible refine blockQ.n ?_)
      refine rfQ.n (.inl rfl) rfl rfl (fun hbusy => by cases hbusy) ?_
      repeat (first | refine Safe.seq ?_ | refine Safe.skip ?_ | with_reducible refine thenQ.n ?_ | with_reducible refine blockQ.n ?_)
      refine Safe.region ?_
      refine SafeOps.quiet0 E_good rfl rfl rfl (v := V.ref [7000, 114, 10, 7, 4, 2, 0] 0 (rws api_Timer.cells v10_7_4_20_4714).length) (.load rfl rfl (.box rfl rfl) rfl) ?_
      refine SafeOps.quiet0 E_good rfl rfl rfl (v := V.ref [7000, 114, 10, 7, 4, 2, 0] 0 (rws api_Timer.cells v10_7_4_20_4714).length) (.fn rfl) ?_
      refine SafeOps.nil ?_
      repeat (first | refine Safe.seq ?_ | refine Safe.skip ?_ | with_reducible refine thenQ.n ?_ | with_reducible refine blockQ.n ?_)
      refine Safe.ret ?_
      repeat (first | with_reducible refine thenQ.r ?_ | with_reducible refine blockQ.r ?_)
      refine inQ.gen (vs := [V.ref [7000, 114, 10, 7, 4, 2, 0] 0 (rws api_Timer.cells v10_7_4_20_4714).length]) (v := V.ref [7000, 114, 10, 7, 4, 2, 0] 0 (rws api_Timer.cells v10_7_4_20_4714).length) (.inr rfl) rfl (.tmp (v := V.ref [7000, 114, 10, 7, 4, 2, 0] 0 (rws api_Timer.cells v10_7_4_20_4714).length) rfl .nil) rfl ?_
      refine SafeOps.quiet0 E_good rfl rfl rfl (v := V.ref [7000, 114, 10, 7, 4, 2, 0] 0 (rws api_Timer.cells v10_7_4_20_4714).length) (.fn rfl) ?_
      refine SafeOps.nil ?_
      repeat (first | refine Safe.seq ?_ | refine Safe.skip ?_ | with_reducible refine thenQ.n ?_ | with_reducible refine blockQ.n ?_)
      refine Safe.ret ?_
      repeat (first | with_reducible refine thenQ.r ?_ | with_reducible refine blockQ.r ?_)
      refine inQ.gen (vs := [V.ref [7000, 114, 10, 7, 4, 2, 0] 0 (rws api_Timer.cells v10_7_4_20_4714).length]) (v := V.ref [7000, 114, 10, 7, 4, 2, 0] 0 (rws api_Timer.cells v10_7_4_20_4714).length) (.inr rfl) rfl (.tmp (v := V.ref [7000, 114, 10, 7, 4, 2, 0] 0 (rws api_Timer.cells v10_7_4_20_4714).length) rfl .nil) rfl ?_
      refine SafeOps.quiet0 E_good rfl rfl rfl (v := V.ref [7000, 114, 10, 7, 4, 2, 0] 0 (rws api_Timer.cells v10_7_4_20_4714).length) (.fn rfl) ?_
      refine SafeOps.nil ?_
      repeat (first | refine Safe.seq ?_ | refine Safe.skip ?_ | with_reducible refine thenQ.n ?_ | with_reducible refine blockQ.n ?_)
      refine Safe.region ?_
      refine SafeOps.quiet0 E_good rfl rfl rfl (v := V.ref [7000, 114, 10, 7, 4, 2, 0] 0 (rws api_Timer.cells v10_7_4_20_4714).length) (.fn rfl) ?_
      refine SafeOps.quiet0 E_good rfl rfl rfl (v := V.fn 41 []) (.fn rfl) ?_
      refine bindG h ?_
      intro s_4719 he4720 h
      refine SafeOps.sort api_Timer.cells E_good sortL50 rfl rfl rfl rfl rfl rfl rfl rfl rfl rfl rfl rfl rfl (fun _ => rfl) (fun _ => rfl) (fun _ _ => Try.call41 _ _) (fun a b v hv => go_heap_order_sc a b v hv) he4720 ?_
      refine SafeOps.see 7 (u := V.ref [7000, 114, 10, 7, 4, 2, 0] 0 (rws api_Timer.cells s_4719).length) rfl (.len (by rw [rws_len, rws_len]; first | exact sortO_len he4720 | exact (sortO_len he4720).symm)) ?_
      refine SafeOps.see 5 (u := V.ref [7000, 114, 10, 7, 4, 2, 0] 0 (rws api_Timer.cells s_4719).length) rfl (.len (by rw [rws_len, rws_len]; first | exact sortO_len he4720 | exact (sortO_len he4720).symm)) ?_
      refine SafeOps.see 8 (u := V.ref [7000, 114, 10, 7, 4, 2, 0] 0 (rws api_Timer.cells s_4719).length) rfl (.len (by rw [rws_len, rws_len]; first | exact sortO_len he4720 | exact (sortO_len he4720).symm)) ?_
      refine SafeOps.nil ?_
      repeat (first | refine Safe.seq ?_ | refine Safe.skip ?_ | with_reducible refine thenQ.n ?_ | with_reducible refine blockQ.n ?_)
      refine Safe.region ?_
      refine SafeOps.quiet0 E_good rfl rfl rfl (v := V.ref [7000, 114, 10, 7, 4, 2, 0] 0 (rws api_Timer.cells s_4719).length) (.fn rfl) ?_
      refine SafeOps.quiet0 E_good rfl rfl rfl (v := V.ref [7000, 114, 10, 7, 4, 2, 0] 0 (rws api_Timer.cells s_4719).length) (.fn rfl) ?_
      refine SafeOps.nil ?_
      repeat (first | refine Safe.seq ?_ | refine Safe.skip ?_ | with_reducible refine thenQ.n ?_ | with_reducible refine blockQ.n ?_)
      refine Safe.ret ?_
      repeat (first | with_reducible refine thenQ.r ?_ | with_reducible refine blockQ.r ?_)
      refine inQ.gen (vs := [V.ref [7000, 114, 10, 7, 4, 2, 0] 0 (rws api_Timer.cells s_4719).length]) (v := V.ref [7000, 114, 10, 7, 4, 2, 0] 0 (rws api_Timer.cells s_4719).length) (.inr rfl) rfl (.tmp (v := V.ref [7000, 114, 10, 7, 4, 2, 0] 0 (rws api_Timer.cells s_4719).length) rfl .nil) rfl ?_
      refine bindG h ?_
      intro x_4721 he4722 h
      refine SafeOps.quiet0 E_good rfl rfl rfl (v := V.bool x_4721) (.callS rfl (.cons (.full rfl rfl) (.cons (.full rfl rfl) .nil)) (go_slices_Equal_api_Timer_api_Timer_sc s_4703 s_4719 _ he4722) (.plain rfl) rfl) ?_
      refine SafeOps.quiet0 E_good rfl rfl rfl (v := V.bool x_4721) (.fn rfl) ?_
      refine SafeOps.nil ?_
      repeat (first | refine Safe.seq ?_ | refine Safe.skip ?_ | with_reducible refine thenQ.n ?_ | with_reducible refine blockQ.n ?_)
      refine Safe.ret ?_
      repeat (first | with_reducible refine thenQ.r ?_ | with_reducible refine blockQ.r ?_)
      obtain rfl := Option.some.inj h
      exact retQ.gen (vs := [V.bool x_4721]) rfl (.tmp (v := V.bool x_4721) rfl .nil) (.free rfl) (by simp) (.inr rfl)

end Go.Proofs.Ytbcapidhhbkkcaa
