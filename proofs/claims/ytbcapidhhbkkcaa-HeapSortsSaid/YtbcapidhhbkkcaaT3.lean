/- Helper lemmas for the claim's theorem: an abstract machine over the model, proved sound; no condition beyond each lemma's own. -/
import Derived.Test.YtbcapidhhbkkcaaT2
set_option linter.unusedVariables false
set_option linter.unusedSimpArgs false
set_option linter.unnecessarySimpa false
set_option linter.unusedSectionVars false
namespace Go.Proofs.Ytbcapidhhbkkcaa
open Go Go.AM
set_option maxRecDepth 100000
set_option maxHeartbeats 1000000
set_option linter.unusedVariables false
set_option linter.unusedSimpArgs false
variable {gl : List (Nat × List V)}
noncomputable def go_ravellaw08_HeapSorts_j3 (x_4967 : List api_Timer) (x_4971 : List api_Timer) (b_4982 : Bool) : Option Bool :=
  if b_4982 = true then
    (go_heap_Same x_4967 x_4971).bind fun x_4987 =>
    some x_4987
  else
    some false

noncomputable def go_ravellaw08_HeapSorts_s2 (a0_4810 : List api_Timer) (a1_4811 : Int) (a2_4812 : Int) (x_4903 : Bool) (x_4907 : List api_Timer) (x_4910 : List Int) : (Int) → Option ((Int) ⊕ (Bool))
  | v66_4953 =>
    if (decide (v66_4953 < (x_4907.length : Int))) = true then
      if 0 ≤ v66_4953 ∧ v66_4953 < (x_4907.length : Int) then
        if 0 ≤ v66_4953 ∧ v66_4953 < (x_4910.length : Int) then
          if ((gt x_4910 v66_4953) != ((gt x_4907 v66_4953).Id)) = true then
            inrO (
              some false)
          else
            if (decide (v66_4953 > 0)) = true then
              if 0 ≤ (IntKind.i64.wrap (v66_4953 - 1)) ∧ (IntKind.i64.wrap (v66_4953 - 1)) < (x_4907.length : Int) then
                if (!(go_ravelref08_Less (gt x_4907 (IntKind.i64.wrap (v66_4953 - 1))) (gt x_4907 v66_4953))) = true then
                  inrO (
                    some false)
                else
                  nextO (IntKind.i64.wrap (v66_4953 + 1))
              else none
            else
              nextO (IntKind.i64.wrap (v66_4953 + 1))
        else none
      else none
    else
      inrO (
        (go_heap_Expire a0_4810 (if a2_4812 < a1_4811 then a2_4812 else a1_4811)).bind fun (x_4962, x_4963, x_4964) =>
        (go_heap_Expire x_4963 (if a2_4812 > a1_4811 then a2_4812 else a1_4811)).bind fun (x_4966, x_4967, x_4968) =>
        (go_heap_Expire a0_4810 (if a2_4812 > a1_4811 then a2_4812 else a1_4811)).bind fun (x_4970, x_4971, x_4972) =>
        if (((x_4903 && (x_4964 == 0)) && (x_4968 == 0)) && (x_4972 == 0)) = true then
          if few ([] ++ x_4962).length then
            if few (([] ++ x_4962) ++ x_4966).length then
              (go_ravelref01_Same (([] ++ x_4962) ++ x_4966) x_4970).bind fun x_4991 =>
              go_ravellaw08_HeapSorts_j3 x_4967 x_4971 x_4991
            else none
          else none
        else
          go_ravellaw08_HeapSorts_j3 x_4967 x_4971 false)

noncomputable def go_ravellaw08_HeapSorts (a0_4810 : List api_Timer) (a1_4811 : Int) (a2_4812 : Int) : Option Bool :=
  (go_ravellaw08_live).bind fun x_4903 =>
  if (!x_4903) = true then
    some false
  else
    if (decide ((a0_4810.length : Int) > 300)) = true then
      some x_4903
    else
      (go_heap_Sorted a0_4810).bind fun (x_4907, x_4908) =>
      (go_heap_Expire a0_4810 4611686018427387904).bind fun (x_4910, x_4911, x_4912) =>
      if (x_4908 != 0) = true then
        some (x_4903 && (x_4912 == x_4908))
      else
        if (((x_4912 != 0) || ((x_4911.length : Int) != 0)) || ((x_4910.length : Int) != (x_4907.length : Int))) = true then
          some false
        else
          whileO (go_ravellaw08_HeapSorts_s2 a0_4810 a1_4811 a2_4812 x_4903 x_4907 x_4910) 0

theorem go_ravellaw08_HeapSorts_sc (a0_4810 : List api_Timer) (a1_4811 : Int) (a2_4812 : Int) (r : Bool) (h : go_ravellaw08_HeapSorts a0_4810 a1_4811 a2_4812 = some r) : SC Try.prog gl 7 [V.sl 2 (rws api_Timer.cells a0_4810), V.int .i64 a1_4811, V.int .i64 a2_4812] (V.bool r) := by
  rw [go_ravellaw08_HeapSorts] at h
  refine SC.of E_good Try.func7 rfl (fun _ _ => Try.call7 _ _) rfl ?_
  repeat (first | refine Safe.seq ?_ | refine Safe.skip ?_ | with_reducible refine thenQ.n ?_ | with_reducible refine blockQ.n ?_)
  refine Safe.region ?_
  refine SafeOps.quiet0 E_good rfl rfl rfl (v := V.bool false) (.fn rfl) ?_
  refine SafeOps.nil ?_
  repeat (first | refine Safe.seq ?_ | refine Safe.skip ?_ | with_reducible refine thenQ.n ?_ | with_reducible refine blockQ.n ?_)
  refine Safe.region ?_
  refine bindG h ?_
  intro x_4903 he4904 h
  refine SafeOps.quiet0 E_good rfl rfl rfl (v := V.bool x_4903) (.callP rfl rfl (go_ravellaw08_live_sc  _ he4904) rfl) ?_
  refine SafeOps.quiet0 E_good rfl rfl rfl (v := V.bool x_4903) (.fn rfl) ?_
  refine SafeOps.nil ?_
  repeat (first | refine Safe.seq ?_ | refine Safe.skip ?_ | with_reducible refine thenQ.n ?_ | with_reducible refine blockQ.n ?_)
  refine Safe.region ?_
  refine SafeOps.quiet0 E_good rfl rfl rfl (v := V.bool x_4903) (.fn rfl) ?_
  refine SafeOps.quiet0 E_good rfl rfl rfl (v := V.bool (!x_4903)) (.fn rfl) ?_
  refine SafeOps.nil ?_
  repeat (first | refine Safe.seq ?_ | refine Safe.skip ?_ | with_reducible refine thenQ.n ?_ | with_reducible refine blockQ.n ?_)
  refine ifG h (fun hc4905 h => ?_) (fun hc4905 h => ?_)
  · skip
    refine Safe.condK rfl hc4905 ?_
    repeat (first | refine Safe.seq ?_ | refine Safe.skip ?_ | with_reducible refine thenQ.n ?_ | with_reducible refine blockQ.n ?_)
    refine Safe.region ?_
    refine SafeOps.quiet0 E_good rfl rfl rfl (v := V.bool false) (.fn rfl) ?_
    refine SafeOps.nil ?_
    repeat (first | refine Safe.seq ?_ | refine Safe.skip ?_ | with_reducible refine thenQ.n ?_ | with_reducible refine blockQ.n ?_)
    refine Safe.ret ?_
    repeat (first | with_reducible refine thenQ.r ?_ | with_reducible refine blockQ.r ?_)
    obtain rfl := Option.some.inj h
    exact retQ.gen (vs := [V.bool false]) rfl (.tmp (v := V.bool false) rfl .nil) (.free rfl) (by simp) (.inr rfl)
  · skip
    refine Safe.condN rfl hc4905 ?_
    repeat (first | refine Safe.seq ?_ | refine Safe.skip ?_ | with_reducible refine thenQ.n ?_ | with_reducible refine blockQ.n ?_)
    refine Safe.region ?_
    refine SafeOps.quiet0 E_good rfl rfl rfl (v := V.sl 2 (rws api_Timer.cells a0_4810)) (.fn rfl) ?_
    refine SafeOps.quiet0 E_good rfl rfl rfl (v := V.int .i64 (a0_4810.length : Int)) (.fnE rfl lenE) ?_
    refine SafeOps.quiet0 E_good rfl rfl rfl (v := V.bool (decide ((a0_4810.length : Int) > 300))) (.fn rfl) ?_
    refine SafeOps.nil ?_
    repeat (first | refine Safe.seq ?_ | refine Safe.skip ?_ | with_reducible refine thenQ.n ?_ | with_reducible refine blockQ.n ?_)
    refine ifG h (fun hc4906 h => ?_) (fun hc4906 h => ?_)
    · skip
      refine Safe.condK rfl hc4906 ?_
      repeat (first | refine Safe.seq ?_ | refine Safe.skip ?_ | with_reducible refine thenQ.n ?_ | with_reducible refine blockQ.n ?_)
      refine Safe.region ?_
      refine SafeOps.quiet0 E_good rfl rfl rfl (v := V.bool x_4903) (.fn rfl) ?_
      refine SafeOps.quiet0 E_good rfl rfl rfl (v := V.bool x_4903) (.fn rfl) ?_
      refine SafeOps.nil ?_
      repeat (first | refine Safe.seq ?_ | refine Safe.skip ?_ | with_reducible refine thenQ.n ?_ | with_reducible refine blockQ.n ?_)
      refine Safe.ret ?_
      repeat (first | with_reducible refine thenQ.r ?_ | with_reducible refine blockQ.r ?_)
      obtain rfl := Option.some.inj h
      exact retQ.gen (vs := [V.bool x_4903]) rfl (.tmp (v := V.bool x_4903) rfl .nil) (.free rfl) (by simp) (.inr rfl)
    · skip
      refine Safe.condN rfl hc4906 ?_
      repeat (first | refine Safe.seq ?_ | refine Safe.skip ?_ | with_reducible refine thenQ.n ?_ | with_reducible refine blockQ.n ?_)
      refine Safe.region ?_
      refine SafeOps.quiet0 E_good rfl rfl rfl (v := V.sl 2 (rws api_Timer.cells a0_4810)) (.fn rfl) ?_
      refine bindG h ?_
      rintro ⟨x_4907, x_4908⟩ he4909 h
      refine SafeOps.quiet E_good rfl rfl rfl (v := V.tup [V.ref [33, 0] 0 (rws api_Timer.cells x_4907).length, V.int .i64 x_4908]) (.callP rfl rfl (go_heap_Sorted_sc a0_4810 _ he4909) rfl) rfl ?_
      refine SafeOps.quiet0 E_good rfl rfl rfl (v := V.tup [V.ref [33, 0] 0 (rws api_Timer.cells x_4907).length, V.int .i64 x_4908]) (.fn rfl) ?_
      refine SafeOps.quiet0 E_good rfl rfl rfl (v := V.ref [33, 0] 0 (rws api_Timer.cells x_4907).length) (.fn rfl) ?_
      refine SafeOps.quiet0 E_good rfl rfl rfl (v := V.int .i64 x_4908) (.fn rfl) ?_
      refine SafeOps.quiet0 E_good rfl rfl rfl (v := V.ref [33, 0] 0 (rws api_Timer.cells x_4907).length) (.fn rfl) ?_
      refine SafeOps.quiet0 E_good rfl rfl rfl (v := V.int .i64 x_4908) (.fn rfl) ?_
      refine SafeOps.nil ?_
      repeat (first | refine Safe.seq ?_ | refine Safe.skip ?_ | with_reducible refine thenQ.n ?_ | with_reducible refine blockQ.n ?_)
      refine Safe.region ?_
      refine SafeOps.quiet0 E_good rfl rfl rfl (v := V.sl 2 (rws api_Timer.cells a0_4810)) (.fn rfl) ?_
      refine bindG h ?_
      rintro ⟨x_4910, x_4911, x_4912⟩ he4913 h
      refine SafeOps.quiet E_good rfl rfl rfl (v := V.tup [V.ref [38, 0] 0 (rws (fun n => [V.int .i64 n]) x_4910).length, V.ref [38, 1] 0 (rws api_Timer.cells x_4911).length, V.int .i64 x_4912]) (.callP rfl rfl (go_heap_Expire_sc a0_4810 4611686018427387904 _ he4913) rfl) rfl ?_
      refine SafeOps.quiet0 E_good rfl rfl rfl (v := V.tup [V.ref [38, 0] 0 (rws (fun n => [V.int .i64 n]) x_4910).length, V.ref [38, 1] 0 (rws api_Timer.cells x_4911).length, V.int .i64 x_4912]) (.fn rfl) ?_
      refine SafeOps.quiet0 E_good rfl rfl rfl (v := V.ref [38, 0] 0 (rws (fun n => [V.int .i64 n]) x_4910).length) (.fn rfl) ?_
      refine SafeOps.quiet0 E_good rfl rfl rfl (v := V.ref [38, 1] 0 (rws api_Timer.cells x_4911).length) (.fn rfl) ?_
      refine SafeOps.quiet0 E_good rfl rfl rfl (v := V.int .i64 x_4912) (.fn rfl) ?_
      refine SafeOps.quiet0 E_good rfl rfl rfl (v := V.ref [38, 0] 0 (rws (fun n => [V.int .i64 n]) x_4910).length) (.fn rfl) ?_
      refine SafeOps.quiet0 E_good rfl rfl rfl (v := V.ref [38, 1] 0 (rws api_Timer.cells x_4911).length) (.fn rfl) ?_
      refine SafeOps.quiet0 E_good rfl rfl rfl (v := V.int .i64 x_4912) (.fn rfl) ?_
      refine SafeOps.nil ?_
      repeat (first | refine Safe.seq ?_ | refine Safe.skip ?_ | with_reducible refine thenQ.n ?_ | with_reducible refine blockQ.n ?_)
      refine Safe.region ?_
      refine SafeOps.quiet0 E_good rfl rfl rfl (v := V.int .i64 x_4908) (.fn rfl) ?_
      refine SafeOps.quiet0 E_good rfl rfl rfl (v := V.bool (x_4908 != 0)) (.fn rfl) ?_
      refine SafeOps.nil ?_
      repeat (first | refine Safe.seq ?_ | refine Safe.skip ?_ | with_reducible refine thenQ.n ?_ | with_reducible refine blockQ.n ?_)
      refine ifG h (fun hc4915 h => ?_) (fun hc4915 h => ?_)
      · skip
        refine Safe.condK rfl hc4915 ?_
        repeat (first | refine Safe.seq ?_ | refine Safe.skip ?_ | with_reducible refine thenQ.n ?_ | with_reducible refine blockQ.n ?_)
        refine Safe.region ?_
        refine SafeOps.quiet0 E_good rfl rfl rfl (v := V.bool x_4903) (.fn rfl) ?_
        refine SafeOps.quiet0 E_good rfl rfl rfl (v := V.bool x_4903) (.fn rfl) ?_
        refine SafeOps.bjoin 4 49 (b := (x_4903 && (x_4912 == x_4908))) (b1 := (x_4912 == x_4908)) (b0 := false) (fun hc4916 K => ?_) (fun hc4916 K => ?_) bj_and ?_
        · skip
          refine SafeOps.quiet0 E_good (congrArg some hc4916) rfl rfl (v := V.int .i64 x_4912) (.fn rfl) ?_
          refine SafeOps.quiet0 E_good (congrArg some hc4916) rfl rfl (v := V.int .i64 x_4908) (.fn rfl) ?_
          refine SafeOps.quiet0 E_good (congrArg some hc4916) rfl rfl (v := V.bool (x_4912 == x_4908)) (.fn rfl) ?_
          refine SafeOps.quiet0 E_good rfl rfl rfl (v := V.bool (x_4912 == x_4908)) (.pickK rfl hc4916 rfl) ?_
          exact SafeOps.drop' 4 rfl rfl rfl K
        · skip
          refine SafeOps.skip (congrArg some hc4916) rfl rfl ?_
          refine SafeOps.skip (congrArg some hc4916) rfl rfl ?_
          refine SafeOps.skip (congrArg some hc4916) rfl rfl ?_
          refine SafeOps.quiet0 E_good rfl rfl rfl (v := V.bool false) (.pickK rfl hc4916 rfl) ?_
          exact SafeOps.drop' 4 rfl rfl rfl K
        refine SafeOps.quiet0 E_good rfl rfl rfl (v := V.bool (x_4903 && (x_4912 == x_4908))) (.fn rfl) ?_
        refine SafeOps.nil ?_
        repeat (first | refine Safe.seq ?_ | refine Safe.skip ?_ | with_reducible refine thenQ.n ?_ | with_reducible refine blockQ.n ?_)
        refine Safe.ret ?_
        repeat (first | with_reducible refine thenQ.r ?_ | with_reducible refine blockQ.r ?_)
        obtain rfl := Option.some.inj h
        exact retQ.gen (vs := [V.bool (x_4903 && (x_4912 == x_4908))]) rfl (.tmp (v := V.bool (x_4903 && (x_4912 == x_4908))) rfl .nil) (.free rfl) (by simp) (.inr rfl)
      · skip
        refine Safe.condN rfl hc4915 ?_
        repeat (first | refine Safe.seq ?_ | refine Safe.skip ?_ | with_reducible refine thenQ.n ?_ | with_reducible refine blockQ.n ?_)
        refine Safe.region ?_
        refine SafeOps.quiet0 E_good rfl rfl rfl (v := V.int .i64 x_4912) (.fn rfl) ?_
        refine SafeOps.quiet0 E_good rfl rfl rfl (v := V.bool (x_4912 != 0)) (.fn rfl) ?_
        refine SafeOps.quiet0 E_good rfl rfl rfl (v := V.bool (x_4912 != 0)) (.fn rfl) ?_
        refine SafeOps.bjoin 4 56 (b := ((x_4912 != 0) || ((x_4911.length : Int) != 0))) (b1 := true) (b0 := ((x_4911.length : Int) != 0)) (fun hc4917 K => ?_) (fun hc4917 K => ?_) bj_or ?_
        · skip
          refine SafeOps.skip (congrArg (fun b => some (!b)) hc4917) rfl rfl ?_
          refine SafeOps.skip (congrArg (fun b => some (!b)) hc4917) rfl rfl ?_
          refine SafeOps.skip (congrArg (fun b => some (!b)) hc4917) rfl rfl ?_
          refine SafeOps.quiet0 E_good rfl rfl rfl (v := V.bool true) (.pickK rfl hc4917 rfl) ?_
          exact SafeOps.drop' 4 rfl rfl rfl K
        · skip
          refine SafeOps.quiet0 E_good (congrArg (fun b => some (!b)) hc4917) rfl rfl (v := V.ref [38, 1] 0 (rws api_Timer.cells x_4911).length) (.fn rfl) ?_
          refine SafeOps.quiet0 E_good (congrArg (fun b => some (!b)) hc4917) rfl rfl (v := V.int .i64 (x_4911.length : Int)) (.fnE rfl lenE) ?_
          refine SafeOps.quiet0 E_good (congrArg (fun b => some (!b)) hc4917) rfl rfl (v := V.bool ((x_4911.length : Int) != 0)) (.fn rfl) ?_
          refine SafeOps.quiet0 E_good rfl rfl rfl (v := V.bool ((x_4911.length : Int) != 0)) (.pickK rfl hc4917 rfl) ?_
          exact SafeOps.drop' 4 rfl rfl rfl K
        refine SafeOps.quiet0 E_good rfl rfl rfl (v := V.bool ((x_4912 != 0) || ((x_4911.length : Int) != 0))) (.fn rfl) ?_
        refine SafeOps.bjoin 6 63 (b := (((x_4912 != 0) || ((x_4911.length : Int) != 0)) || ((x_4910.length : Int) != (x_4907.length : Int)))) (b1 := true) (b0 := ((x_4910.length : Int) != (x_4907.length : Int))) (fun hc4918 K => ?_) (fun hc4918 K => ?_) bj_or ?_
        · skip
          refine SafeOps.skip (congrArg (fun b => some (!b)) hc4918) rfl rfl ?_
          refine SafeOps.skip (congrArg (fun b => some (!b)) hc4918) rfl rfl ?_
          refine SafeOps.skip (congrArg (fun b => some (!b)) hc4918) rfl rfl ?_
          refine SafeOps.skip (congrArg (fun b => some (!b)) hc4918) rfl rfl ?_
          refine SafeOps.skip (congrArg (fun b => some (!b)) hc4918) rfl rfl ?_
          refine SafeOps.quiet0 E_good rfl rfl rfl (v := V.bool true) (.pickK rfl hc4918 rfl) ?_
          exact SafeOps.drop' 6 rfl rfl rfl K
        · skip
          refine SafeOps.quiet0 E_good (congrArg (fun b => some (!b)) hc4918) rfl rfl (v := V.ref [38, 0] 0 (rws (fun n => [V.int .i64 n]) x_4910).length) (.fn rfl) ?_
          refine SafeOps.quiet0 E_good (congrArg (fun b => some (!b)) hc4918) rfl rfl (v := V.int .i64 (x_4910.length : Int)) (.fnE rfl lenE) ?_
          refine SafeOps.quiet0 E_good (congrArg (fun b => some (!b)) hc4918) rfl rfl (v := V.ref [33, 0] 0 (rws api_Timer.cells x_4907).length) (.fn rfl) ?_
          refine SafeOps.quiet0 E_good (congrArg (fun b => some (!b)) hc4918) rfl rfl (v := V.int .i64 (x_4907.length : Int)) (.fnE rfl lenE) ?_
          refine SafeOps.quiet0 E_good (congrArg (fun b => some (!b)) hc4918) rfl rfl (v := V.bool ((x_4910.length : Int) != (x_4907.length : Int))) (.fn rfl) ?_
          refine SafeOps.quiet0 E_good rfl rfl rfl (v := V.bool ((x_4910.length : Int) != (x_4907.length : Int))) (.pickK rfl hc4918 rfl) ?_
          exact SafeOps.drop' 6 rfl rfl rfl K
        refine SafeOps.nil ?_
        repeat (first | refine Safe.seq ?_ | refine Safe.skip ?_ | with_reducible refine thenQ.n ?_ | with_reducible refine blockQ.n ?_)
        refine ifG h (fun hc4919 h => ?_) (fun hc4919 h => ?_)
        · skip
          refine Safe.condK rfl hc4919 ?_
          repeat (first | refine Safe.seq ?_ | refine Safe.skip ?_ | with_reducible refine thenQ.n ?_ | with_reducible refine blockQ.n ?_)
          refine Safe.region ?_
          refine SafeOps.quiet0 E_good rfl rfl rfl (v := V.bool false) (.fn rfl) ?_
          refine SafeOps.nil ?_
          repeat (first | refine Safe.seq ?_ | refine Safe.skip ?_ | with_reducible refine thenQ.n ?_ | with_reducible refine blockQ.n ?_)
          refine Safe.ret ?_
          repeat (first | with_reducible refine thenQ.r ?_ | with_reducible refine blockQ.r ?_)
          obtain rfl := Option.some.inj h
          exact retQ.gen (vs := [V.bool false]) rfl (.tmp (v := V.bool false) rfl .nil) (.free rfl) (by simp) (.inr rfl)
        · skip
          refine Safe.condN rfl hc4919 ?_
          repeat (first | refine Safe.seq ?_ | refine Safe.skip ?_ | with_reducible refine thenQ.n ?_ | with_reducible refine blockQ.n ?_)
          refine Safe.region ?_
          refine SafeOps.quiet0 E_good rfl rfl rfl (v := V.ref [33, 0] 0 (rws api_Timer.cells x_4907).length) (.fn rfl) ?_
          refine SafeOps.quiet0 E_good rfl rfl rfl (v := V.int .i64 (x_4907.length : Int)) (.fnE rfl lenE) ?_
          refine SafeOps.quiet0 E_good rfl rfl rfl (v := V.int .i64 0) (.fn rfl) ?_
          refine SafeOps.nil ?_
          repeat (first | refine Safe.seq ?_ | refine Safe.skip ?_ | with_reducible refine thenQ.n ?_ | with_reducible refine blockQ.n ?_)
          refine Safe.block ?_
          repeat (first | refine Safe.seq ?_ | refine Safe.skip ?_ | with_reducible refine thenQ.n ?_ | with_reducible refine blockQ.n ?_)
          refine Safe.loopW (fun (v66_4953 : Int) => ⟨Try.f7.ntmps, [(0, V.sl 2 (rws api_Timer.cells a0_4810)), (1, V.int .i64 a1_4811), (2, V.int .i64 a2_4812), (7, V.bool x_4903), (8, V.ref [33, 0] 0 (rws api_Timer.cells x_4907).length), (10, V.ref [38, 0] 0 (rws (fun n => [V.int .i64 n]) x_4910).length), (64, V.ref [33, 0] 0 (rws api_Timer.cells x_4907).length), (65, V.int .i64 (x_4907.length : Int)), (66, V.int .i64 v66_4953)], [([33, 0], Obj.rows 2 (rws api_Timer.cells x_4907) false), ([38, 0], Obj.rows 1 (rws (fun n => [V.int .i64 n]) x_4910) false)], [], []⟩) h (.cov ⟨rfl, rfl, (upT_cons (.refl _) (upT_cons (.refl _) (upT_cons (.refl _) (upT_cons (.refl _) (upT_cons (.refl _) (upT_cons (.refl _) (upT_cons (.refl _) (upT_cons (.refl _) (upT_cons (.refl _) upT_nil))))))))), (upOb_cons rfl (.refl _) (upOb_cons rfl (.refl _) upOb_nil)), upOut_nil, rfl⟩) ?_
          intro v66_4953 ohr4954 h hr4954
          replace h : go_ravellaw08_HeapSorts_s2 a0_4810 a1_4811 a2_4812 x_4903 x_4907 x_4910 v66_4953 = some ohr4954 := h
          rw [go_ravellaw08_HeapSorts_s2] at h
          repeat (first | refine Safe.seq ?_ | refine Safe.skip ?_ | with_reducible refine thenQ.n ?_ | with_reducible refine blockQ.n ?_)
          refine Safe.region ?_
          refine SafeOps.quiet0 E_good rfl rfl rfl (v := V.bool (decide (v66_4953 < (x_4907.length : Int)))) (.fn rfl) ?_
          refine SafeOps.nil ?_
          repeat (first | refine Safe.seq ?_ | refine Safe.skip ?_ | with_reducible refine thenQ.n ?_ | with_reducible refine blockQ.n ?_)
          refine ifG h (fun hc4955 h => ?_) (fun hc4955 h => ?_)
          · skip
            refine Safe.condK rfl hc4955 ?_
            repeat (first | refine Safe.seq ?_ | refine Safe.skip ?_ | with_reducible refine thenQ.n ?_ | with_reducible refine blockQ.n ?_)
            refine Safe.block ?_
            repeat (first | refine Safe.seq ?_ | refine Safe.skip ?_ | with_reducible refine thenQ.n ?_ | with_reducible refine blockQ.n ?_)
            refine Safe.region ?_
            refine SafeOps.quiet0 E_good rfl rfl rfl (v := V.int .i64 v66_4953) (.fn rfl) ?_
            refine okG h (fun hb4956 h => ?_)
            refine SafeOps.quiet0 E_good rfl rfl rfl (v := V.ptr [33, 0] (0 + Int.toNat v66_4953) 0) (.idxRefM (f := api_Timer.cells) (xs := x_4907) rfl rfl rfl rfl rfl rfl hb4956) ?_
            refine SafeOps.quiet0 E_good rfl rfl rfl (v := V.agg [V.int .i64 ((gt x_4907 v66_4953).At), V.int .i64 ((gt x_4907 v66_4953).Id)]) (.load rfl rfl (.rowsM (f := api_Timer.cells) (xs := x_4907) hb4956 rfl rfl) rfl) ?_
            refine SafeOps.quiet1 E_good rfl rfl rfl (.alloc rfl rfl) rfl ?_
            refine SafeOps.quiet0 E_good rfl rfl rfl (v := V.int .i64 v66_4953) (.fn rfl) ?_
            refine SafeOps.store (z := Obj.box [V.int .i64 ((gt x_4907 v66_4953).At), V.int .i64 ((gt x_4907 v66_4953).Id)]) E_good rfl rfl rfl rfl rfl rfl rfl (.boxM (c := 2) rfl rfl (Nat.le_of_ble_eq_true rfl) rfl) ?_
            refine SafeOps.nil ?_
            repeat (first | refine Safe.seq ?_ | refine Safe.skip ?_ | with_reducible refine thenQ.n ?_ | with_reducible refine blockQ.n ?_)
            refine Safe.regionD (n := 21) [] [] E_good mixed rfl ?_
            refine DAny.take (i := 0) rfl (by kernel_rfl) [] (by kernel_rfl) (by kernel_rfl) (by kernel_rfl) rfl rfl rfl (v := V.ref [38, 0] 0 (rws (fun n => [V.int .i64 n]) x_4910).length) (fun _ hz => (.fn rfl)) ?_
            refine DAny.take (i := 1) rfl (by kernel_rfl) [] (by kernel_rfl) (by kernel_rfl) (by kernel_rfl) rfl rfl rfl (v := V.int .i64 v66_4953) (fun _ hz => (.fn rfl)) ?_
            refine okG h (fun hb4957 h => ?_)
            refine DAny.take (i := 2) rfl (by kernel_rfl) [] (by kernel_rfl) (by kernel_rfl) (by kernel_rfl) rfl rfl rfl (v := V.ptr [38, 0] (0 + Int.toNat v66_4953) 0) (fun _ hz => (.idxRefM (f := (fun n => [V.int .i64 n])) (xs := x_4910) rfl rfl rfl (hz _ _ rfl rfl) rfl rfl hb4957)) ?_
            refine DAny.take (i := 3) rfl (by kernel_rfl) [] (by kernel_rfl) (by kernel_rfl) (by kernel_rfl) rfl rfl rfl (v := V.int .i64 (gt x_4910 v66_4953)) (fun _ hz => (.load rfl rfl (.rowsM (f := (fun n => [V.int .i64 n])) (xs := x_4910) hb4957 (hz _ _ rfl rfl) rfl) rfl)) ?_
            refine DAny.take (i := 4) rfl (by kernel_rfl) [] (by kernel_rfl) (by kernel_rfl) (by kernel_rfl) rfl rfl rfl (v := V.ptr [14] 0 1) (fun _ hz => (.fn rfl)) ?_
            refine DAny.take (i := 5) rfl (by kernel_rfl) [] (by kernel_rfl) (by kernel_rfl) (by kernel_rfl) rfl rfl rfl (v := V.int .i64 ((gt x_4907 v66_4953).Id)) (fun _ hz => (.load rfl rfl (.box (hz _ _ rfl rfl) rfl) rfl)) ?_
            refine DAny.take (i := 6) rfl (by kernel_rfl) [] (by kernel_rfl) (by kernel_rfl) (by kernel_rfl) rfl rfl rfl (v := V.bool ((gt x_4910 v66_4953) != ((gt x_4907 v66_4953).Id))) (fun _ hz => (.fn rfl)) ?_
            refine DAny.take (i := 7) rfl (by kernel_rfl) [] (by kernel_rfl) (by kernel_rfl) (by kernel_rfl) rfl rfl rfl (v := V.bool ((gt x_4910 v66_4953) != ((gt x_4907 v66_4953).Id))) (fun _ hz => (.fn rfl)) ?_
            refine ifG h (fun hc4958 h => ?_) (fun hc4958 h => ?_)
            · skip
              refine DAny.takeSkip (i := 8) rfl (by kernel_rfl) [] (by kernel_rfl) (by kernel_rfl) (by kernel_rfl) (congrArg (fun b => some (!b)) hc4958) rfl rfl ?_
              refine DAny.takeSkip (i := 9) rfl (by kernel_rfl) [] (by kernel_rfl) (by kernel_rfl) (by kernel_rfl) (congrArg (fun b => some (!b)) hc4958) rfl rfl ?_
              refine DAny.takeSkip (i := 10) rfl (by kernel_rfl) [] (by kernel_rfl) (by kernel_rfl) (by kernel_rfl) (congrArg (fun b => some (!b)) hc4958) rfl rfl ?_
              refine DAny.takeSkip (i := 11) rfl (by kernel_rfl) [] (by kernel_rfl) (by kernel_rfl) (by kernel_rfl) rfl rfl rfl ?_
              refine DAny.takeSkip (i := 12) rfl (by kernel_rfl) [] (by kernel_rfl) (by kernel_rfl) (by kernel_rfl) rfl rfl rfl ?_
              refine DAny.takeSkip (i := 13) rfl (by kernel_rfl) [] (by kernel_rfl) (by kernel_rfl) (by kernel_rfl) rfl rfl rfl ?_
              refine DAny.takeSkip (i := 14) rfl (by kernel_rfl) [] (by kernel_rfl) (by kernel_rfl) (by kernel_rfl) rfl rfl rfl ?_
              refine DAny.takeSkip (i := 15) rfl (by kernel_rfl) [] (by kernel_rfl) (by kernel_rfl) (by kernel_rfl) rfl rfl rfl ?_
              refine DAny.takeSkip (i := 16) rfl (by kernel_rfl) [] (by kernel_rfl) (by kernel_rfl) (by kernel_rfl) rfl rfl rfl ?_
              refine DAny.takeSkip (i := 17) rfl (by kernel_rfl) [] (by kernel_rfl) (by kernel_rfl) (by kernel_rfl) rfl rfl rfl ?_
              refine DAny.takeSkip (i := 18) rfl (by kernel_rfl) [] (by kernel_rfl) (by kernel_rfl) (by kernel_rfl) rfl rfl rfl ?_
              refine DAny.takeSkip (i := 19) rfl (by kernel_rfl) [] (by kernel_rfl) (by kernel_rfl) (by kernel_rfl) (congrArg (fun b => some (!b)) hc4958) rfl rfl ?_
              refine DAny.take (i := 20) rfl (by kernel_rfl) [] (by kernel_rfl) (by kernel_rfl) (by kernel_rfl) rfl rfl rfl (v := V.bool true) (fun _ hz => (.pickK rfl hc4958 rfl)) ?_
              refine DAny.nil (by kernel_rfl) ?_
              repeat (first | refine Safe.seq ?_ | refine Safe.skip ?_ | with_reducible refine thenQ.n ?_ | with_reducible refine blockQ.n ?_)
              refine Safe.condK rfl rfl ?_
              repeat (first | refine Safe.seq ?_ | refine Safe.skip ?_ | with_reducible refine thenQ.n ?_ | with_reducible refine blockQ.n ?_)
              refine Safe.region ?_
              refine SafeOps.quiet0 E_good rfl rfl rfl (v := V.bool false) (.fn rfl) ?_
              refine SafeOps.nil ?_
              repeat (first | refine Safe.seq ?_ | refine Safe.skip ?_ | with_reducible refine thenQ.n ?_ | with_reducible refine blockQ.n ?_)
              refine Safe.ret ?_
              repeat (first | with_reducible refine thenQ.r ?_ | with_reducible refine blockQ.r ?_)
              replace h := inr_out h hr4954
              obtain rfl := Option.some.inj h
              exact retQ.gen (vs := [V.bool false]) rfl (.tmp (v := V.bool false) rfl .nil) (.free rfl) (by simp) (.inr rfl)
            · skip
              refine DAny.take (i := 8) rfl (by kernel_rfl) [] (by kernel_rfl) (by kernel_rfl) (by kernel_rfl) (congrArg (fun b => some (!b)) hc4958) rfl rfl (v := V.int .i64 v66_4953) (fun _ hz => (.fn rfl)) ?_
              refine DAny.take (i := 9) rfl (by kernel_rfl) [] (by kernel_rfl) (by kernel_rfl) (by kernel_rfl) (congrArg (fun b => some (!b)) hc4958) rfl rfl (v := V.bool (decide (v66_4953 > 0))) (fun _ hz => (.fn rfl)) ?_
              refine DAny.take (i := 10) rfl (by kernel_rfl) [] (by kernel_rfl) (by kernel_rfl) (by kernel_rfl) (congrArg (fun b => some (!b)) hc4958) rfl rfl (v := V.bool (decide (v66_4953 > 0))) (fun _ hz => (.fn rfl)) ?_
              refine ifG h (fun hc4959 h => ?_) (fun hc4959 h => ?_)
              · skip
                refine DAny.take (i := 11) rfl (by kernel_rfl) [] (by kernel_rfl) (by kernel_rfl) (by kernel_rfl) (congrArg some hc4959) rfl rfl (v := V.ref [33, 0] 0 (rws api_Timer.cells x_4907).length) (fun _ hz => (.fn rfl)) ?_
                refine DAny.take (i := 12) rfl (by kernel_rfl) [] (by kernel_rfl) (by kernel_rfl) (by kernel_rfl) (congrArg some hc4959) rfl rfl (v := V.int .i64 v66_4953) (fun _ hz => (.fn rfl)) ?_
                refine DAny.take (i := 13) rfl (by kernel_rfl) [] (by kernel_rfl) (by kernel_rfl) (by kernel_rfl) (congrArg some hc4959) rfl rfl (v := V.int .i64 (IntKind.i64.wrap (v66_4953 - 1))) (fun _ hz => (.fn rfl)) ?_
                refine okG h (fun hb4960 h => ?_)
                refine DAny.take (i := 14) rfl (by kernel_rfl) [] (by kernel_rfl) (by kernel_rfl) (by kernel_rfl) (congrArg some hc4959) rfl rfl (v := V.ptr [33, 0] (0 + Int.toNat (IntKind.i64.wrap (v66_4953 - 1))) 0) (fun _ hz => (.idxRefM (f := api_Timer.cells) (xs := x_4907) rfl rfl rfl (hz _ _ rfl rfl) rfl rfl hb4960)) ?_
                refine DAny.take (i := 15) rfl (by kernel_rfl) [] (by kernel_rfl) (by kernel_rfl) (by kernel_rfl) (congrArg some hc4959) rfl rfl (v := V.agg [V.int .i64 ((gt x_4907 (IntKind.i64.wrap (v66_4953 - 1))).At), V.int .i64 ((gt x_4907 (IntKind.i64.wrap (v66_4953 - 1))).Id)]) (fun _ hz => (.load rfl rfl (.rowsM (f := api_Timer.cells) (xs := x_4907) hb4960 (hz _ _ rfl rfl) rfl) rfl)) ?_
                refine DAny.take (i := 16) rfl (by kernel_rfl) [] (by kernel_rfl) (by kernel_rfl) (by kernel_rfl) (congrArg some hc4959) rfl rfl (v := V.agg [V.int .i64 ((gt x_4907 v66_4953).At), V.int .i64 ((gt x_4907 v66_4953).Id)]) (fun _ hz => (.load rfl rfl (.box (hz _ _ rfl rfl) rfl) rfl)) ?_
                refine DAny.take (i := 17) rfl (by kernel_rfl) [] (by kernel_rfl) (by kernel_rfl) (by kernel_rfl) (congrArg some hc4959) rfl rfl (v := V.bool (go_ravelref08_Less (gt x_4907 (IntKind.i64.wrap (v66_4953 - 1))) (gt x_4907 v66_4953))) (fun _ hz => (.callP rfl rfl (go_ravelref08_Less_sc (gt x_4907 (IntKind.i64.wrap (v66_4953 - 1))) (gt x_4907 v66_4953) _ rfl) rfl)) ?_
                refine DAny.take (i := 18) rfl (by kernel_rfl) [] (by kernel_rfl) (by kernel_rfl) (by kernel_rfl) (congrArg some hc4959) rfl rfl (v := V.bool (!(go_ravelref08_Less (gt x_4907 (IntKind.i64.wrap (v66_4953 - 1))) (gt x_4907 v66_4953)))) (fun _ hz => (.fn rfl)) ?_
                refine DAny.take (i := 19) rfl (by kernel_rfl) [] (by kernel_rfl) (by kernel_rfl) (by kernel_rfl) (congrArg (fun b => some (!b)) hc4958) rfl rfl (v := V.bool (!(go_ravelref08_Less (gt x_4907 (IntKind.i64.wrap (v66_4953 - 1))) (gt x_4907 v66_4953)))) (fun _ hz => (.pickK rfl hc4959 rfl)) ?_
                refine DAny.take (i := 20) rfl (by kernel_rfl) [] (by kernel_rfl) (by kernel_rfl) (by kernel_rfl) rfl rfl rfl (v := V.bool (!(go_ravelref08_Less (gt x_4907 (IntKind.i64.wrap (v66_4953 - 1))) (gt x_4907 v66_4953)))) (fun _ hz => (.pickK rfl hc4958 rfl)) ?_
                refine DAny.nil (by kernel_rfl) ?_
                repeat (first | refine Safe.seq ?_ | refine Safe.skip ?_ | with_reducible refine thenQ.n ?_ | with_reducible refine blockQ.n ?_)
                refine ifG h (fun hc4961 h => ?_) (fun hc4961 h => ?_)
                · skip
                  refine Safe.condK rfl hc4961 ?_
                  repeat (first | refine Safe.seq ?_ | refine Safe.skip ?_ | with_reducible refine thenQ.n ?_ | with_reducible refine blockQ.n ?_)
                  refine Safe.region ?_
                  refine SafeOps.quiet0 E_good rfl rfl rfl (v := V.bool false) (.fn rfl) ?_
                  refine SafeOps.nil ?_
                  repeat (first | refine Safe.seq ?_ | refine Safe.skip ?_ | with_reducible refine thenQ.n ?_ | with_reducible refine blockQ.n ?_)
                  refine Safe.ret ?_
                  repeat (first | with_reducible refine thenQ.r ?_ | with_reducible refine blockQ.r ?_)
                  replace h := inr_out h hr4954
                  obtain rfl := Option.some.inj h
                  exact retQ.gen (vs := [V.bool false]) rfl (.tmp (v := V.bool false) rfl .nil) (.free rfl) (by simp) (.inr rfl)
                · skip
                  refine Safe.condN rfl hc4961 ?_
                  repeat (first | refine Safe.seq ?_ | refine Safe.skip ?_ | with_reducible refine thenQ.n ?_ | with_reducible refine blockQ.n ?_)
                  refine Safe.region ?_
                  refine SafeOps.quiet0 E_good rfl rfl rfl (v := V.int .i64 (IntKind.i64.wrap (v66_4953 + 1))) (.fn rfl) ?_
                  refine SafeOps.quiet0 E_good rfl rfl rfl (v := V.int .i64 (IntKind.i64.wrap (v66_4953 + 1))) (.fn rfl) ?_
                  refine SafeOps.nil ?_
                  repeat (first | refine Safe.seq ?_ | refine Safe.skip ?_ | with_reducible refine thenQ.n ?_ | with_reducible refine blockQ.n ?_)
                  exact ⟨_, next_out h, (.cov ⟨rfl, rfl, (upT_cons (.refl _) (upT_cons (.refl _) (upT_cons (.refl _) (upT_cons (.refl _) (upT_cons (.refl _) (upT_cons (.refl _) (upT_cons (.refl _) (upT_cons (.refl _) (upT_cons (.refl _) upT_nil))))))))), (upOb_cons rfl (.refl _) (upOb_cons rfl (.refl _) upOb_nil)), upOut_nil, rfl⟩)⟩
              · skip
                refine DAny.takeSkip (i := 11) rfl (by kernel_rfl) [] (by kernel_rfl) (by kernel_rfl) (by kernel_rfl) (congrArg some hc4959) rfl rfl ?_
                refine DAny.takeSkip (i := 12) rfl (by kernel_rfl) [] (by kernel_rfl) (by kernel_rfl) (by kernel_rfl) (congrArg some hc4959) rfl rfl ?_
                refine DAny.takeSkip (i := 13) rfl (by kernel_rfl) [] (by kernel_rfl) (by kernel_rfl) (by kernel_rfl) (congrArg some hc4959) rfl rfl ?_
                refine DAny.takeSkip (i := 14) rfl (by kernel_rfl) [] (by kernel_rfl) (by kernel_rfl) (by kernel_rfl) (congrArg some hc4959) rfl rfl ?_
                refine DAny.takeSkip (i := 15) rfl (by kernel_rfl) [] (by kernel_rfl) (by kernel_rfl) (by kernel_rfl) (congrArg some hc4959) rfl rfl ?_
                refine DAny.takeSkip (i := 16) rfl (by kernel_rfl) [] (by kernel_rfl) (by kernel_rfl) (by kernel_rfl) (congrArg some hc4959) rfl rfl ?_
                refine DAny.takeSkip (i := 17) rfl (by kernel_rfl) [] (by kernel_rfl) (by kernel_rfl) (by kernel_rfl) (congrArg some hc4959) rfl rfl ?_
                refine DAny.takeSkip (i := 18) rfl (by kernel_rfl) [] (by kernel_rfl) (by kernel_rfl) (by kernel_rfl) (congrArg some hc4959) rfl rfl ?_
                refine DAny.take (i := 19) rfl (by kernel_rfl) [] (by kernel_rfl) (by kernel_rfl) (by kernel_rfl) (congrArg (fun b => some (!b)) hc4958) rfl rfl (v := V.bool false) (fun _ hz => (.pickK rfl hc4959 rfl)) ?_
                refine DAny.take (i := 20) rfl (by kernel_rfl) [] (by kernel_rfl) (by kernel_rfl) (by kernel_rfl) rfl rfl rfl (v := V.bool false) (fun _ hz => (.pickK rfl hc4958 rfl)) ?_
                refine DAny.nil (by kernel_rfl) ?_
                repeat (first | refine Safe.seq ?_ | refine Safe.skip ?_ | with_reducible refine thenQ.n ?_ | with_reducible refine blockQ.n ?_)
                refine Safe.condN rfl rfl ?_
                repeat (first | refine Safe.seq ?_ | refine Safe.skip ?_ | with_reducible refine thenQ.n ?_ | with_reducible refine blockQ.n ?_)
                refine Safe.region ?_
                refine SafeOps.quiet0 E_good rfl rfl rfl (v := V.int .i64 (IntKind.i64.wrap (v66_4953 + 1))) (.fn rfl) ?_
                refine SafeOps.quiet0 E_good rfl rfl rfl (v := V.int .i64 (IntKind.i64.wrap (v66_4953 + 1))) (.fn rfl) ?_
                refine SafeOps.nil ?_
                repeat (first | refine Safe.seq ?_ | refine Safe.skip ?_ | with_reducible refine thenQ.n ?_ | with_reducible refine blockQ.n ?_)
                exact ⟨_, next_out h, (.cov ⟨rfl, rfl, (upT_cons (.refl _) (upT_cons (.refl _) (upT_cons (.refl _) (upT_cons (.refl _) (upT_cons (.refl _) (upT_cons (.refl _) (upT_cons (.refl _) (upT_cons (.refl _) (upT_cons (.refl _) upT_nil))))))))), (upOb_cons rfl (.refl _) (upOb_cons rfl (.refl _) upOb_nil)), upOut_nil, rfl⟩)⟩
          · skip
            refine Safe.condN rfl hc4955 ?_
            repeat (first | refine Safe.seq ?_ | refine Safe.skip ?_ | with_reducible refine thenQ.n ?_ | with_reducible refine blockQ.n ?_)
            refine Safe.exit ?_
            repeat (first | with_reducible refine thenQ.e ?_ | with_reducible refine blockQ.x rfl ?_ | with_reducible refine blockQ.y rfl ?_)
            replace h := inr_out h hr4954
            repeat (first | refine Safe.seq ?_ | refine Safe.skip ?_ | with_reducible refine thenQ.n ?_ | with_reducible refine blockQ.n ?_)
            refine Safe.region ?_
            refine SafeOps.quiet0 E_good rfl rfl rfl (v := V.sl 2 (rws api_Timer.cells a0_4810)) (.fn rfl) ?_
            refine SafeOps.quiet0 E_good rfl rfl rfl (v := V.int .i64 a1_4811) (.fn rfl) ?_
            refine SafeOps.quiet0 E_good rfl rfl rfl (v := V.int .i64 a2_4812) (.fn rfl) ?_
            refine SafeOps.quiet0 E_good rfl rfl rfl (v := V.int .i64 (if a2_4812 < a1_4811 then a2_4812 else a1_4811)) (.fn rfl) ?_
            refine bindG h ?_
            rintro ⟨x_4962, x_4963, x_4964⟩ he4965 h
            refine SafeOps.quiet E_good rfl rfl rfl (v := V.tup [V.ref [98, 0] 0 (rws (fun n => [V.int .i64 n]) x_4962).length, V.ref [98, 1] 0 (rws api_Timer.cells x_4963).length, V.int .i64 x_4964]) (.callP rfl rfl (go_heap_Expire_sc a0_4810 (if a2_4812 < a1_4811 then a2_4812 else a1_4811) _ he4965) rfl) rfl ?_
            refine SafeOps.quiet0 E_good rfl rfl rfl (v := V.tup [V.ref [98, 0] 0 (rws (fun n => [V.int .i64 n]) x_4962).length, V.ref [98, 1] 0 (rws api_Timer.cells x_4963).length, V.int .i64 x_4964]) (.fn rfl) ?_
            refine SafeOps.quiet0 E_good rfl rfl rfl (v := V.ref [98, 0] 0 (rws (fun n => [V.int .i64 n]) x_4962).length) (.fn rfl) ?_
            refine SafeOps.quiet0 E_good rfl rfl rfl (v := V.ref [98, 1] 0 (rws api_Timer.cells x_4963).length) (.fn rfl) ?_
            refine SafeOps.quiet0 E_good rfl rfl rfl (v := V.int .i64 x_4964) (.fn rfl) ?_
            refine SafeOps.quiet0 E_good rfl rfl rfl (v := V.ref [98, 0] 0 (rws (fun n => [V.int .i64 n]) x_4962).length) (.fn rfl) ?_
            refine SafeOps.quiet0 E_good rfl rfl rfl (v := V.ref [98, 1] 0 (rws api_Timer.cells x_4963).length) (.fn rfl) ?_
            refine SafeOps.quiet0 E_good rfl rfl rfl (v := V.int .i64 x_4964) (.fn rfl) ?_
            refine SafeOps.nil ?_
            repeat (first | refine Safe.seq ?_ | refine Safe.skip ?_ | with_reducible refine thenQ.n ?_ | with_reducible refine blockQ.n ?_)
            refine Safe.region ?_
            refine SafeOps.quiet0 E_good rfl rfl rfl (v := V.ref [98, 1] 0 (rws api_Timer.cells x_4963).length) (.fn rfl) ?_
            refine SafeOps.quiet0 E_good rfl rfl rfl (v := V.int .i64 a1_4811) (.fn rfl) ?_
            refine SafeOps.quiet0 E_good rfl rfl rfl (v := V.int .i64 a2_4812) (.fn rfl) ?_
            refine SafeOps.quiet0 E_good rfl rfl rfl (v := V.int .i64 (if a2_4812 > a1_4811 then a2_4812 else a1_4811)) (.fn rfl) ?_
            refine bindG h ?_
            rintro ⟨x_4966, x_4967, x_4968⟩ he4969 h
            refine SafeOps.quiet E_good rfl rfl rfl (v := V.tup [V.ref [107, 0] 0 (rws (fun n => [V.int .i64 n]) x_4966).length, V.ref [107, 1] 0 (rws api_Timer.cells x_4967).length, V.int .i64 x_4968]) (.callS rfl (.cons (.full rfl rfl) (.cons (.free rfl) .nil)) (go_heap_Expire_sc x_4963 (if a2_4812 > a1_4811 then a2_4812 else a1_4811) _ he4969) (.tupL (.cons (.ownM (fun _ => rfl)) (.cons (.ownM (fun _ => rfl)) (.cons (.plain rfl) .nil)))) rfl) rfl ?_
            refine SafeOps.quiet0 E_good rfl rfl rfl (v := V.tup [V.ref [107, 0] 0 (rws (fun n => [V.int .i64 n]) x_4966).length, V.ref [107, 1] 0 (rws api_Timer.cells x_4967).length, V.int .i64 x_4968]) (.fn rfl) ?_
            refine SafeOps.quiet0 E_good rfl rfl rfl (v := V.ref [107, 0] 0 (rws (fun n => [V.int .i64 n]) x_4966).length) (.fn rfl) ?_
            refine SafeOps.quiet0 E_good rfl rfl rfl (v := V.ref [107, 1] 0 (rws api_Timer.cells x_4967).length) (.fn rfl) ?_
            refine SafeOps.quiet0 E_good rfl rfl rfl (v := V.int .i64 x_4968) (.fn rfl) ?_
            refine SafeOps.quiet0 E_good rfl rfl rfl (v := V.ref [107, 0] 0 (rws (fun n => [V.int .i64 n]) x_4966).length) (.fn rfl) ?_
            refine SafeOps.quiet0 E_good rfl rfl rfl (v := V.ref [107, 1] 0 (rws api_Timer.cells x_4967).length) (.fn rfl) ?_
            refine SafeOps.quiet0 E_good rfl rfl rfl (v := V.int .i64 x_4968) (.fn rfl) ?_
            refine SafeOps.nil ?_
            repeat (first | refine Safe.seq ?_ | refine Safe.skip ?_ | with_reducible refine thenQ.n ?_ | with_reducible refine blockQ.n ?_)
            refine Safe.region ?_
            refine SafeOps.quiet0 E_good rfl rfl rfl (v := V.sl 2 (rws api_Timer.cells a0_4810)) (.fn rfl) ?_
            refine SafeOps.quiet0 E_good rfl rfl rfl (v := V.int .i64 a1_4811) (.fn rfl) ?_
            refine SafeOps.quiet0 E_good rfl rfl rfl (v := V.int .i64 a2_4812) (.fn rfl) ?_
            refine SafeOps.quiet0 E_good rfl rfl rfl (v := V.int .i64 (if a2_4812 > a1_4811 then a2_4812 else a1_4811)) (.fn rfl) ?_
            refine bindG h ?_
            rintro ⟨x_4970, x_4971, x_4972⟩ he4973 h
            refine SafeOps.quiet E_good rfl rfl rfl (v := V.tup [V.ref [116, 0] 0 (rws (fun n => [V.int .i64 n]) x_4970).length, V.ref [116, 1] 0 (rws api_Timer.cells x_4971).length, V.int .i64 x_4972]) (.callP rfl rfl (go_heap_Expire_sc a0_4810 (if a2_4812 > a1_4811 then a2_4812 else a1_4811) _ he4973) rfl) rfl ?_
            refine SafeOps.quiet0 E_good rfl rfl rfl (v := V.tup [V.ref [116, 0] 0 (rws (fun n => [V.int .i64 n]) x_4970).length, V.ref [116, 1] 0 (rws api_Timer.cells x_4971).length, V.int .i64 x_4972]) (.fn rfl) ?_
            refine SafeOps.quiet0 E_good rfl rfl rfl (v := V.ref [116, 0] 0 (rws (fun n => [V.int .i64 n]) x_4970).length) (.fn rfl) ?_
            refine SafeOps.quiet0 E_good rfl rfl rfl (v := V.ref [116, 1] 0 (rws api_Timer.cells x_4971).length) (.fn rfl) ?_
            refine SafeOps.quiet0 E_good rfl rfl rfl (v := V.int .i64 x_4972) (.fn rfl) ?_
            refine SafeOps.quiet0 E_good rfl rfl rfl (v := V.ref [116, 0] 0 (rws (fun n => [V.int .i64 n]) x_4970).length) (.fn rfl) ?_
            refine SafeOps.quiet0 E_good rfl rfl rfl (v := V.ref [116, 1] 0 (rws api_Timer.cells x_4971).length) (.fn rfl) ?_
            refine SafeOps.quiet0 E_good rfl rfl rfl (v := V.int .i64 x_4972) (.fn rfl) ?_
            refine SafeOps.nil ?_
            repeat (first | refine Safe.seq ?_ | refine Safe.skip ?_ | with_reducible refine thenQ.n ?_ | with_reducible refine blockQ.n ?_)
            refine Safe.region ?_
            refine SafeOps.quiet0 E_good rfl rfl rfl (v := V.bool x_4903) (.fn rfl) ?_
            refine SafeOps.quiet0 E_good rfl rfl rfl (v := V.bool x_4903) (.fn rfl) ?_
            refine SafeOps.bjoin 3 124 (b := (x_4903 && (x_4964 == 0))) (b1 := (x_4964 == 0)) (b0 := false) (fun hc4974 K => ?_) (fun hc4974 K => ?_) bj_and ?_
            · skip
              refine SafeOps.quiet0 E_good (congrArg some hc4974) rfl rfl (v := V.int .i64 x_4964) (.fn rfl) ?_
              refine SafeOps.quiet0 E_good (congrArg some hc4974) rfl rfl (v := V.bool (x_4964 == 0)) (.fn rfl) ?_
              refine SafeOps.quiet0 E_good rfl rfl rfl (v := V.bool (x_4964 == 0)) (.pickK rfl hc4974 rfl) ?_
              exact SafeOps.drop' 3 rfl rfl rfl K
            · skip
              refine SafeOps.skip (congrArg some hc4974) rfl rfl ?_
              refine SafeOps.skip (congrArg some hc4974) rfl rfl ?_
              refine SafeOps.quiet0 E_good rfl rfl rfl (v := V.bool false) (.pickK rfl hc4974 rfl) ?_
              exact SafeOps.drop' 3 rfl rfl rfl K
            refine SafeOps.quiet0 E_good rfl rfl rfl (v := V.bool (x_4903 && (x_4964 == 0))) (.fn rfl) ?_
            refine SafeOps.bjoin 3 128 (b := ((x_4903 && (x_4964 == 0)) && (x_4968 == 0))) (b1 := (x_4968 == 0)) (b0 := false) (fun hc4975 K => ?_) (fun hc4975 K => ?_) bj_and ?_
            · skip
              refine SafeOps.quiet0 E_good (congrArg some hc4975) rfl rfl (v := V.int .i64 x_4968) (.fn rfl) ?_
              refine SafeOps.quiet0 E_good (congrArg some hc4975) rfl rfl (v := V.bool (x_4968 == 0)) (.fn rfl) ?_
              refine SafeOps.quiet0 E_good rfl rfl rfl (v := V.bool (x_4968 == 0)) (.pickK rfl hc4975 rfl) ?_
              exact SafeOps.drop' 3 rfl rfl rfl K
            · skip
              refine SafeOps.skip (congrArg some hc4975) rfl rfl ?_
              refine SafeOps.skip (congrArg some hc4975) rfl rfl ?_
              refine SafeOps.quiet0 E_good rfl rfl rfl (v := V.bool false) (.pickK rfl hc4975 rfl) ?_
              exact SafeOps.drop' 3 rfl rfl rfl K
            refine SafeOps.quiet0 E_good rfl rfl rfl (v := V.bool ((x_4903 && (x_4964 == 0)) && (x_4968 == 0))) (.fn rfl) ?_
            refine SafeOps.bjoin 3 132 (b := (((x_4903 && (x_4964 == 0)) && (x_4968 == 0)) && (x_4972 == 0))) (b1 := (x_4972 == 0)) (b0 := false) (fun hc4976 K => ?_) (fun hc4976 K => ?_) bj_and ?_
            · skip
              refine SafeOps.quiet0 E_good (congrArg some hc4976) rfl rfl (v := V.int .i64 x_4972) (.fn rfl) ?_
              refine SafeOps.quiet0 E_good (congrArg some hc4976) rfl rfl (v := V.bool (x_4972 == 0)) (.fn rfl) ?_
              refine SafeOps.quiet0 E_good rfl rfl rfl (v := V.bool (x_4972 == 0)) (.pickK rfl hc4976 rfl) ?_
              exact SafeOps.drop' 3 rfl rfl rfl K
            · skip
              refine SafeOps.skip (congrArg some hc4976) rfl rfl ?_
              refine SafeOps.skip (congrArg some hc4976) rfl rfl ?_
              refine SafeOps.quiet0 E_good rfl rfl rfl (v := V.bool false) (.pickK rfl hc4976 rfl) ?_
              exact SafeOps.drop' 3 rfl rfl rfl K
            refine SafeOps.quiet0 E_good rfl rfl rfl (v := V.bool (((x_4903 && (x_4964 == 0)) && (x_4968 == 0)) && (x_4972 == 0))) (.fn rfl) ?_
            refine SafeOps.bsplit 7 140 (fun b_4982 => go_ravellaw08_HeapSorts_j3 x_4967 x_4971 b_4982 = some r) (fun HJ4983 => ?_) (fun b_4982 h => ?_)
            · refine ifG h (fun hc4977 h => ?_) (fun hc4977 h => ?_)
              · skip
                refine SafeOps.quiet0 E_good (congrArg some hc4977) rfl rfl (v := V.ref [98, 0] 0 (rws (fun n => [V.int .i64 n]) x_4962).length) (.fn rfl) ?_
                refine okG h (fun hb4989 h => ?_)
                refine SafeOps.appendM (fun n => [V.int .i64 n]) (xs := []) (ys := x_4962) E_good (congrArg some hc4977) rfl rfl rfl rfl rfl rfl rfl rfl .nils (.own rfl) (fun _ => rfl) hb4989 ?_
                refine SafeOps.quiet0 E_good (congrArg some hc4977) rfl rfl (v := V.ref [107, 0] 0 (rws (fun n => [V.int .i64 n]) x_4966).length) (.fn rfl) ?_
                refine okG h (fun hb4990 h => ?_)
                refine SafeOps.appendM (fun n => [V.int .i64 n]) (xs := [] ++ x_4962) (ys := x_4966) E_good (congrArg some hc4977) rfl rfl rfl rfl rfl rfl rfl rfl (.own rfl) (.own rfl) (fun _ => rfl) hb4990 ?_
                refine SafeOps.quiet0 E_good (congrArg some hc4977) rfl rfl (v := V.ref [116, 0] 0 (rws (fun n => [V.int .i64 n]) x_4970).length) (.fn rfl) ?_
                refine bindG h ?_
                intro x_4991 he4992 h
                refine SafeOps.quiet0 E_good (congrArg some hc4977) rfl rfl (v := V.bool x_4991) (.callS rfl (.cons (.full rfl rfl) (.cons (.full rfl rfl) .nil)) (go_ravelref01_Same_sc (([] ++ x_4962) ++ x_4966) x_4970 _ he4992) (.plain rfl) rfl) ?_
                refine SafeOps.quiet0 E_good rfl rfl rfl (v := V.bool x_4991) (.pickK rfl hc4977 rfl) ?_
                first | exact SafeOps.dropO 7 1 rfl rfl rfl rfl rfl rfl (HJ4983 _ h) | exact SafeOps.dropO 7 3 rfl rfl rfl rfl rfl rfl (HJ4983 _ h) | exact SafeOps.dropO 7 5 rfl rfl rfl rfl rfl rfl (HJ4983 _ h)
              · skip
                refine SafeOps.skip (congrArg some hc4977) rfl rfl ?_
                refine SafeOps.skip (congrArg some hc4977) rfl rfl ?_
                refine SafeOps.skip (congrArg some hc4977) rfl rfl ?_
                refine SafeOps.skip (congrArg some hc4977) rfl rfl ?_
                refine SafeOps.skip (congrArg some hc4977) rfl rfl ?_
                refine SafeOps.skip (congrArg some hc4977) rfl rfl ?_
                refine SafeOps.quiet0 E_good rfl rfl rfl (v := V.bool false) (.pickK rfl hc4977 rfl) ?_
                exact SafeOps.drop' 7 rfl rfl rfl (HJ4983 _ h)
            · replace h : go_ravellaw08_HeapSorts_j3 x_4967 x_4971 b_4982 = some r := h
              rw [go_ravellaw08_HeapSorts_j3] at h
              refine SafeOps.quiet0 E_good rfl rfl rfl (v := V.bool b_4982) (.fn rfl) ?_
              refine ifG h (fun hc4984 h => ?_) (fun hc4984 h => ?_)
              · skip
                refine SafeOps.quiet0 E_good (congrArg some hc4984) rfl rfl (v := V.ref [107, 1] 0 (rws api_Timer.cells x_4967).length) (.fn rfl) ?_
                refine SafeOps.quiet0 E_good (congrArg some hc4984) rfl rfl (v := V.ref [116, 1] 0 (rws api_Timer.cells x_4971).length) (.fn rfl) ?_
                refine bindG h ?_
                intro x_4987 he4988 h
                refine SafeOps.quiet0 E_good (congrArg some hc4984) rfl rfl (v := V.bool x_4987) (.callS rfl (.cons (.full rfl rfl) (.cons (.full rfl rfl) .nil)) (go_heap_Same_sc x_4967 x_4971 _ he4988) (.plain rfl) rfl) ?_
                refine SafeOps.quiet0 E_good rfl rfl rfl (v := V.bool x_4987) (.pickK rfl hc4984 rfl) ?_
                refine SafeOps.quiet0 E_good rfl rfl rfl (v := V.bool x_4987) (.fn rfl) ?_
                refine SafeOps.nil ?_
                repeat (first | refine Safe.seq ?_ | refine Safe.skip ?_ | with_reducible refine thenQ.n ?_ | with_reducible refine blockQ.n ?_)
                refine Safe.ret ?_
                repeat (first | with_reducible refine thenQ.r ?_ | with_reducible refine blockQ.r ?_)
                obtain rfl := Option.some.inj h
                exact retQ.gen (vs := [V.bool x_4987]) rfl (.tmp (v := V.bool x_4987) rfl .nil) (.free rfl) (by simp) (.inr rfl)
              · skip
                refine SafeOps.skip (congrArg some hc4984) rfl rfl ?_
                refine SafeOps.skip (congrArg some hc4984) rfl rfl ?_
                refine SafeOps.skip (congrArg some hc4984) rfl rfl ?_
                refine SafeOps.quiet0 E_good rfl rfl rfl (v := V.bool false) (.pickK rfl hc4984 rfl) ?_
                refine SafeOps.quiet0 E_good rfl rfl rfl (v := V.bool false) (.fn rfl) ?_
                refine SafeOps.nil ?_
                repeat (first | refine Safe.seq ?_ | refine Safe.skip ?_ | with_reducible refine thenQ.n ?_ | with_reducible refine blockQ.n ?_)
                refine Safe.ret ?_
                repeat (first | with_reducible refine thenQ.r ?_ | with_reducible refine blockQ.r ?_)
                obtain rfl := Option.some.inj h
                exact retQ.gen (vs := [V.bool false]) rfl (.tmp (v := V.bool false) rfl .nil) (.free rfl) (by simp) (.inr rfl)

end Go.Proofs.Ytbcapidhhbkkcaa
