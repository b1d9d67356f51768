/- Helper lemmas for the claim's theorem: an abstract machine over the model, proved sound; no condition beyond each lemma's own. -/
import Derived.Test.YthhpnmfcmgdghaaT2
set_option linter.unusedVariables false
set_option linter.unusedSimpArgs false
set_option linter.unnecessarySimpa false
set_option linter.unusedSectionVars false
namespace Go.Proofs.Ythhpnmfcmgdghaa
open Go Go.AM
set_option maxRecDepth 100000
set_option maxHeartbeats 1000000
set_option linter.unusedVariables false
set_option linter.unusedSimpArgs false
variable {gl : List (Nat × List V)}
noncomputable def go_entry_Read_s2 (a0_3994 : List Int) : (Int × (List api_Entry)) → Option ((Int × (List api_Entry)) ⊕ ((List api_Entry) × Int))
  | (v4_4109, v40_4110) =>
    if (decide (v4_4109 < (a0_3994.length : Int))) = true then
      if 0 ≤ v4_4109 ∧ v4_4109 ≤ (a0_3994.length : Int) then
        if 0 ≤ v4_4109 ∧ v4_4109 ≤ (IntKind.i64.wrap (v4_4109 + (if ((sub a0_3994 v4_4109 (a0_3994.length : Int)).length : Int) < (3 : Int) then ((sub a0_3994 v4_4109 (a0_3994.length : Int)).length : Int) else (3 : Int)))) ∧ (IntKind.i64.wrap (v4_4109 + (if ((sub a0_3994 v4_4109 (a0_3994.length : Int)).length : Int) < (3 : Int) then ((sub a0_3994 v4_4109 (a0_3994.length : Int)).length : Int) else (3 : Int)))) ≤ (IntKind.i64.wrap (v4_4109 + (if ((sub a0_3994 v4_4109 (a0_3994.length : Int)).length : Int) < (3 : Int) then ((sub a0_3994 v4_4109 (a0_3994.length : Int)).length : Int) else (3 : Int)))) ∧ (IntKind.i64.wrap (v4_4109 + (if ((sub a0_3994 v4_4109 (a0_3994.length : Int)).length : Int) < (3 : Int) then ((sub a0_3994 v4_4109 (a0_3994.length : Int)).length : Int) else (3 : Int)))) ≤ (a0_3994.length : Int) then
          if 0 ≤ (0 : Int) ∧ (0 : Int) < ((sub a0_3994 v4_4109 (IntKind.i64.wrap (v4_4109 + (if ((sub a0_3994 v4_4109 (a0_3994.length : Int)).length : Int) < (3 : Int) then ((sub a0_3994 v4_4109 (a0_3994.length : Int)).length : Int) else (3 : Int))))).length : Int) then
            if 0 ≤ (1 : Int) ∧ (1 : Int) < ((sub a0_3994 v4_4109 (IntKind.i64.wrap (v4_4109 + (if ((sub a0_3994 v4_4109 (a0_3994.length : Int)).length : Int) < (3 : Int) then ((sub a0_3994 v4_4109 (a0_3994.length : Int)).length : Int) else (3 : Int))))).length : Int) then
              if 0 ≤ (2 : Int) ∧ (2 : Int) < ((sub a0_3994 v4_4109 (IntKind.i64.wrap (v4_4109 + (if ((sub a0_3994 v4_4109 (a0_3994.length : Int)).length : Int) < (3 : Int) then ((sub a0_3994 v4_4109 (a0_3994.length : Int)).length : Int) else (3 : Int))))).length : Int) then
                if few (v40_4110 ++ [(api_Entry.mk (IntKind.i64.wrap (gt (sub a0_3994 v4_4109 (IntKind.i64.wrap (v4_4109 + (if ((sub a0_3994 v4_4109 (a0_3994.length : Int)).length : Int) < (3 : Int) then ((sub a0_3994 v4_4109 (a0_3994.length : Int)).length : Int) else (3 : Int))))) 0)) (IntKind.i64.wrap (gt (sub a0_3994 v4_4109 (IntKind.i64.wrap (v4_4109 + (if ((sub a0_3994 v4_4109 (a0_3994.length : Int)).length : Int) < (3 : Int) then ((sub a0_3994 v4_4109 (a0_3994.length : Int)).length : Int) else (3 : Int))))) 1)) (IntKind.i64.wrap (gt (sub a0_3994 v4_4109 (IntKind.i64.wrap (v4_4109 + (if ((sub a0_3994 v4_4109 (a0_3994.length : Int)).length : Int) < (3 : Int) then ((sub a0_3994 v4_4109 (a0_3994.length : Int)).length : Int) else (3 : Int))))) 2)))]).length then
                  nextO (IntKind.i64.wrap (v4_4109 + 3), v40_4110 ++ [(api_Entry.mk (IntKind.i64.wrap (gt (sub a0_3994 v4_4109 (IntKind.i64.wrap (v4_4109 + (if ((sub a0_3994 v4_4109 (a0_3994.length : Int)).length : Int) < (3 : Int) then ((sub a0_3994 v4_4109 (a0_3994.length : Int)).length : Int) else (3 : Int))))) 0)) (IntKind.i64.wrap (gt (sub a0_3994 v4_4109 (IntKind.i64.wrap (v4_4109 + (if ((sub a0_3994 v4_4109 (a0_3994.length : Int)).length : Int) < (3 : Int) then ((sub a0_3994 v4_4109 (a0_3994.length : Int)).length : Int) else (3 : Int))))) 1)) (IntKind.i64.wrap (gt (sub a0_3994 v4_4109 (IntKind.i64.wrap (v4_4109 + (if ((sub a0_3994 v4_4109 (a0_3994.length : Int)).length : Int) < (3 : Int) then ((sub a0_3994 v4_4109 (a0_3994.length : Int)).length : Int) else (3 : Int))))) 2)))])
                else none
              else none
            else none
          else none
        else none
      else none
    else
      inrO (
        (go_entry_Check v40_4110).bind fun x_4119 =>
        if (x_4119 != 0) = true then
          some ([], 2)
        else
          some (v40_4110, 0))

noncomputable def go_entry_Read (a0_3994 : List Int) : Option ((List api_Entry) × Int) :=
  if (decide ((a0_3994.length : Int) > 196608)) = true then
    some ([], 3)
  else
    if ((Int.tmod (a0_3994.length : Int) 3) != 0) = true then
      some ([], 2)
    else
      whileO (go_entry_Read_s2 a0_3994) (0, [])

theorem go_entry_Read_sc (a0_3994 : List Int) (r : (List api_Entry) × Int) (h : go_entry_Read a0_3994 = some r) : SC Try.prog gl 15 [V.sl 1 (rws (fun n => [V.int .u8 n]) a0_3994)] (V.tup [V.own 3 (rws api_Entry.cells r.1), V.int .i64 r.2]) := by
  rw [go_entry_Read] at h
  refine SC.of E_good Try.func15 rfl (fun _ _ => Try.call15 _ _) rfl ?_
  repeat (first | refine Safe.seq ?_ | refine Safe.skip ?_ | with_reducible refine thenQ.n ?_ | with_reducible refine blockQ.n ?_)
  refine Safe.region ?_
  refine SafeOps.quiet0 E_good rfl rfl rfl (v := V.nils) (.fn rfl) ?_
  refine SafeOps.quiet0 E_good rfl rfl rfl (v := V.int .i64 0) (.fn rfl) ?_
  refine SafeOps.nil ?_
  repeat (first | refine Safe.seq ?_ | refine Safe.skip ?_ | with_reducible refine thenQ.n ?_ | with_reducible refine blockQ.n ?_)
  refine Safe.block ?_
  repeat (first | refine Safe.seq ?_ | refine Safe.skip ?_ | with_reducible refine thenQ.n ?_ | with_reducible refine blockQ.n ?_)
  refine Safe.region ?_
  refine SafeOps.quiet0 E_good rfl rfl rfl (v := V.sl 1 (rws (fun n => [V.int .u8 n]) a0_3994)) (.fn rfl) ?_
  refine SafeOps.quiet0 E_good rfl rfl rfl (v := V.int .i64 (a0_3994.length : Int)) (.fnE rfl lenE) ?_
  refine SafeOps.quiet0 E_good rfl rfl rfl (v := V.bool (decide ((a0_3994.length : Int) > 196608))) (.fn rfl) ?_
  refine SafeOps.quiet0 E_good rfl rfl rfl (v := V.bool (decide ((a0_3994.length : Int) > 196608))) (.fn rfl) ?_
  refine SafeOps.nil ?_
  repeat (first | refine Safe.seq ?_ | refine Safe.skip ?_ | with_reducible refine thenQ.n ?_ | with_reducible refine blockQ.n ?_)
  refine ifG h (fun hc4065 h => ?_) (fun hc4065 h => ?_)
  · skip
    refine Safe.condK rfl hc4065 ?_
    repeat (first | refine Safe.seq ?_ | refine Safe.skip ?_ | with_reducible refine thenQ.n ?_ | with_reducible refine blockQ.n ?_)
    refine Safe.region ?_
    refine SafeOps.quiet0 E_good rfl rfl rfl (v := V.nils) (.fn rfl) ?_
    refine SafeOps.quiet0 E_good rfl rfl rfl (v := V.int .i64 3) (.fn rfl) ?_
    refine SafeOps.nil ?_
    repeat (first | refine Safe.seq ?_ | refine Safe.skip ?_ | with_reducible refine thenQ.n ?_ | with_reducible refine blockQ.n ?_)
    refine Safe.ret ?_
    repeat (first | with_reducible refine thenQ.r ?_ | with_reducible refine blockQ.r ?_)
    obtain rfl := Option.some.inj h
    exact retQ.gen (vs := [V.nils, V.int .i64 3]) rfl (.tmp (v := V.nils) rfl (.tmp (v := V.int .i64 3) rfl .nil)) (by exact (.tup (.cons (.nils _) (.cons (.free rfl) .nil)))) (by simp) (.inr rfl)
  · skip
    refine Safe.condN rfl hc4065 ?_
    repeat (first | refine Safe.seq ?_ | refine Safe.skip ?_ | with_reducible refine thenQ.n ?_ | with_reducible refine blockQ.n ?_)
    refine Safe.region ?_
    refine SafeOps.quiet0 E_good rfl rfl rfl (v := V.sl 1 (rws (fun n => [V.int .u8 n]) a0_3994)) (.fn rfl) ?_
    refine SafeOps.quiet0 E_good rfl rfl rfl (v := V.int .i64 (a0_3994.length : Int)) (.fnE rfl lenE) ?_
    refine SafeOps.quiet0 E_good rfl rfl rfl (v := V.int .i64 (Int.tmod (a0_3994.length : Int) 3)) (.remV rfl rfl (by decide)) ?_
    refine SafeOps.quiet0 E_good rfl rfl rfl (v := V.bool ((Int.tmod (a0_3994.length : Int) 3) != 0)) (.fn rfl) ?_
    refine SafeOps.quiet0 E_good rfl rfl rfl (v := V.bool ((Int.tmod (a0_3994.length : Int) 3) != 0)) (.fn rfl) ?_
    refine SafeOps.nil ?_
    repeat (first | refine Safe.seq ?_ | refine Safe.skip ?_ | with_reducible refine thenQ.n ?_ | with_reducible refine blockQ.n ?_)
    refine ifG h (fun hc4066 h => ?_) (fun hc4066 h => ?_)
    · skip
      refine Safe.condK rfl hc4066 ?_
      repeat (first | refine Safe.seq ?_ | refine Safe.skip ?_ | with_reducible refine thenQ.n ?_ | with_reducible refine blockQ.n ?_)
      refine Safe.region ?_
      refine SafeOps.quiet0 E_good rfl rfl rfl (v := V.nils) (.fn rfl) ?_
      refine SafeOps.quiet0 E_good rfl rfl rfl (v := V.int .i64 2) (.fn rfl) ?_
      refine SafeOps.nil ?_
      repeat (first | refine Safe.seq ?_ | refine Safe.skip ?_ | with_reducible refine thenQ.n ?_ | with_reducible refine blockQ.n ?_)
      refine Safe.ret ?_
      repeat (first | with_reducible refine thenQ.r ?_ | with_reducible refine blockQ.r ?_)
      obtain rfl := Option.some.inj h
      exact retQ.gen (vs := [V.nils, V.int .i64 2]) rfl (.tmp (v := V.nils) rfl (.tmp (v := V.int .i64 2) rfl .nil)) (by exact (.tup (.cons (.nils _) (.cons (.free rfl) .nil)))) (by simp) (.inr rfl)
    · skip
      refine Safe.condN rfl hc4066 ?_
      repeat (first | refine Safe.seq ?_ | refine Safe.skip ?_ | with_reducible refine thenQ.n ?_ | with_reducible refine blockQ.n ?_)
      refine Safe.region ?_
      refine SafeOps.quiet1 E_good rfl rfl rfl (.alloc rfl rfl) rfl ?_
      refine SafeOps.nil ?_
      repeat (first | refine Safe.seq ?_ | refine Safe.skip ?_ | with_reducible refine thenQ.n ?_ | with_reducible refine blockQ.n ?_)
      refine Safe.region ?_
      refine SafeOps.quiet0 E_good rfl rfl rfl (v := V.sl 1 (rws (fun n => [V.int .u8 n]) a0_3994)) (.fn rfl) ?_
      refine SafeOps.inline E_good rfl rfl rfl rfl rfl Try.func29 rfl (fun _ _ => Try.call29 _ _) rfl ?_
      repeat (first | refine Safe.seq ?_ | refine Safe.skip ?_ | with_reducible refine thenQ.n ?_ | with_reducible refine blockQ.n ?_)
      refine Safe.region ?_
      refine SafeOps.quiet1 E_good rfl rfl rfl (.box rfl rfl) rfl ?_
      refine SafeOps.quiet1 E_good rfl rfl rfl (.box rfl rfl) rfl ?_
      refine SafeOps.quiet0 E_good rfl rfl rfl (v := V.nilf) (.fn rfl) ?_
      refine SafeOps.nil ?_
      repeat (first | refine Safe.seq ?_ | refine Safe.skip ?_ | with_reducible refine thenQ.n ?_ | with_reducible refine blockQ.n ?_)
      refine Safe.region ?_
      refine SafeOps.quiet0 E_good rfl rfl rfl (v := V.int .i64 3) (.load rfl rfl (.box rfl rfl) rfl) ?_
      refine SafeOps.quiet0 E_good rfl rfl rfl (v := V.bool false) (.fn rfl) ?_
      refine SafeOps.nil ?_
      repeat (first | refine Safe.seq ?_ | refine Safe.skip ?_ | with_reducible refine thenQ.n ?_ | with_reducible refine blockQ.n ?_)
      refine Safe.condN rfl rfl ?_
      repeat (first | refine Safe.seq ?_ | refine Safe.skip ?_ | with_reducible refine thenQ.n ?_ | with_reducible refine blockQ.n ?_)
      refine Safe.region ?_
      refine SafeOps.quiet0 E_good rfl rfl rfl (v := V.fn 50 [V.ptr [16, 2] 0 0, V.ptr [16, 3] 0 0]) (.fn rfl) ?_
      refine SafeOps.quiet0 E_good rfl rfl rfl (v := V.fn 50 [V.ptr [16, 2] 0 0, V.ptr [16, 3] 0 0]) (.fn rfl) ?_
      refine SafeOps.nil ?_
      repeat (first | refine Safe.seq ?_ | refine Safe.skip ?_ | with_reducible refine thenQ.n ?_ | with_reducible refine blockQ.n ?_)
      refine Safe.ret ?_
      repeat (first | with_reducible refine thenQ.r ?_ | with_reducible refine blockQ.r ?_)
      refine inQ.gen (vs := [V.fn 50 [V.ptr [16, 2] 0 0, V.ptr [16, 3] 0 0]]) (v := V.fn 50 [V.ptr [16, 2] 0 0, V.ptr [16, 3] 0 0]) (.inr rfl) rfl (.tmp (v := V.fn 50 [V.ptr [16, 2] 0 0, V.ptr [16, 3] 0 0]) rfl .nil) rfl ?_
      refine SafeOps.nil ?_
      repeat (first | refine Safe.seq ?_ | refine Safe.skip ?_ | with_reducible refine thenQ.n ?_ | with_reducible refine blockQ.n ?_)
      refine Safe.block ?_
      repeat (first | refine Safe.seq ?_ | refine Safe.skip ?_ | with_reducible refine thenQ.n ?_ | with_reducible refine blockQ.n ?_)
      refine Safe.rangeFunc (k := 9017) rfl rfl Try.func50 rfl (fun _ _ => Try.call50 _ _) rfl rfl rfl ?_
      repeat (first | refine Safe.seq ?_ | refine Safe.skip ?_ | with_reducible refine thenQ.n ?_ | with_reducible refine blockQ.n ?_)
      refine Safe.region ?_
      refine SafeOps.quiet0 E_good rfl rfl rfl (v := V.int .i64 0) (.fn rfl) ?_
      refine SafeOps.nil ?_
      repeat (first | refine Safe.seq ?_ | refine Safe.skip ?_ | with_reducible refine thenQ.n ?_ | with_reducible refine blockQ.n ?_)
      refine Safe.block ?_
      repeat (first | refine Safe.seq ?_ | refine Safe.skip ?_ | with_reducible refine thenQ.n ?_ | with_reducible refine blockQ.n ?_)
      refine Safe.loopW (fun ((v4_4109, v40_4110) : Int × (List api_Entry)) => ⟨Try.f50.ntmps, [(0, V.yld [9017]), (1, V.ptr [16, 2] 0 0), (2, V.ptr [16, 3] 0 0), (4, V.int .i64 v4_4109)], [([4], Obj.box [V.ref [7000, 114, 4, 0] 0 (rws api_Entry.cells v40_4110).length]), ([16, 2], Obj.box [V.sl 1 (rws (fun n => [V.int .u8 n]) a0_3994)]), ([16, 3], Obj.box [V.int .i64 3]), ([7000, 114, 4, 0], Obj.rows 3 (rws api_Entry.cells v40_4110) false), ([9017], Go.AM.Obj.loop Try.f15.ntmps [(4, V.ptr [4] 0 0)] [17] (rfA Try.f15 0) (rfB Try.f15 0) .ready none)], [(1, [(0, V.yld [9017])]), (Try.f15.ntmps, [(4, V.ptr [4] 0 0)])], [9017, 0]⟩) h (.empty [7000, 114, 4, 0] 3 rfl (.cov ⟨rfl, rfl, (upT_cons (.refl _) (upT_cons (.refl _) (upT_cons (.refl _) (upT_cons (.refl _) upT_nil)))), (upOb_cons rfl (.box (.cons (.nilref _) .nil)) (upOb_cons rfl (.refl _) (upOb_cons rfl (.refl _) (upOb_cons rfl (.refl _) (upOb_cons rfl (by exact .loop (upT_cons (.refl _) upT_nil)) upOb_nil))))), (upOut_cons rfl (upT_cons (.refl _) upT_nil) (upOut_cons rfl (upT_cons (.refl _) upT_nil) upOut_nil)), rfl⟩)) ?_
      rintro ⟨v4_4109, v40_4110⟩ ohr4111 h hr4111
      replace h : go_entry_Read_s2 a0_3994 (v4_4109, v40_4110) = some ohr4111 := h
      rw [go_entry_Read_s2] at h
      repeat (first | refine Safe.seq ?_ | refine Safe.skip ?_ | with_reducible refine thenQ.n ?_ | with_reducible refine blockQ.n ?_)
      refine Safe.region ?_
      refine SafeOps.quiet0 E_good rfl rfl rfl (v := V.int .i64 v4_4109) (.fn rfl) ?_
      refine SafeOps.quiet0 E_good rfl rfl rfl (v := V.sl 1 (rws (fun n => [V.int .u8 n]) a0_3994)) (.load rfl rfl (.box rfl rfl) rfl) ?_
      refine SafeOps.quiet0 E_good rfl rfl rfl (v := V.int .i64 (a0_3994.length : Int)) (.fnE rfl lenE) ?_
      refine SafeOps.quiet0 E_good rfl rfl rfl (v := V.bool (decide (v4_4109 < (a0_3994.length : Int)))) (.fn rfl) ?_
      refine SafeOps.nil ?_
      repeat (first | refine Safe.seq ?_ | refine Safe.skip ?_ | with_reducible refine thenQ.n ?_ | with_reducible refine blockQ.n ?_)
      refine ifG h (fun hc4112 h => ?_) (fun hc4112 h => ?_)
      · skip
        refine Safe.condK rfl hc4112 ?_
        repeat (first | refine Safe.seq ?_ | refine Safe.skip ?_ | with_reducible refine thenQ.n ?_ | with_reducible refine blockQ.n ?_)
        refine Safe.block ?_
        repeat (first | refine Safe.seq ?_ | refine Safe.skip ?_ | with_reducible refine thenQ.n ?_ | with_reducible refine blockQ.n ?_)
        refine Safe.regionD (n := 7) [] [] E_good mixed rfl ?_
        refine DAny.take (i := 0) rfl (by kernel_rfl) [] (by kernel_rfl) (by kernel_rfl) (by kernel_rfl) rfl rfl rfl (v := V.int .i64 3) (fun _ hz => (.load rfl rfl (.box (hz _ _ rfl rfl) rfl) rfl)) ?_
        refine DAny.take (i := 1) rfl (by kernel_rfl) [] (by kernel_rfl) (by kernel_rfl) (by kernel_rfl) rfl rfl rfl (v := V.sl 1 (rws (fun n => [V.int .u8 n]) a0_3994)) (fun _ hz => (.load rfl rfl (.box (hz _ _ rfl rfl) rfl) rfl)) ?_
        refine DAny.take (i := 2) rfl (by kernel_rfl) [] (by kernel_rfl) (by kernel_rfl) (by kernel_rfl) rfl rfl rfl (v := V.int .i64 v4_4109) (fun _ hz => (.fn rfl)) ?_
        refine okG h (fun hb4113 h => ?_)
        refine DAny.take (i := 3) rfl (by kernel_rfl) [] (by kernel_rfl) (by kernel_rfl) (by kernel_rfl) rfl rfl rfl (v := V.sl 1 (rws (fun n => [V.int .u8 n]) (sub a0_3994 v4_4109 (a0_3994.length : Int)))) (fun _ hz => (.slL (f := (fun n => [V.int .u8 n])) rfl rfl rfl rfl rfl hb4113)) ?_
        refine DAny.take (i := 4) rfl (by kernel_rfl) [] (by kernel_rfl) (by kernel_rfl) (by kernel_rfl) rfl rfl rfl (v := V.int .i64 ((sub a0_3994 v4_4109 (a0_3994.length : Int)).length : Int)) (fun _ hz => (.fnE rfl lenE)) ?_
        refine DAny.take (i := 5) rfl (by kernel_rfl) [] (by kernel_rfl) (by kernel_rfl) (by kernel_rfl) rfl rfl rfl (v := V.int .i64 (if ((sub a0_3994 v4_4109 (a0_3994.length : Int)).length : Int) < (3 : Int) then ((sub a0_3994 v4_4109 (a0_3994.length : Int)).length : Int) else (3 : Int))) (fun _ hz => (.fn rfl)) ?_
        refine DAny.take (i := 6) rfl (by kernel_rfl) [] (by kernel_rfl) (by kernel_rfl) (by kernel_rfl) rfl rfl rfl (v := V.int .i64 (if ((sub a0_3994 v4_4109 (a0_3994.length : Int)).length : Int) < (3 : Int) then ((sub a0_3994 v4_4109 (a0_3994.length : Int)).length : Int) else (3 : Int))) (fun _ hz => (.fn rfl)) ?_
        refine DAny.nil (by kernel_rfl) ?_
        repeat (first | refine Safe.seq ?_ | refine Safe.skip ?_ | with_reducible refine thenQ.n ?_ | with_reducible refine blockQ.n ?_)
        refine Safe.region ?_
        refine SafeOps.quiet0 E_good rfl rfl rfl (v := V.yld [9017]) (.fn rfl) ?_
        refine SafeOps.quiet0 E_good rfl rfl rfl (v := V.sl 1 (rws (fun n => [V.int .u8 n]) a0_3994)) (.load rfl rfl (.box rfl rfl) rfl) ?_
        refine SafeOps.quiet0 E_good rfl rfl rfl (v := V.int .i64 v4_4109) (.fn rfl) ?_
        refine SafeOps.quiet0 E_good rfl rfl rfl (v := V.int .i64 v4_4109) (.fn rfl) ?_
        refine SafeOps.quiet0 E_good rfl rfl rfl (v := V.int .i64 (if ((sub a0_3994 v4_4109 (a0_3994.length : Int)).length : Int) < (3 : Int) then ((sub a0_3994 v4_4109 (a0_3994.length : Int)).length : Int) else (3 : Int))) (.fn rfl) ?_
        refine SafeOps.quiet0 E_good rfl rfl rfl (v := V.int .i64 (IntKind.i64.wrap (v4_4109 + (if ((sub a0_3994 v4_4109 (a0_3994.length : Int)).length : Int) < (3 : Int) then ((sub a0_3994 v4_4109 (a0_3994.length : Int)).length : Int) else (3 : Int))))) (.fn rfl) ?_
        refine SafeOps.quiet0 E_good rfl rfl rfl (v := V.int .i64 v4_4109) (.fn rfl) ?_
        refine SafeOps.quiet0 E_good rfl rfl rfl (v := V.int .i64 (if ((sub a0_3994 v4_4109 (a0_3994.length : Int)).length : Int) < (3 : Int) then ((sub a0_3994 v4_4109 (a0_3994.length : Int)).length : Int) else (3 : Int))) (.fn rfl) ?_
        refine SafeOps.quiet0 E_good rfl rfl rfl (v := V.int .i64 (IntKind.i64.wrap (v4_4109 + (if ((sub a0_3994 v4_4109 (a0_3994.length : Int)).length : Int) < (3 : Int) then ((sub a0_3994 v4_4109 (a0_3994.length : Int)).length : Int) else (3 : Int))))) (.fn rfl) ?_
        refine okG h (fun hb4114 h => ?_)
        refine SafeOps.quiet0 E_good rfl rfl rfl (v := V.sl 1 (rws (fun n => [V.int .u8 n]) (sub a0_3994 v4_4109 (IntKind.i64.wrap (v4_4109 + (if ((sub a0_3994 v4_4109 (a0_3994.length : Int)).length : Int) < (3 : Int) then ((sub a0_3994 v4_4109 (a0_3994.length : Int)).length : Int) else (3 : Int))))))) (.slLH3 (f := (fun n => [V.int .u8 n])) rfl rfl rfl rfl rfl rfl rfl hb4114) ?_
        refine SafeOps.yield rfl rfl rfl rfl rfl rfl rfl rfl ?_
        repeat (first | refine Safe.seq ?_ | refine Safe.skip ?_ | with_reducible refine thenQ.n ?_ | with_reducible refine blockQ.n ?_)
        refine Safe.region ?_
        refine SafeOps.quiet0 E_good rfl rfl rfl (v := V.sl 1 (rws (fun n => [V.int .u8 n]) (sub a0_3994 v4_4109 (IntKind.i64.wrap (v4_4109 + (if ((sub a0_3994 v4_4109 (a0_3994.length : Int)).length : Int) < (3 : Int) then ((sub a0_3994 v4_4109 (a0_3994.length : Int)).length : Int) else (3 : Int))))))) (.fn rfl) ?_
        refine SafeOps.nil ?_
        repeat (first | refine Safe.seq ?_ | refine Safe.skip ?_ | with_reducible refine thenQ.n ?_ | with_reducible refine blockQ.n ?_)
        refine asgQ.go rfl rfl ?_
        repeat (first | refine Safe.seq ?_ | refine Safe.skip ?_ | with_reducible refine thenQ.n ?_ | with_reducible refine blockQ.n ?_)
        refine Safe.block ?_
        repeat (first | refine Safe.seq ?_ | refine Safe.skip ?_ | with_reducible refine thenQ.n ?_ | with_reducible refine blockQ.n ?_)
        refine Safe.regionD (n := 17) [(16, [4])] [15] E_good mixed rfl ?_
        refine DAny.take (i := 0) rfl (by kernel_rfl) [] (by kernel_rfl) (by kernel_rfl) (by kernel_rfl) rfl rfl rfl (v := V.ref [7000, 114, 4, 0] 0 (rws api_Entry.cells v40_4110).length) (fun _ hz => (.load rfl rfl (.box (hz _ _ rfl rfl) rfl) rfl)) ?_
        refine DAny.take (i := 1) rfl (by kernel_rfl) [[4]] (by kernel_rfl) (by kernel_rfl) (by kernel_rfl) rfl rfl rfl (v := V.sl 1 (rws (fun n => [V.int .u8 n]) (sub a0_3994 v4_4109 (IntKind.i64.wrap (v4_4109 + (if ((sub a0_3994 v4_4109 (a0_3994.length : Int)).length : Int) < (3 : Int) then ((sub a0_3994 v4_4109 (a0_3994.length : Int)).length : Int) else (3 : Int))))))) (fun _ hz => (.fn rfl)) ?_
        refine okG h (fun hb4115 h => ?_)
        refine DAny.take (i := 2) rfl (by kernel_rfl) [[4]] (by kernel_rfl) (by kernel_rfl) (by kernel_rfl) rfl rfl rfl (v := V.spt 1 (rws (fun n => [V.int .u8 n]) (sub a0_3994 v4_4109 (IntKind.i64.wrap (v4_4109 + (if ((sub a0_3994 v4_4109 (a0_3994.length : Int)).length : Int) < (3 : Int) then ((sub a0_3994 v4_4109 (a0_3994.length : Int)).length : Int) else (3 : Int)))))) (Int.toNat 0) 0) (fun _ hz => (.idxSlM (f := (fun n => [V.int .u8 n])) rfl rfl rfl rfl rfl hb4115)) ?_
        refine DAny.take (i := 3) rfl (by kernel_rfl) [[4]] (by kernel_rfl) (by kernel_rfl) (by kernel_rfl) rfl rfl rfl (v := V.int .u8 (gt (sub a0_3994 v4_4109 (IntKind.i64.wrap (v4_4109 + (if ((sub a0_3994 v4_4109 (a0_3994.length : Int)).length : Int) < (3 : Int) then ((sub a0_3994 v4_4109 (a0_3994.length : Int)).length : Int) else (3 : Int))))) 0)) (fun _ hz => (.load rfl rfl (.sptM (f := (fun n => [V.int .u8 n])) hb4115 rfl) rfl)) ?_
        refine DAny.take (i := 4) rfl (by kernel_rfl) [[4]] (by kernel_rfl) (by kernel_rfl) (by kernel_rfl) rfl rfl rfl (v := V.int .i64 (IntKind.i64.wrap (gt (sub a0_3994 v4_4109 (IntKind.i64.wrap (v4_4109 + (if ((sub a0_3994 v4_4109 (a0_3994.length : Int)).length : Int) < (3 : Int) then ((sub a0_3994 v4_4109 (a0_3994.length : Int)).length : Int) else (3 : Int))))) 0))) (fun _ hz => (.fn rfl)) ?_
        refine DAny.take (i := 5) rfl (by kernel_rfl) [[4]] (by kernel_rfl) (by kernel_rfl) (by kernel_rfl) rfl rfl rfl (v := V.sl 1 (rws (fun n => [V.int .u8 n]) (sub a0_3994 v4_4109 (IntKind.i64.wrap (v4_4109 + (if ((sub a0_3994 v4_4109 (a0_3994.length : Int)).length : Int) < (3 : Int) then ((sub a0_3994 v4_4109 (a0_3994.length : Int)).length : Int) else (3 : Int))))))) (fun _ hz => (.fn rfl)) ?_
        refine okG h (fun hb4116 h => ?_)
        refine DAny.take (i := 6) rfl (by kernel_rfl) [[4]] (by kernel_rfl) (by kernel_rfl) (by kernel_rfl) rfl rfl rfl (v := V.spt 1 (rws (fun n => [V.int .u8 n]) (sub a0_3994 v4_4109 (IntKind.i64.wrap (v4_4109 + (if ((sub a0_3994 v4_4109 (a0_3994.length : Int)).length : Int) < (3 : Int) then ((sub a0_3994 v4_4109 (a0_3994.length : Int)).length : Int) else (3 : Int)))))) (Int.toNat 1) 0) (fun _ hz => (.idxSlM (f := (fun n => [V.int .u8 n])) rfl rfl rfl rfl rfl hb4116)) ?_
        refine DAny.take (i := 7) rfl (by kernel_rfl) [[4]] (by kernel_rfl) (by kernel_rfl) (by kernel_rfl) rfl rfl rfl (v := V.int .u8 (gt (sub a0_3994 v4_4109 (IntKind.i64.wrap (v4_4109 + (if ((sub a0_3994 v4_4109 (a0_3994.length : Int)).length : Int) < (3 : Int) then ((sub a0_3994 v4_4109 (a0_3994.length : Int)).length : Int) else (3 : Int))))) 1)) (fun _ hz => (.load rfl rfl (.sptM (f := (fun n => [V.int .u8 n])) hb4116 rfl) rfl)) ?_
        refine DAny.take (i := 8) rfl (by kernel_rfl) [[4]] (by kernel_rfl) (by kernel_rfl) (by kernel_rfl) rfl rfl rfl (v := V.int .i64 (IntKind.i64.wrap (gt (sub a0_3994 v4_4109 (IntKind.i64.wrap (v4_4109 + (if ((sub a0_3994 v4_4109 (a0_3994.length : Int)).length : Int) < (3 : Int) then ((sub a0_3994 v4_4109 (a0_3994.length : Int)).length : Int) else (3 : Int))))) 1))) (fun _ hz => (.fn rfl)) ?_
        refine DAny.take (i := 9) rfl (by kernel_rfl) [[4]] (by kernel_rfl) (by kernel_rfl) (by kernel_rfl) rfl rfl rfl (v := V.sl 1 (rws (fun n => [V.int .u8 n]) (sub a0_3994 v4_4109 (IntKind.i64.wrap (v4_4109 + (if ((sub a0_3994 v4_4109 (a0_3994.length : Int)).length : Int) < (3 : Int) then ((sub a0_3994 v4_4109 (a0_3994.length : Int)).length : Int) else (3 : Int))))))) (fun _ hz => (.fn rfl)) ?_
        refine okG h (fun hb4117 h => ?_)
        refine DAny.take (i := 10) rfl (by kernel_rfl) [[4]] (by kernel_rfl) (by kernel_rfl) (by kernel_rfl) rfl rfl rfl (v := V.spt 1 (rws (fun n => [V.int .u8 n]) (sub a0_3994 v4_4109 (IntKind.i64.wrap (v4_4109 + (if ((sub a0_3994 v4_4109 (a0_3994.length : Int)).length : Int) < (3 : Int) then ((sub a0_3994 v4_4109 (a0_3994.length : Int)).length : Int) else (3 : Int)))))) (Int.toNat 2) 0) (fun _ hz => (.idxSlM (f := (fun n => [V.int .u8 n])) rfl rfl rfl rfl rfl hb4117)) ?_
        refine DAny.take (i := 11) rfl (by kernel_rfl) [[4]] (by kernel_rfl) (by kernel_rfl) (by kernel_rfl) rfl rfl rfl (v := V.int .u8 (gt (sub a0_3994 v4_4109 (IntKind.i64.wrap (v4_4109 + (if ((sub a0_3994 v4_4109 (a0_3994.length : Int)).length : Int) < (3 : Int) then ((sub a0_3994 v4_4109 (a0_3994.length : Int)).length : Int) else (3 : Int))))) 2)) (fun _ hz => (.load rfl rfl (.sptM (f := (fun n => [V.int .u8 n])) hb4117 rfl) rfl)) ?_
        refine DAny.take (i := 12) rfl (by kernel_rfl) [[4]] (by kernel_rfl) (by kernel_rfl) (by kernel_rfl) rfl rfl rfl (v := V.int .i64 (IntKind.i64.wrap (gt (sub a0_3994 v4_4109 (IntKind.i64.wrap (v4_4109 + (if ((sub a0_3994 v4_4109 (a0_3994.length : Int)).length : Int) < (3 : Int) then ((sub a0_3994 v4_4109 (a0_3994.length : Int)).length : Int) else (3 : Int))))) 2))) (fun _ hz => (.fn rfl)) ?_
        refine DAny.take (i := 13) rfl (by kernel_rfl) [[4]] (by kernel_rfl) (by kernel_rfl) (by kernel_rfl) rfl rfl rfl (v := V.agg [V.int .i64 (IntKind.i64.wrap (gt (sub a0_3994 v4_4109 (IntKind.i64.wrap (v4_4109 + (if ((sub a0_3994 v4_4109 (a0_3994.length : Int)).length : Int) < (3 : Int) then ((sub a0_3994 v4_4109 (a0_3994.length : Int)).length : Int) else (3 : Int))))) 0)), V.int .i64 (IntKind.i64.wrap (gt (sub a0_3994 v4_4109 (IntKind.i64.wrap (v4_4109 + (if ((sub a0_3994 v4_4109 (a0_3994.length : Int)).length : Int) < (3 : Int) then ((sub a0_3994 v4_4109 (a0_3994.length : Int)).length : Int) else (3 : Int))))) 1)), V.int .i64 (IntKind.i64.wrap (gt (sub a0_3994 v4_4109 (IntKind.i64.wrap (v4_4109 + (if ((sub a0_3994 v4_4109 (a0_3994.length : Int)).length : Int) < (3 : Int) then ((sub a0_3994 v4_4109 (a0_3994.length : Int)).length : Int) else (3 : Int))))) 2))]) (fun _ hz => (.fn rfl)) ?_
        refine DAny.only (i := 14) rfl (by kernel_rfl) (.quiet rfl rfl rfl (.litM (f := api_Entry.cells) (xs := [(api_Entry.mk (IntKind.i64.wrap (gt (sub a0_3994 v4_4109 (IntKind.i64.wrap (v4_4109 + (if ((sub a0_3994 v4_4109 (a0_3994.length : Int)).length : Int) < (3 : Int) then ((sub a0_3994 v4_4109 (a0_3994.length : Int)).length : Int) else (3 : Int))))) 0)) (IntKind.i64.wrap (gt (sub a0_3994 v4_4109 (IntKind.i64.wrap (v4_4109 + (if ((sub a0_3994 v4_4109 (a0_3994.length : Int)).length : Int) < (3 : Int) then ((sub a0_3994 v4_4109 (a0_3994.length : Int)).length : Int) else (3 : Int))))) 1)) (IntKind.i64.wrap (gt (sub a0_3994 v4_4109 (IntKind.i64.wrap (v4_4109 + (if ((sub a0_3994 v4_4109 (a0_3994.length : Int)).length : Int) < (3 : Int) then ((sub a0_3994 v4_4109 (a0_3994.length : Int)).length : Int) else (3 : Int))))) 2)))]) rfl rfl (by decide) rfl rfl rfl rfl rfl) rfl ?_)
        refine DAny.onlyS (i := 15) rfl (by kernel_rfl) rfl ?_
        refine okG h (fun hb4118 h => ?_)
        refine SafeOps.appendM api_Entry.cells (xs := v40_4110) (ys := [(api_Entry.mk (IntKind.i64.wrap (gt (sub a0_3994 v4_4109 (IntKind.i64.wrap (v4_4109 + (if ((sub a0_3994 v4_4109 (a0_3994.length : Int)).length : Int) < (3 : Int) then ((sub a0_3994 v4_4109 (a0_3994.length : Int)).length : Int) else (3 : Int))))) 0)) (IntKind.i64.wrap (gt (sub a0_3994 v4_4109 (IntKind.i64.wrap (v4_4109 + (if ((sub a0_3994 v4_4109 (a0_3994.length : Int)).length : Int) < (3 : Int) then ((sub a0_3994 v4_4109 (a0_3994.length : Int)).length : Int) else (3 : Int))))) 1)) (IntKind.i64.wrap (gt (sub a0_3994 v4_4109 (IntKind.i64.wrap (v4_4109 + (if ((sub a0_3994 v4_4109 (a0_3994.length : Int)).length : Int) < (3 : Int) then ((sub a0_3994 v4_4109 (a0_3994.length : Int)).length : Int) else (3 : Int))))) 2)))]) E_good rfl rfl rfl rfl rfl rfl rfl rfl rfl (.own rfl) (.own rfl) (fun _ => rfl) hb4118 ?_
        refine SafeOps.nil ⟨rfl, ?_⟩
        refine DAny.only (i := 16) rfl (by kernel_rfl) (.store (z := Obj.box [V.ref [9017, 0, 29, 33] 0 (rws api_Entry.cells (v40_4110 ++ [(api_Entry.mk (IntKind.i64.wrap (gt (sub a0_3994 v4_4109 (IntKind.i64.wrap (v4_4109 + (if ((sub a0_3994 v4_4109 (a0_3994.length : Int)).length : Int) < (3 : Int) then ((sub a0_3994 v4_4109 (a0_3994.length : Int)).length : Int) else (3 : Int))))) 0)) (IntKind.i64.wrap (gt (sub a0_3994 v4_4109 (IntKind.i64.wrap (v4_4109 + (if ((sub a0_3994 v4_4109 (a0_3994.length : Int)).length : Int) < (3 : Int) then ((sub a0_3994 v4_4109 (a0_3994.length : Int)).length : Int) else (3 : Int))))) 1)) (IntKind.i64.wrap (gt (sub a0_3994 v4_4109 (IntKind.i64.wrap (v4_4109 + (if ((sub a0_3994 v4_4109 (a0_3994.length : Int)).length : Int) < (3 : Int) then ((sub a0_3994 v4_4109 (a0_3994.length : Int)).length : Int) else (3 : Int))))) 2)))])).length]) rfl rfl rfl rfl rfl rfl rfl (.boxM (c := 1) rfl rfl (Nat.le_of_ble_eq_true rfl) rfl) rfl ?_)
        refine DAny.nil (by kernel_rfl) ?_
        repeat (first | refine Safe.seq ?_ | refine Safe.skip ?_ | with_reducible refine thenQ.n ?_ | with_reducible refine blockQ.n ?_)
        refine roundQ.go rfl rfl rfl rfl rfl ?_
        refine SafeOps.quiet0 E_good rfl rfl rfl (v := V.bool false) (.fn rfl) ?_
        refine SafeOps.nil ?_
        repeat (first | refine Safe.seq ?_ | refine Safe.skip ?_ | with_reducible refine thenQ.n ?_ | with_reducible refine blockQ.n ?_)
        refine Safe.condN rfl rfl ?_
        repeat (first | refine Safe.seq ?_ | refine Safe.skip ?_ | with_reducible refine thenQ.n ?_ | with_reducible refine blockQ.n ?_)
        refine Safe.region ?_
        refine SafeOps.quiet0 E_good rfl rfl rfl (v := V.int .i64 v4_4109) (.fn rfl) ?_
        refine SafeOps.quiet0 E_good rfl rfl rfl (v := V.int .i64 3) (.load rfl rfl (.box rfl rfl) rfl) ?_
        refine SafeOps.quiet0 E_good rfl rfl rfl (v := V.int .i64 (IntKind.i64.wrap (v4_4109 + 3))) (.fn rfl) ?_
        refine SafeOps.quiet0 E_good rfl rfl rfl (v := V.int .i64 (IntKind.i64.wrap (v4_4109 + 3))) (.fn rfl) ?_
        refine SafeOps.nil ?_
        repeat (first | refine Safe.seq ?_ | refine Safe.skip ?_ | with_reducible refine thenQ.n ?_ | with_reducible refine blockQ.n ?_)
        exact ⟨_, next_out h, (.ren [9017, 0, 29, 33] [7000, 114, 4, 0] (.cov ⟨rfl, rfl, (upT_cons (.refl _) (upT_cons (.refl _) (upT_cons (.refl _) (upT_cons (.refl _) upT_nil)))), (upOb_cons rfl (.refl _) (upOb_cons rfl (.refl _) (upOb_cons rfl (.refl _) (upOb_cons rfl (.refl _) (upOb_cons rfl (by exact .loop (upT_cons (.refl _) upT_nil)) upOb_nil))))), (upOut_cons rfl (upT_cons (.refl _) upT_nil) (upOut_cons rfl (upT_cons (.refl _) upT_nil) upOut_nil)), rfl⟩))⟩
      · skip
        refine Safe.condN rfl hc4112 ?_
        repeat (first | refine Safe.seq ?_ | refine Safe.skip ?_ | with_reducible refine thenQ.n ?_ | with_reducible refine blockQ.n ?_)
        refine Safe.exit ?_
        repeat (first | with_reducible refine thenQ.e ?_ | with_reducible refine blockQ.x rfl ?_ | with_reducible refine blockQ.y rfl ?_)
        replace h := inr_out h hr4111
        repeat (first | refine Safe.seq ?_ | refine Safe.skip ?_ | with_reducible refine thenQ.n ?_ | with_reducible refine blockQ.n ?_)
        refine rfQ.n (.inl rfl) rfl rfl (fun hbusy => by cases hbusy) ?_
        repeat (first | refine Safe.seq ?_ | refine Safe.skip ?_ | with_reducible refine thenQ.n ?_ | with_reducible refine blockQ.n ?_)
        refine Safe.region ?_
        refine SafeOps.quiet0 E_good rfl rfl rfl (v := V.ref [7000, 114, 4, 0] 0 (rws api_Entry.cells v40_4110).length) (.load rfl rfl (.box rfl rfl) rfl) ?_
        refine bindG h ?_
        intro x_4119 he4120 h
        refine SafeOps.quiet0 E_good rfl rfl rfl (v := V.int .i64 x_4119) (.callS rfl (.cons (.full rfl rfl) .nil) (go_entry_Check_sc v40_4110 _ he4120) (.plain rfl) rfl) ?_
        refine SafeOps.quiet0 E_good rfl rfl rfl (v := V.bool (x_4119 != 0)) (.fn rfl) ?_
        refine SafeOps.nil ?_
        repeat (first | refine Safe.seq ?_ | refine Safe.skip ?_ | with_reducible refine thenQ.n ?_ | with_reducible refine blockQ.n ?_)
        refine ifG h (fun hc4121 h => ?_) (fun hc4121 h => ?_)
        · skip
          refine Safe.condK rfl hc4121 ?_
          repeat (first | refine Safe.seq ?_ | refine Safe.skip ?_ | with_reducible refine thenQ.n ?_ | with_reducible refine blockQ.n ?_)
          refine Safe.region ?_
          refine SafeOps.quiet0 E_good rfl rfl rfl (v := V.nils) (.fn rfl) ?_
          refine SafeOps.quiet0 E_good rfl rfl rfl (v := V.int .i64 2) (.fn rfl) ?_
          refine SafeOps.nil ?_
          repeat (first | refine Safe.seq ?_ | refine Safe.skip ?_ | with_reducible refine thenQ.n ?_ | with_reducible refine blockQ.n ?_)
          refine Safe.ret ?_
          repeat (first | with_reducible refine thenQ.r ?_ | with_reducible refine blockQ.r ?_)
          obtain rfl := Option.some.inj h
          exact retQ.gen (vs := [V.nils, V.int .i64 2]) rfl (.tmp (v := V.nils) rfl (.tmp (v := V.int .i64 2) rfl .nil)) (by exact (.tup (.cons (.nils _) (.cons (.free rfl) .nil)))) (by simp) (.inr rfl)
        · skip
          refine Safe.condN rfl hc4121 ?_
          repeat (first | refine Safe.seq ?_ | refine Safe.skip ?_ | with_reducible refine thenQ.n ?_ | with_reducible refine blockQ.n ?_)
          refine Safe.region ?_
          refine SafeOps.quiet0 E_good rfl rfl rfl (v := V.ref [7000, 114, 4, 0] 0 (rws api_Entry.cells v40_4110).length) (.load rfl rfl (.box rfl rfl) rfl) ?_
          refine SafeOps.quiet0 E_good rfl rfl rfl (v := V.ref [7000, 114, 4, 0] 0 (rws api_Entry.cells v40_4110).length) (.fn rfl) ?_
          refine SafeOps.quiet0 E_good rfl rfl rfl (v := V.int .i64 0) (.fn rfl) ?_
          refine SafeOps.nil ?_
          repeat (first | refine Safe.seq ?_ | refine Safe.skip ?_ | with_reducible refine thenQ.n ?_ | with_reducible refine blockQ.n ?_)
          refine Safe.ret ?_
          repeat (first | with_reducible refine thenQ.r ?_ | with_reducible refine blockQ.r ?_)
          obtain rfl := Option.some.inj h
          exact retQ.gen (vs := [V.ref [7000, 114, 4, 0] 0 (rws api_Entry.cells v40_4110).length, V.int .i64 0]) rfl (.tmp (v := V.ref [7000, 114, 4, 0] 0 (rws api_Entry.cells v40_4110).length) rfl (.tmp (v := V.int .i64 0) rfl .nil)) (by exact (.tup (.cons (.own rfl rfl) (.cons (.free rfl) .nil)))) (by simp) (.inr rfl)

end Go.Proofs.Ythhpnmfcmgdghaa
