/- Helper lemmas for the claim's theorem: an abstract machine over the model, proved sound; no condition beyond each lemma's own. -/
import Derived.Test.YtdlpecjbafadkaaT0
set_option linter.unusedVariables false
set_option linter.unusedSimpArgs false
set_option linter.unnecessarySimpa false
set_option linter.unusedSectionVars false
namespace Go.Proofs.Ytdlpecjbafadkaa
open Go Go.AM
set_option maxRecDepth 100000
set_option maxHeartbeats 1000000
set_option linter.unusedVariables false
set_option linter.unusedSimpArgs false
variable {gl : List (Nat × List V)}
def go_ravelref04_in (a0_1086 : Int) (a1_1087 : Int) (a2_1088 : Int) : Bool :=
  ((decide (a0_1086 ≥ a1_1087)) && (decide (a0_1086 ≤ a2_1088)))

def go_ravelref04_may (a0_1085 : api_Instr) : Bool :=
  if (a0_1085.Op == 1) = true then
    ((go_ravelref04_in a0_1085.A 1 100) && (a0_1085.B == 0))
  else
    if (a0_1085.Op == 2) = true then
      ((go_ravelref04_in a0_1085.A 0 15) && (go_ravelref04_in a0_1085.B 0 3))
    else
      if ((a0_1085.Op == 3) || (a0_1085.Op == 9)) = true then
        ((a0_1085.A == 0) && (a0_1085.B == 0))
      else
        if (a0_1085.Op == 4) = true then
          ((go_ravelref04_in a0_1085.A 1 1000) && (a0_1085.B == 0))
        else
          if (a0_1085.Op == 5) = true then
            ((go_ravelref04_in a0_1085.A 0 15) && (a0_1085.B == 0))
          else
            if (a0_1085.Op == 6) = true then
              ((go_ravelref04_in a0_1085.A 0 3) && (a0_1085.B == 0))
            else
              ((((a0_1085.Op == 7) || (a0_1085.Op == 8)) && (go_ravelref04_in a0_1085.A 0 7)) && (a0_1085.B == 0))

theorem okT31 : (eqOk Try.prog E 20 31 && !Try.prog.eqGuardType Try.prog.depth 31) = true := by kernel_rfl

noncomputable def go_slices_Equal_api_Instr_api_Instr_s1 (a0_2645 : List api_Instr) (a1_2646 : List api_Instr) : (Int) → Option ((Int) ⊕ (Bool))
  | v13_2675 =>
    if (decide (v13_2675 < (a0_2645.length : Int))) = true then
      if 0 ≤ v13_2675 ∧ v13_2675 < (a0_2645.length : Int) then
        if 0 ≤ v13_2675 ∧ v13_2675 < (a1_2646.length : Int) then
          if (!(api_Instr.beq (gt a0_2645 v13_2675) (gt a1_2646 v13_2675))) = true then
            inrO (
              some false)
          else
            nextO (IntKind.i64.wrap (v13_2675 + 1))
        else none
      else none
    else
      inrO (
        some true)

noncomputable def go_slices_Equal_api_Instr_api_Instr (a0_2645 : List api_Instr) (a1_2646 : List api_Instr) : Option Bool :=
  if ((a0_2645.length : Int) != (a1_2646.length : Int)) = true then
    some false
  else
    whileO (go_slices_Equal_api_Instr_api_Instr_s1 a0_2645 a1_2646) 0

theorem go_slices_Equal_api_Instr_api_Instr_sc (a0_2645 : List api_Instr) (a1_2646 : List api_Instr) (r : Bool) (h : go_slices_Equal_api_Instr_api_Instr a0_2645 a1_2646 = some r) : SC Try.prog gl 36 [V.sl 3 (rws api_Instr.cells a0_2645), V.sl 3 (rws api_Instr.cells a1_2646)] (V.bool r) := by
  rw [go_slices_Equal_api_Instr_api_Instr] at h
  refine SC.of E_good Try.func36 rfl (fun _ _ => Try.call36 _ _) rfl ?_
  repeat (first | refine Safe.seq ?_ | refine Safe.skip ?_ | with_reducible refine thenQ.n ?_ | with_reducible refine blockQ.n ?_)
  refine Safe.region ?_
  refine SafeOps.quiet0 E_good rfl rfl rfl (v := V.bool false) (.fn rfl) ?_
  refine SafeOps.nil ?_
  repeat (first | refine Safe.seq ?_ | refine Safe.skip ?_ | with_reducible refine thenQ.n ?_ | with_reducible refine blockQ.n ?_)
  refine Safe.region ?_
  refine SafeOps.quiet0 E_good rfl rfl rfl (v := V.sl 3 (rws api_Instr.cells a0_2645)) (.fn rfl) ?_
  refine SafeOps.quiet0 E_good rfl rfl rfl (v := V.int .i64 (a0_2645.length : Int)) (.fnE rfl lenE) ?_
  refine SafeOps.quiet0 E_good rfl rfl rfl (v := V.sl 3 (rws api_Instr.cells a1_2646)) (.fn rfl) ?_
  refine SafeOps.quiet0 E_good rfl rfl rfl (v := V.int .i64 (a1_2646.length : Int)) (.fnE rfl lenE) ?_
  refine SafeOps.quiet0 E_good rfl rfl rfl (v := V.bool ((a0_2645.length : Int) != (a1_2646.length : Int))) (.fn rfl) ?_
  refine SafeOps.nil ?_
  repeat (first | refine Safe.seq ?_ | refine Safe.skip ?_ | with_reducible refine thenQ.n ?_ | with_reducible refine blockQ.n ?_)
  refine ifG h (fun hc2665 h => ?_) (fun hc2665 h => ?_)
  · skip
    refine Safe.condK rfl hc2665 ?_
    repeat (first | refine Safe.seq ?_ | refine Safe.skip ?_ | with_reducible refine thenQ.n ?_ | with_reducible refine blockQ.n ?_)
    refine Safe.region ?_
    refine SafeOps.quiet0 E_good rfl rfl rfl (v := V.bool false) (.fn rfl) ?_
    refine SafeOps.nil ?_
    repeat (first | refine Safe.seq ?_ | refine Safe.skip ?_ | with_reducible refine thenQ.n ?_ | with_reducible refine blockQ.n ?_)
    refine Safe.ret ?_
    repeat (first | with_reducible refine thenQ.r ?_ | with_reducible refine blockQ.r ?_)
    obtain rfl := Option.some.inj h
    exact retQ.gen (vs := [V.bool false]) rfl (.tmp (v := V.bool false) rfl .nil) (.free rfl) (by simp) (.inr rfl)
  · skip
    refine Safe.condN rfl hc2665 ?_
    repeat (first | refine Safe.seq ?_ | refine Safe.skip ?_ | with_reducible refine thenQ.n ?_ | with_reducible refine blockQ.n ?_)
    refine Safe.region ?_
    refine SafeOps.quiet0 E_good rfl rfl rfl (v := V.sl 3 (rws api_Instr.cells a0_2645)) (.fn rfl) ?_
    refine SafeOps.quiet0 E_good rfl rfl rfl (v := V.int .i64 (a0_2645.length : Int)) (.fnE rfl lenE) ?_
    refine SafeOps.quiet0 E_good rfl rfl rfl (v := V.int .i64 0) (.fn rfl) ?_
    refine SafeOps.nil ?_
    repeat (first | refine Safe.seq ?_ | refine Safe.skip ?_ | with_reducible refine thenQ.n ?_ | with_reducible refine blockQ.n ?_)
    refine Safe.block ?_
    repeat (first | refine Safe.seq ?_ | refine Safe.skip ?_ | with_reducible refine thenQ.n ?_ | with_reducible refine blockQ.n ?_)
    refine Safe.loopW (fun (v13_2675 : Int) => ⟨Try.f36.ntmps, [(0, V.sl 3 (rws api_Instr.cells a0_2645)), (1, V.sl 3 (rws api_Instr.cells a1_2646)), (12, V.int .i64 (a0_2645.length : Int)), (13, V.int .i64 v13_2675)], [], [], []⟩) h (.cov ⟨rfl, rfl, (upT_cons (.refl _) (upT_cons (.refl _) (upT_cons (.refl _) (upT_cons (.refl _) upT_nil)))), upOb_nil, upOut_nil, rfl⟩) ?_
    intro v13_2675 ohr2676 h hr2676
    replace h : go_slices_Equal_api_Instr_api_Instr_s1 a0_2645 a1_2646 v13_2675 = some ohr2676 := h
    rw [go_slices_Equal_api_Instr_api_Instr_s1] at h
    repeat (first | refine Safe.seq ?_ | refine Safe.skip ?_ | with_reducible refine thenQ.n ?_ | with_reducible refine blockQ.n ?_)
    refine Safe.region ?_
    refine SafeOps.quiet0 E_good rfl rfl rfl (v := V.bool (decide (v13_2675 < (a0_2645.length : Int)))) (.fn rfl) ?_
    refine SafeOps.nil ?_
    repeat (first | refine Safe.seq ?_ | refine Safe.skip ?_ | with_reducible refine thenQ.n ?_ | with_reducible refine blockQ.n ?_)
    refine ifG h (fun hc2677 h => ?_) (fun hc2677 h => ?_)
    · skip
      refine Safe.condK rfl hc2677 ?_
      repeat (first | refine Safe.seq ?_ | refine Safe.skip ?_ | with_reducible refine thenQ.n ?_ | with_reducible refine blockQ.n ?_)
      refine Safe.block ?_
      repeat (first | refine Safe.seq ?_ | refine Safe.skip ?_ | with_reducible refine thenQ.n ?_ | with_reducible refine blockQ.n ?_)
      refine Safe.region ?_
      refine SafeOps.quiet0 E_good rfl rfl rfl (v := V.int .i64 v13_2675) (.fn rfl) ?_
      refine SafeOps.quiet0 E_good rfl rfl rfl (v := V.int .i64 v13_2675) (.fn rfl) ?_
      refine SafeOps.nil ?_
      repeat (first | refine Safe.seq ?_ | refine Safe.skip ?_ | with_reducible refine thenQ.n ?_ | with_reducible refine blockQ.n ?_)
      refine Safe.regionD (n := 9) [] [] E_good mixed rfl ?_
      refine DAny.take (i := 0) rfl (by kernel_rfl) [] (by kernel_rfl) (by kernel_rfl) (by kernel_rfl) rfl rfl rfl (v := V.sl 3 (rws api_Instr.cells a0_2645)) (fun _ hz => (.fn rfl)) ?_
      refine DAny.take (i := 1) rfl (by kernel_rfl) [] (by kernel_rfl) (by kernel_rfl) (by kernel_rfl) rfl rfl rfl (v := V.int .i64 v13_2675) (fun _ hz => (.fn rfl)) ?_
      refine okG h (fun hb2678 h => ?_)
      refine DAny.take (i := 2) rfl (by kernel_rfl) [] (by kernel_rfl) (by kernel_rfl) (by kernel_rfl) rfl rfl rfl (v := V.spt 3 (rws api_Instr.cells a0_2645) (Int.toNat v13_2675) 0) (fun _ hz => (.idxSlM (f := api_Instr.cells) rfl rfl rfl rfl rfl hb2678)) ?_
      refine DAny.take (i := 3) rfl (by kernel_rfl) [] (by kernel_rfl) (by kernel_rfl) (by kernel_rfl) rfl rfl rfl (v := V.agg [V.int .i64 ((gt a0_2645 v13_2675).Op), V.int .i64 ((gt a0_2645 v13_2675).A), V.int .i64 ((gt a0_2645 v13_2675).B)]) (fun _ hz => (.load rfl rfl (.sptM (f := api_Instr.cells) hb2678 rfl) rfl)) ?_
      refine DAny.take (i := 4) rfl (by kernel_rfl) [] (by kernel_rfl) (by kernel_rfl) (by kernel_rfl) rfl rfl rfl (v := V.sl 3 (rws api_Instr.cells a1_2646)) (fun _ hz => (.fn rfl)) ?_
      refine DAny.take (i := 5) rfl (by kernel_rfl) [] (by kernel_rfl) (by kernel_rfl) (by kernel_rfl) rfl rfl rfl (v := V.int .i64 v13_2675) (fun _ hz => (.fn rfl)) ?_
      refine okG h (fun hb2679 h => ?_)
      refine DAny.take (i := 6) rfl (by kernel_rfl) [] (by kernel_rfl) (by kernel_rfl) (by kernel_rfl) rfl rfl rfl (v := V.spt 3 (rws api_Instr.cells a1_2646) (Int.toNat v13_2675) 0) (fun _ hz => (.idxSlM (f := api_Instr.cells) rfl rfl rfl rfl rfl hb2679)) ?_
      refine DAny.take (i := 7) rfl (by kernel_rfl) [] (by kernel_rfl) (by kernel_rfl) (by kernel_rfl) rfl rfl rfl (v := V.agg [V.int .i64 ((gt a1_2646 v13_2675).Op), V.int .i64 ((gt a1_2646 v13_2675).A), V.int .i64 ((gt a1_2646 v13_2675).B)]) (fun _ hz => (.load rfl rfl (.sptM (f := api_Instr.cells) hb2679 rfl) rfl)) ?_
      refine DAny.take (i := 8) rfl (by kernel_rfl) [] (by kernel_rfl) (by kernel_rfl) (by kernel_rfl) rfl rfl rfl (v := V.bool (!(api_Instr.beq (gt a0_2645 v13_2675) (gt a1_2646 v13_2675)))) (fun _ hz => (.neA rfl rfl rfl rfl okT31 rfl)) ?_
      refine DAny.nil (by kernel_rfl) ?_
      repeat (first | refine Safe.seq ?_ | refine Safe.skip ?_ | with_reducible refine thenQ.n ?_ | with_reducible refine blockQ.n ?_)
      refine ifG h (fun hc2680 h => ?_) (fun hc2680 h => ?_)
      · skip
        refine Safe.condK rfl hc2680 ?_
        repeat (first | refine Safe.seq ?_ | refine Safe.skip ?_ | with_reducible refine thenQ.n ?_ | with_reducible refine blockQ.n ?_)
        refine Safe.region ?_
        refine SafeOps.quiet0 E_good rfl rfl rfl (v := V.bool false) (.fn rfl) ?_
        refine SafeOps.nil ?_
        repeat (first | refine Safe.seq ?_ | refine Safe.skip ?_ | with_reducible refine thenQ.n ?_ | with_reducible refine blockQ.n ?_)
        refine Safe.ret ?_
        repeat (first | with_reducible refine thenQ.r ?_ | with_reducible refine blockQ.r ?_)
        replace h := inr_out h hr2676
        obtain rfl := Option.some.inj h
        exact retQ.gen (vs := [V.bool false]) rfl (.tmp (v := V.bool false) rfl .nil) (.free rfl) (by simp) (.inr rfl)
      · skip
        refine Safe.condN rfl hc2680 ?_
        repeat (first | refine Safe.seq ?_ | refine Safe.skip ?_ | with_reducible refine thenQ.n ?_ | with_reducible refine blockQ.n ?_)
        refine Safe.region ?_
        refine SafeOps.quiet0 E_good rfl rfl rfl (v := V.int .i64 (IntKind.i64.wrap (v13_2675 + 1))) (.fn rfl) ?_
        refine SafeOps.quiet0 E_good rfl rfl rfl (v := V.int .i64 (IntKind.i64.wrap (v13_2675 + 1))) (.fn rfl) ?_
        refine SafeOps.nil ?_
        repeat (first | refine Safe.seq ?_ | refine Safe.skip ?_ | with_reducible refine thenQ.n ?_ | with_reducible refine blockQ.n ?_)
        exact ⟨_, next_out h, (.cov ⟨rfl, rfl, (upT_cons (.refl _) (upT_cons (.refl _) (upT_cons (.refl _) (upT_cons (.refl _) upT_nil)))), upOb_nil, upOut_nil, rfl⟩)⟩
    · skip
      refine Safe.condN rfl hc2677 ?_
      repeat (first | refine Safe.seq ?_ | refine Safe.skip ?_ | with_reducible refine thenQ.n ?_ | with_reducible refine blockQ.n ?_)
      refine Safe.exit ?_
      repeat (first | with_reducible refine thenQ.e ?_ | with_reducible refine blockQ.x rfl ?_ | with_reducible refine blockQ.y rfl ?_)
      replace h := inr_out h hr2676
      repeat (first | refine Safe.seq ?_ | refine Safe.skip ?_ | with_reducible refine thenQ.n ?_ | with_reducible refine blockQ.n ?_)
      refine Safe.region ?_
      refine SafeOps.quiet0 E_good rfl rfl rfl (v := V.bool true) (.fn rfl) ?_
      refine SafeOps.nil ?_
      repeat (first | refine Safe.seq ?_ | refine Safe.skip ?_ | with_reducible refine thenQ.n ?_ | with_reducible refine blockQ.n ?_)
      refine Safe.ret ?_
      repeat (first | with_reducible refine thenQ.r ?_ | with_reducible refine blockQ.r ?_)
      obtain rfl := Option.some.inj h
      exact retQ.gen (vs := [V.bool true]) rfl (.tmp (v := V.bool true) rfl .nil) (.free rfl) (by simp) (.inr rfl)

noncomputable def go_slices_EqualFunc_api_Instr_api_Instr_api_Instr_api_Instr_Instr36_s1 (a0_2637 : List (List api_Instr)) (a1_2638 : List (List api_Instr)) : (Int) → Option ((Int) ⊕ (Bool))
  | v17_2713 =>
    if (decide (v17_2713 < (a0_2637.length : Int))) = true then
      if 0 ≤ v17_2713 ∧ v17_2713 < (a0_2637.length : Int) then
        if 0 ≤ v17_2713 ∧ v17_2713 < (a1_2638.length : Int) then
          (go_slices_Equal_api_Instr_api_Instr (gt a0_2637 v17_2713) (gt a1_2638 v17_2713)).bind fun x_2718 =>
          if (!x_2718) = true then
            inrO (
              some false)
          else
            nextO (IntKind.i64.wrap (v17_2713 + 1))
        else none
      else none
    else
      inrO (
        some true)

noncomputable def go_slices_EqualFunc_api_Instr_api_Instr_api_Instr_api_Instr_Instr36 (a0_2637 : List (List api_Instr)) (a1_2638 : List (List api_Instr)) : Option Bool :=
  if ((a0_2637.length : Int) != (a1_2638.length : Int)) = true then
    some false
  else
    whileO (go_slices_EqualFunc_api_Instr_api_Instr_api_Instr_api_Instr_Instr36_s1 a0_2637 a1_2638) 0

theorem go_slices_EqualFunc_api_Instr_api_Instr_api_Instr_api_Instr_Instr36_sc (a0_2637 : List (List api_Instr)) (a1_2638 : List (List api_Instr)) (r : Bool) (h : go_slices_EqualFunc_api_Instr_api_Instr_api_Instr_api_Instr_Instr36 a0_2637 a1_2638 = some r) : SC Try.prog gl 35 [V.sl 1 (rws (fun l => [V.sl 3 (rws api_Instr.cells l)]) a0_2637), V.sl 1 (rws (fun l => [V.sl 3 (rws api_Instr.cells l)]) a1_2638), V.fn 36 []] (V.bool r) := by
  rw [go_slices_EqualFunc_api_Instr_api_Instr_api_Instr_api_Instr_Instr36] at h
  refine SC.of E_good Try.func35 rfl (fun _ _ => Try.call35 _ _) rfl ?_
  repeat (first | refine Safe.seq ?_ | refine Safe.skip ?_ | with_reducible refine thenQ.n ?_ | with_reducible refine blockQ.n ?_)
  refine Safe.region ?_
  refine SafeOps.quiet0 E_good rfl rfl rfl (v := V.bool false) (.fn rfl) ?_
  refine SafeOps.nil ?_
  repeat (first | refine Safe.seq ?_ | refine Safe.skip ?_ | with_reducible refine thenQ.n ?_ | with_reducible refine blockQ.n ?_)
  refine Safe.region ?_
  refine SafeOps.quiet0 E_good rfl rfl rfl (v := V.sl 1 (rws (fun l => [V.sl 3 (rws api_Instr.cells l)]) a0_2637)) (.fn rfl) ?_
  refine SafeOps.quiet0 E_good rfl rfl rfl (v := V.int .i64 (a0_2637.length : Int)) (.fnE rfl lenE) ?_
  refine SafeOps.quiet0 E_good rfl rfl rfl (v := V.sl 1 (rws (fun l => [V.sl 3 (rws api_Instr.cells l)]) a1_2638)) (.fn rfl) ?_
  refine SafeOps.quiet0 E_good rfl rfl rfl (v := V.int .i64 (a1_2638.length : Int)) (.fnE rfl lenE) ?_
  refine SafeOps.quiet0 E_good rfl rfl rfl (v := V.bool ((a0_2637.length : Int) != (a1_2638.length : Int))) (.fn rfl) ?_
  refine SafeOps.nil ?_
  repeat (first | refine Safe.seq ?_ | refine Safe.skip ?_ | with_reducible refine thenQ.n ?_ | with_reducible refine blockQ.n ?_)
  refine ifG h (fun hc2699 h => ?_) (fun hc2699 h => ?_)
  · skip
    refine Safe.condK rfl hc2699 ?_
    repeat (first | refine Safe.seq ?_ | refine Safe.skip ?_ | with_reducible refine thenQ.n ?_ | with_reducible refine blockQ.n ?_)
    refine Safe.region ?_
    refine SafeOps.quiet0 E_good rfl rfl rfl (v := V.bool false) (.fn rfl) ?_
    refine SafeOps.nil ?_
    repeat (first | refine Safe.seq ?_ | refine Safe.skip ?_ | with_reducible refine thenQ.n ?_ | with_reducible refine blockQ.n ?_)
    refine Safe.ret ?_
    repeat (first | with_reducible refine thenQ.r ?_ | with_reducible refine blockQ.r ?_)
    obtain rfl := Option.some.inj h
    exact retQ.gen (vs := [V.bool false]) rfl (.tmp (v := V.bool false) rfl .nil) (.free rfl) (by simp) (.inr rfl)
  · skip
    refine Safe.condN rfl hc2699 ?_
    repeat (first | refine Safe.seq ?_ | refine Safe.skip ?_ | with_reducible refine thenQ.n ?_ | with_reducible refine blockQ.n ?_)
    refine Safe.region ?_
    refine SafeOps.quiet0 E_good rfl rfl rfl (v := V.sl 1 (rws (fun l => [V.sl 3 (rws api_Instr.cells l)]) a0_2637)) (.fn rfl) ?_
    refine SafeOps.quiet0 E_good rfl rfl rfl (v := V.int .i64 (a0_2637.length : Int)) (.fnE rfl lenE) ?_
    refine SafeOps.quiet0 E_good rfl rfl rfl (v := V.int .i64 0) (.fn rfl) ?_
    refine SafeOps.nil ?_
    repeat (first | refine Safe.seq ?_ | refine Safe.skip ?_ | with_reducible refine thenQ.n ?_ | with_reducible refine blockQ.n ?_)
    refine Safe.block ?_
    repeat (first | refine Safe.seq ?_ | refine Safe.skip ?_ | with_reducible refine thenQ.n ?_ | with_reducible refine blockQ.n ?_)
    refine Safe.loopW (fun (v17_2713 : Int) => ⟨Try.f35.ntmps, [(1, V.sl 1 (rws (fun l => [V.sl 3 (rws api_Instr.cells l)]) a1_2638)), (2, V.fn 36 []), (15, V.sl 1 (rws (fun l => [V.sl 3 (rws api_Instr.cells l)]) a0_2637)), (16, V.int .i64 (a0_2637.length : Int)), (17, V.int .i64 v17_2713)], [], [], []⟩) h (.cov ⟨rfl, rfl, (upT_cons (.refl _) (upT_cons (.refl _) (upT_cons (.refl _) (upT_cons (.refl _) (upT_cons (.refl _) upT_nil))))), upOb_nil, upOut_nil, rfl⟩) ?_
    intro v17_2713 ohr2714 h hr2714
    replace h : go_slices_EqualFunc_api_Instr_api_Instr_api_Instr_api_Instr_Instr36_s1 a0_2637 a1_2638 v17_2713 = some ohr2714 := h
    rw [go_slices_EqualFunc_api_Instr_api_Instr_api_Instr_api_Instr_Instr36_s1] at h
    repeat (first | refine Safe.seq ?_ | refine Safe.skip ?_ | with_reducible refine thenQ.n ?_ | with_reducible refine blockQ.n ?_)
    refine Safe.region ?_
    refine SafeOps.quiet0 E_good rfl rfl rfl (v := V.bool (decide (v17_2713 < (a0_2637.length : Int)))) (.fn rfl) ?_
    refine SafeOps.nil ?_
    repeat (first | refine Safe.seq ?_ | refine Safe.skip ?_ | with_reducible refine thenQ.n ?_ | with_reducible refine blockQ.n ?_)
    refine ifG h (fun hc2715 h => ?_) (fun hc2715 h => ?_)
    · skip
      refine Safe.condK rfl hc2715 ?_
      repeat (first | refine Safe.seq ?_ | refine Safe.skip ?_ | with_reducible refine thenQ.n ?_ | with_reducible refine blockQ.n ?_)
      refine Safe.block ?_
      repeat (first | refine Safe.seq ?_ | refine Safe.skip ?_ | with_reducible refine thenQ.n ?_ | with_reducible refine blockQ.n ?_)
      refine Safe.region ?_
      refine SafeOps.quiet0 E_good rfl rfl rfl (v := V.int .i64 v17_2713) (.fn rfl) ?_
      refine okG h (fun hb2716 h => ?_)
      refine SafeOps.quiet0 E_good rfl rfl rfl (v := V.spt 1 (rws (fun l => [V.sl 3 (rws api_Instr.cells l)]) a0_2637) (Int.toNat v17_2713) 0) (.idxSlM (f := (fun l => [V.sl 3 (rws api_Instr.cells l)])) rfl rfl rfl rfl rfl hb2716) ?_
      refine SafeOps.quiet0 E_good rfl rfl rfl (v := V.sl 3 (rws api_Instr.cells (gt a0_2637 v17_2713))) (.load rfl rfl (.sptM (f := (fun l => [V.sl 3 (rws api_Instr.cells l)])) hb2716 rfl) rfl) ?_
      refine SafeOps.quiet0 E_good rfl rfl rfl (v := V.int .i64 v17_2713) (.fn rfl) ?_
      refine SafeOps.quiet0 E_good rfl rfl rfl (v := V.sl 3 (rws api_Instr.cells (gt a0_2637 v17_2713))) (.fn rfl) ?_
      refine SafeOps.nil ?_
      repeat (first | refine Safe.seq ?_ | refine Safe.skip ?_ | with_reducible refine thenQ.n ?_ | with_reducible refine blockQ.n ?_)
      refine Safe.region ?_
      refine SafeOps.quiet0 E_good rfl rfl rfl (v := V.sl 1 (rws (fun l => [V.sl 3 (rws api_Instr.cells l)]) a1_2638)) (.fn rfl) ?_
      refine SafeOps.quiet0 E_good rfl rfl rfl (v := V.int .i64 v17_2713) (.fn rfl) ?_
      refine okG h (fun hb2717 h => ?_)
      refine SafeOps.quiet0 E_good rfl rfl rfl (v := V.spt 1 (rws (fun l => [V.sl 3 (rws api_Instr.cells l)]) a1_2638) (Int.toNat v17_2713) 0) (.idxSlM (f := (fun l => [V.sl 3 (rws api_Instr.cells l)])) rfl rfl rfl rfl rfl hb2717) ?_
      refine SafeOps.quiet0 E_good rfl rfl rfl (v := V.sl 3 (rws api_Instr.cells (gt a1_2638 v17_2713))) (.load rfl rfl (.sptM (f := (fun l => [V.sl 3 (rws api_Instr.cells l)])) hb2717 rfl) rfl) ?_
      refine SafeOps.quiet0 E_good rfl rfl rfl (v := V.sl 3 (rws api_Instr.cells (gt a1_2638 v17_2713))) (.fn rfl) ?_
      refine SafeOps.nil ?_
      repeat (first | refine Safe.seq ?_ | refine Safe.skip ?_ | with_reducible refine thenQ.n ?_ | with_reducible refine blockQ.n ?_)
      refine Safe.region ?_
      refine SafeOps.quiet0 E_good rfl rfl rfl (v := V.fn 36 []) (.fn rfl) ?_
      refine SafeOps.quiet0 E_good rfl rfl rfl (v := V.sl 3 (rws api_Instr.cells (gt a0_2637 v17_2713))) (.fn rfl) ?_
      refine SafeOps.quiet0 E_good rfl rfl rfl (v := V.sl 3 (rws api_Instr.cells (gt a1_2638 v17_2713))) (.fn rfl) ?_
      refine bindG h ?_
      intro x_2718 he2719 h
      refine SafeOps.quiet0 E_good rfl rfl rfl (v := V.bool x_2718) (.callP rfl rfl (go_slices_Equal_api_Instr_api_Instr_sc (gt a0_2637 v17_2713) (gt a1_2638 v17_2713) _ he2719) rfl) ?_
      refine SafeOps.quiet0 E_good rfl rfl rfl (v := V.bool (!x_2718)) (.fn rfl) ?_
      refine SafeOps.nil ?_
      repeat (first | refine Safe.seq ?_ | refine Safe.skip ?_ | with_reducible refine thenQ.n ?_ | with_reducible refine blockQ.n ?_)
      refine ifG h (fun hc2720 h => ?_) (fun hc2720 h => ?_)
      · skip
        refine Safe.condK rfl hc2720 ?_
        repeat (first | refine Safe.seq ?_ | refine Safe.skip ?_ | with_reducible refine thenQ.n ?_ | with_reducible refine blockQ.n ?_)
        refine Safe.region ?_
        refine SafeOps.quiet0 E_good rfl rfl rfl (v := V.bool false) (.fn rfl) ?_
        refine SafeOps.nil ?_
        repeat (first | refine Safe.seq ?_ | refine Safe.skip ?_ | with_reducible refine thenQ.n ?_ | with_reducible refine blockQ.n ?_)
        refine Safe.ret ?_
        repeat (first | with_reducible refine thenQ.r ?_ | with_reducible refine blockQ.r ?_)
        replace h := inr_out h hr2714
        obtain rfl := Option.some.inj h
        exact retQ.gen (vs := [V.bool false]) rfl (.tmp (v := V.bool false) rfl .nil) (.free rfl) (by simp) (.inr rfl)
      · skip
        refine Safe.condN rfl hc2720 ?_
        repeat (first | refine Safe.seq ?_ | refine Safe.skip ?_ | with_reducible refine thenQ.n ?_ | with_reducible refine blockQ.n ?_)
        refine Safe.region ?_
        refine SafeOps.quiet0 E_good rfl rfl rfl (v := V.int .i64 (IntKind.i64.wrap (v17_2713 + 1))) (.fn rfl) ?_
        refine SafeOps.quiet0 E_good rfl rfl rfl (v := V.int .i64 (IntKind.i64.wrap (v17_2713 + 1))) (.fn rfl) ?_
        refine SafeOps.nil ?_
        repeat (first | refine Safe.seq ?_ | refine Safe.skip ?_ | with_reducible refine thenQ.n ?_ | with_reducible refine blockQ.n ?_)
        exact ⟨_, next_out h, (.cov ⟨rfl, rfl, (upT_cons (.refl _) (upT_cons (.refl _) (upT_cons (.refl _) (upT_cons (.refl _) (upT_cons (.refl _) upT_nil))))), upOb_nil, upOut_nil, rfl⟩)⟩
    · skip
      refine Safe.condN rfl hc2715 ?_
      repeat (first | refine Safe.seq ?_ | refine Safe.skip ?_ | with_reducible refine thenQ.n ?_ | with_reducible refine blockQ.n ?_)
      refine Safe.exit ?_
      repeat (first | with_reducible refine thenQ.e ?_ | with_reducible refine blockQ.x rfl ?_ | with_reducible refine blockQ.y rfl ?_)
      replace h := inr_out h hr2714
      repeat (first | refine Safe.seq ?_ | refine Safe.skip ?_ | with_reducible refine thenQ.n ?_ | with_reducible refine blockQ.n ?_)
      refine Safe.region ?_
      refine SafeOps.quiet0 E_good rfl rfl rfl (v := V.bool true) (.fn rfl) ?_
      refine SafeOps.nil ?_
      repeat (first | refine Safe.seq ?_ | refine Safe.skip ?_ | with_reducible refine thenQ.n ?_ | with_reducible refine blockQ.n ?_)
      refine Safe.ret ?_
      repeat (first | with_reducible refine thenQ.r ?_ | with_reducible refine blockQ.r ?_)
      obtain rfl := Option.some.inj h
      exact retQ.gen (vs := [V.bool true]) rfl (.tmp (v := V.bool true) rfl .nil) (.free rfl) (by simp) (.inr rfl)

noncomputable def go_code_Same (a0_2635 : List (List api_Instr)) (a1_2636 : List (List api_Instr)) : Option Bool :=
  (go_slices_EqualFunc_api_Instr_api_Instr_api_Instr_api_Instr_Instr36 a0_2635 a1_2636).bind fun x_2723 =>
  some x_2723

theorem go_code_Same_sc (a0_2635 : List (List api_Instr)) (a1_2636 : List (List api_Instr)) (r : Bool) (h : go_code_Same a0_2635 a1_2636 = some r) : SC Try.prog gl 20 [V.sl 1 (rws (fun l => [V.sl 3 (rws api_Instr.cells l)]) a0_2635), V.sl 1 (rws (fun l => [V.sl 3 (rws api_Instr.cells l)]) a1_2636)] (V.bool r) := by
  rw [go_code_Same] at h
  refine SC.of E_good Try.func20 rfl (fun _ _ => Try.call20 _ _) rfl ?_
  repeat (first | refine Safe.seq ?_ | refine Safe.skip ?_ | with_reducible refine thenQ.n ?_ | with_reducible refine blockQ.n ?_)
  refine Safe.region ?_
  refine SafeOps.quiet0 E_good rfl rfl rfl (v := V.bool false) (.fn rfl) ?_
  refine SafeOps.nil ?_
  repeat (first | refine Safe.seq ?_ | refine Safe.skip ?_ | with_reducible refine thenQ.n ?_ | with_reducible refine blockQ.n ?_)
  refine Safe.region ?_
  refine SafeOps.quiet0 E_good rfl rfl rfl (v := V.sl 1 (rws (fun l => [V.sl 3 (rws api_Instr.cells l)]) a0_2635)) (.fn rfl) ?_
  refine SafeOps.quiet0 E_good rfl rfl rfl (v := V.sl 1 (rws (fun l => [V.sl 3 (rws api_Instr.cells l)]) a1_2636)) (.fn rfl) ?_
  refine bindG h ?_
  intro x_2723 he2724 h
  refine SafeOps.quiet0 E_good rfl rfl rfl (v := V.bool x_2723) (.callP rfl rfl (go_slices_EqualFunc_api_Instr_api_Instr_api_Instr_api_Instr_Instr36_sc a0_2635 a1_2636 _ he2724) rfl) ?_
  refine SafeOps.quiet0 E_good rfl rfl rfl (v := V.bool x_2723) (.fn rfl) ?_
  refine SafeOps.nil ?_
  repeat (first | refine Safe.seq ?_ | refine Safe.skip ?_ | with_reducible refine thenQ.n ?_ | with_reducible refine blockQ.n ?_)
  refine Safe.ret ?_
  repeat (first | with_reducible refine thenQ.r ?_ | with_reducible refine blockQ.r ?_)
  obtain rfl := Option.some.inj h
  exact retQ.gen (vs := [V.bool x_2723]) rfl (.tmp (v := V.bool x_2723) rfl .nil) (.free rfl) (by simp) (.inr rfl)

noncomputable def go_ravelref04_SameOne_s1 (a0_2735 : List api_Instr) (a1_2736 : List api_Instr) : (Int) → Option ((Int) ⊕ (Bool))
  | v13_2765 =>
    if (decide (v13_2765 < (a0_2735.length : Int))) = true then
      if 0 ≤ v13_2765 ∧ v13_2765 < (a0_2735.length : Int) then
        if 0 ≤ v13_2765 ∧ v13_2765 < (a1_2736.length : Int) then
          if (!(api_Instr.beq (gt a0_2735 v13_2765) (gt a1_2736 v13_2765))) = true then
            inrO (
              some false)
          else
            nextO (IntKind.i64.wrap (v13_2765 + 1))
        else none
      else none
    else
      inrO (
        some true)

noncomputable def go_ravelref04_SameOne (a0_2735 : List api_Instr) (a1_2736 : List api_Instr) : Option Bool :=
  if ((a0_2735.length : Int) != (a1_2736.length : Int)) = true then
    some false
  else
    whileO (go_ravelref04_SameOne_s1 a0_2735 a1_2736) 0

noncomputable def go_ravelref04_Same_s1 (a0_2727 : List (List api_Instr)) (a1_2728 : List (List api_Instr)) : (Int) → Option ((Int) ⊕ (Bool))
  | v13_2803 =>
    if (decide (v13_2803 < (a0_2727.length : Int))) = true then
      if 0 ≤ v13_2803 ∧ v13_2803 < (a0_2727.length : Int) then
        if 0 ≤ v13_2803 ∧ v13_2803 < (a1_2728.length : Int) then
          (go_ravelref04_SameOne (gt a0_2727 v13_2803) (gt a1_2728 v13_2803)).bind fun x_2808 =>
          if (!x_2808) = true then
            inrO (
              some false)
          else
            nextO (IntKind.i64.wrap (v13_2803 + 1))
        else none
      else none
    else
      inrO (
        some true)

noncomputable def go_ravelref04_Same (a0_2727 : List (List api_Instr)) (a1_2728 : List (List api_Instr)) : Option Bool :=
  if ((a0_2727.length : Int) != (a1_2728.length : Int)) = true then
    some false
  else
    whileO (go_ravelref04_Same_s1 a0_2727 a1_2728) 0

end Go.Proofs.Ytdlpecjbafadkaa
