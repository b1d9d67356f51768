/- Helper lemmas for the claim's theorem: an abstract machine over the model, proved sound; no condition beyond each lemma's own. -/
import Derived.Test.YtdlpecjbafadkaaT1
set_option linter.unusedVariables false
set_option linter.unusedSimpArgs false
set_option linter.unnecessarySimpa false
set_option linter.unusedSectionVars false
namespace Go.Proofs.Ytdlpecjbafadkaa
open Go Go.AM
set_option maxRecDepth 100000
set_option maxHeartbeats 1000000
set_option linter.unusedVariables false
set_option linter.unusedSimpArgs false
variable {gl : List (Nat × List V)}
noncomputable def go_ravellaw04_CodeChecks_j3 (a0_1056 : List (List api_Instr)) (a1_1057 : List (List api_Instr)) (b_2964 : Bool) : Option Bool :=
  if b_2964 = true then
    (go_code_Same a0_1056 a1_1057).bind fun x_2971 =>
    (go_ravelref04_Same a0_1056 a1_1057).bind fun x_2973 =>
    some (x_2971 == x_2973)
  else
    some false

noncomputable def go_ravellaw04_CodeChecks_s2 (a0_1056 : List (List api_Instr)) (a1_1057 : List (List api_Instr)) (a2_1058 : Int) (x_2821 : Bool) : (Int) → Option ((Int) ⊕ (Bool))
  | v30_2930 =>
    if (decide (v30_2930 < (a0_1056.length : Int))) = true then
      if 0 ≤ v30_2930 ∧ v30_2930 < (a0_1056.length : Int) then
        (go_code_Units (gt a0_1056 v30_2930)).bind fun (x_2934, x_2935) =>
        (go_ravelref04_Units (gt a0_1056 v30_2930)).bind fun (x_2937, x_2938) =>
        if ((x_2934 != x_2937) || (x_2935 != x_2938)) = true then
          inrO (
            some false)
        else
          (go_code_Check (gt a0_1056 v30_2930)).bind fun x_2946 =>
          (go_ravelref04_Check (gt a0_1056 v30_2930)).bind fun x_2948 =>
          if (x_2946 != x_2948) = true then
            inrO (
              some false)
          else
            nextO (IntKind.i64.wrap (v30_2930 + 1))
      else none
    else
      inrO (
        (go_code_Tasks a0_1056 a2_1058).bind fun (x_2951, x_2952) =>
        (go_ravelref04_Tasks a0_1056 a2_1058).bind fun (x_2954, x_2955) =>
        if ((x_2821 && (x_2951 == x_2954)) && (x_2952 == x_2955)) = true then
          (go_code_CheckAll a0_1056).bind fun x_2975 =>
          (go_ravelref04_CheckAll a0_1056).bind fun x_2977 =>
          go_ravellaw04_CodeChecks_j3 a0_1056 a1_1057 (x_2975 == x_2977)
        else
          go_ravellaw04_CodeChecks_j3 a0_1056 a1_1057 false)

noncomputable def go_ravellaw04_CodeChecks (a0_1056 : List (List api_Instr)) (a1_1057 : List (List api_Instr)) (a2_1058 : Int) : Option Bool :=
  (go_ravellaw04_live).bind fun x_2821 =>
  (go_ravelref04_Few a0_1056).bind fun x_2823 =>
  if (!x_2823) = true then
    some x_2821
  else
    (go_ravelref04_Few a1_1057).bind fun x_2828 =>
    if (!x_2828) = true then
      some x_2821
    else
      whileO (go_ravellaw04_CodeChecks_s2 a0_1056 a1_1057 a2_1058 x_2821) 0

theorem go_ravellaw04_CodeChecks_sc (a0_1056 : List (List api_Instr)) (a1_1057 : List (List api_Instr)) (a2_1058 : Int) (r : Bool) (h : go_ravellaw04_CodeChecks a0_1056 a1_1057 a2_1058 = some r) : SC Try.prog gl 7 [V.sl 1 (rws (fun l => [V.sl 3 (rws api_Instr.cells l)]) a0_1056), V.sl 1 (rws (fun l => [V.sl 3 (rws api_Instr.cells l)]) a1_1057), V.int .i64 a2_1058] (V.bool r) := by
  rw [go_ravellaw04_CodeChecks] at h
  refine SC.of E_good Try.func7 rfl (fun _ _ => Try.call7 _ _) rfl ?_
  repeat (first | refine Safe.seq ?_ | refine Safe.skip ?_ | with_reducible refine thenQ.n ?_ | with_reducible refine blockQ.n ?_)
  refine Safe.region ?_
  refine SafeOps.quiet0 E_good rfl rfl rfl (v := V.bool false) (.fn rfl) ?_
  refine SafeOps.nil ?_
  repeat (first | refine Safe.seq ?_ | refine Safe.skip ?_ | with_reducible refine thenQ.n ?_ | with_reducible refine blockQ.n ?_)
  refine Safe.region ?_
  refine bindG h ?_
  intro x_2821 he2822 h
  refine SafeOps.quiet0 E_good rfl rfl rfl (v := V.bool x_2821) (.callP rfl rfl (go_ravellaw04_live_sc  _ he2822) rfl) ?_
  refine SafeOps.quiet0 E_good rfl rfl rfl (v := V.bool x_2821) (.fn rfl) ?_
  refine SafeOps.nil ?_
  repeat (first | refine Safe.seq ?_ | refine Safe.skip ?_ | with_reducible refine thenQ.n ?_ | with_reducible refine blockQ.n ?_)
  refine Safe.region ?_
  refine SafeOps.quiet0 E_good rfl rfl rfl (v := V.sl 1 (rws (fun l => [V.sl 3 (rws api_Instr.cells l)]) a0_1056)) (.fn rfl) ?_
  refine bindG h ?_
  intro x_2823 he2824 h
  refine SafeOps.quiet0 E_good rfl rfl rfl (v := V.bool x_2823) (.callP rfl rfl (go_ravelref04_Few_sc a0_1056 _ he2824) rfl) ?_
  refine SafeOps.quiet0 E_good rfl rfl rfl (v := V.bool (!x_2823)) (.fn rfl) ?_
  refine SafeOps.quiet0 E_good rfl rfl rfl (v := V.bool (!x_2823)) (.fn rfl) ?_
  refine ifG h (fun hc2825 h => ?_) (fun hc2825 h => ?_)
  · skip
    refine SafeOps.skip (congrArg (fun b => some (!b)) hc2825) rfl rfl ?_
    refine SafeOps.skip (congrArg (fun b => some (!b)) hc2825) rfl rfl ?_
    refine SafeOps.skip (congrArg (fun b => some (!b)) hc2825) rfl rfl ?_
    refine SafeOps.quiet0 E_good rfl rfl rfl (v := V.bool true) (.pickK rfl hc2825 rfl) ?_
    refine SafeOps.nil ?_
    repeat (first | refine Safe.seq ?_ | refine Safe.skip ?_ | with_reducible refine thenQ.n ?_ | with_reducible refine blockQ.n ?_)
    refine Safe.condK rfl rfl ?_
    repeat (first | refine Safe.seq ?_ | refine Safe.skip ?_ | with_reducible refine thenQ.n ?_ | with_reducible refine blockQ.n ?_)
    refine Safe.region ?_
    refine SafeOps.quiet0 E_good rfl rfl rfl (v := V.bool x_2821) (.fn rfl) ?_
    refine SafeOps.quiet0 E_good rfl rfl rfl (v := V.bool x_2821) (.fn rfl) ?_
    refine SafeOps.nil ?_
    repeat (first | refine Safe.seq ?_ | refine Safe.skip ?_ | with_reducible refine thenQ.n ?_ | with_reducible refine blockQ.n ?_)
    refine Safe.ret ?_
    repeat (first | with_reducible refine thenQ.r ?_ | with_reducible refine blockQ.r ?_)
    obtain rfl := Option.some.inj h
    exact retQ.gen (vs := [V.bool x_2821]) rfl (.tmp (v := V.bool x_2821) rfl .nil) (.free rfl) (by simp) (.inr rfl)
  · skip
    refine SafeOps.quiet0 E_good (congrArg (fun b => some (!b)) hc2825) rfl rfl (v := V.sl 1 (rws (fun l => [V.sl 3 (rws api_Instr.cells l)]) a1_1057)) (.fn rfl) ?_
    refine bindG h ?_
    intro x_2828 he2829 h
    refine SafeOps.quiet0 E_good (congrArg (fun b => some (!b)) hc2825) rfl rfl (v := V.bool x_2828) (.callP rfl rfl (go_ravelref04_Few_sc a1_1057 _ he2829) rfl) ?_
    refine SafeOps.quiet0 E_good (congrArg (fun b => some (!b)) hc2825) rfl rfl (v := V.bool (!x_2828)) (.fn rfl) ?_
    refine SafeOps.quiet0 E_good rfl rfl rfl (v := V.bool (!x_2828)) (.pickK rfl hc2825 rfl) ?_
    refine SafeOps.nil ?_
    repeat (first | refine Safe.seq ?_ | refine Safe.skip ?_ | with_reducible refine thenQ.n ?_ | with_reducible refine blockQ.n ?_)
    refine ifG h (fun hc2830 h => ?_) (fun hc2830 h => ?_)
    · skip
      refine Safe.condK rfl hc2830 ?_
      repeat (first | refine Safe.seq ?_ | refine Safe.skip ?_ | with_reducible refine thenQ.n ?_ | with_reducible refine blockQ.n ?_)
      refine Safe.region ?_
      refine SafeOps.quiet0 E_good rfl rfl rfl (v := V.bool x_2821) (.fn rfl) ?_
      refine SafeOps.quiet0 E_good rfl rfl rfl (v := V.bool x_2821) (.fn rfl) ?_
      refine SafeOps.nil ?_
      repeat (first | refine Safe.seq ?_ | refine Safe.skip ?_ | with_reducible refine thenQ.n ?_ | with_reducible refine blockQ.n ?_)
      refine Safe.ret ?_
      repeat (first | with_reducible refine thenQ.r ?_ | with_reducible refine blockQ.r ?_)
      obtain rfl := Option.some.inj h
      exact retQ.gen (vs := [V.bool x_2821]) rfl (.tmp (v := V.bool x_2821) rfl .nil) (.free rfl) (by simp) (.inr rfl)
    · skip
      refine Safe.condN rfl hc2830 ?_
      repeat (first | refine Safe.seq ?_ | refine Safe.skip ?_ | with_reducible refine thenQ.n ?_ | with_reducible refine blockQ.n ?_)
      refine Safe.region ?_
      refine SafeOps.quiet0 E_good rfl rfl rfl (v := V.sl 1 (rws (fun l => [V.sl 3 (rws api_Instr.cells l)]) a0_1056)) (.fn rfl) ?_
      refine SafeOps.quiet0 E_good rfl rfl rfl (v := V.int .i64 (a0_1056.length : Int)) (.fnE rfl lenE) ?_
      refine SafeOps.quiet0 E_good rfl rfl rfl (v := V.int .i64 0) (.fn rfl) ?_
      refine SafeOps.nil ?_
      repeat (first | refine Safe.seq ?_ | refine Safe.skip ?_ | with_reducible refine thenQ.n ?_ | with_reducible refine blockQ.n ?_)
      refine Safe.block ?_
      repeat (first | refine Safe.seq ?_ | refine Safe.skip ?_ | with_reducible refine thenQ.n ?_ | with_reducible refine blockQ.n ?_)
      refine Safe.loopW (fun (v30_2930 : Int) => ⟨Try.f7.ntmps, [(0, V.sl 1 (rws (fun l => [V.sl 3 (rws api_Instr.cells l)]) a0_1056)), (1, V.sl 1 (rws (fun l => [V.sl 3 (rws api_Instr.cells l)]) a1_1057)), (2, V.int .i64 a2_1058), (7, V.bool x_2821), (28, V.sl 1 (rws (fun l => [V.sl 3 (rws api_Instr.cells l)]) a0_1056)), (29, V.int .i64 (a0_1056.length : Int)), (30, V.int .i64 v30_2930)], [], [], []⟩) h (.cov ⟨rfl, rfl, (upT_cons (.refl _) (upT_cons (.refl _) (upT_cons (.refl _) (upT_cons (.refl _) (upT_cons (.refl _) (upT_cons (.refl _) (upT_cons (.refl _) upT_nil))))))), upOb_nil, upOut_nil, rfl⟩) ?_
      intro v30_2930 ohr2931 h hr2931
      replace h : go_ravellaw04_CodeChecks_s2 a0_1056 a1_1057 a2_1058 x_2821 v30_2930 = some ohr2931 := h
      rw [go_ravellaw04_CodeChecks_s2] at h
      repeat (first | refine Safe.seq ?_ | refine Safe.skip ?_ | with_reducible refine thenQ.n ?_ | with_reducible refine blockQ.n ?_)
      refine Safe.region ?_
      refine SafeOps.quiet0 E_good rfl rfl rfl (v := V.bool (decide (v30_2930 < (a0_1056.length : Int)))) (.fn rfl) ?_
      refine SafeOps.nil ?_
      repeat (first | refine Safe.seq ?_ | refine Safe.skip ?_ | with_reducible refine thenQ.n ?_ | with_reducible refine blockQ.n ?_)
      refine ifG h (fun hc2932 h => ?_) (fun hc2932 h => ?_)
      · skip
        refine Safe.condK rfl hc2932 ?_
        repeat (first | refine Safe.seq ?_ | refine Safe.skip ?_ | with_reducible refine thenQ.n ?_ | with_reducible refine blockQ.n ?_)
        refine Safe.block ?_
        repeat (first | refine Safe.seq ?_ | refine Safe.skip ?_ | with_reducible refine thenQ.n ?_ | with_reducible refine blockQ.n ?_)
        refine Safe.region ?_
        refine okG h (fun hb2933 h => ?_)
        refine SafeOps.quiet0 E_good rfl rfl rfl (v := V.spt 1 (rws (fun l => [V.sl 3 (rws api_Instr.cells l)]) a0_1056) (Int.toNat v30_2930) 0) (.idxSlM (f := (fun l => [V.sl 3 (rws api_Instr.cells l)])) rfl rfl rfl rfl rfl hb2933) ?_
        refine SafeOps.quiet0 E_good rfl rfl rfl (v := V.sl 3 (rws api_Instr.cells (gt a0_1056 v30_2930))) (.load rfl rfl (.sptM (f := (fun l => [V.sl 3 (rws api_Instr.cells l)])) hb2933 rfl) rfl) ?_
        refine SafeOps.quiet0 E_good rfl rfl rfl (v := V.sl 3 (rws api_Instr.cells (gt a0_1056 v30_2930))) (.fn rfl) ?_
        refine SafeOps.nil ?_
        repeat (first | refine Safe.seq ?_ | refine Safe.skip ?_ | with_reducible refine thenQ.n ?_ | with_reducible refine blockQ.n ?_)
        refine Safe.region ?_
        refine SafeOps.quiet0 E_good rfl rfl rfl (v := V.sl 3 (rws api_Instr.cells (gt a0_1056 v30_2930))) (.fn rfl) ?_
        refine bindG h ?_
        rintro ⟨x_2934, x_2935⟩ he2936 h
        refine SafeOps.quiet0 E_good rfl rfl rfl (v := V.tup [V.int .i64 x_2934, V.int .i64 x_2935]) (.callP rfl rfl (go_code_Units_sc (gt a0_1056 v30_2930) _ he2936) rfl) ?_
        refine SafeOps.quiet0 E_good rfl rfl rfl (v := V.tup [V.int .i64 x_2934, V.int .i64 x_2935]) (.fn rfl) ?_
        refine SafeOps.quiet0 E_good rfl rfl rfl (v := V.int .i64 x_2934) (.fn rfl) ?_
        refine SafeOps.quiet0 E_good rfl rfl rfl (v := V.int .i64 x_2935) (.fn rfl) ?_
        refine SafeOps.quiet0 E_good rfl rfl rfl (v := V.int .i64 x_2934) (.fn rfl) ?_
        refine SafeOps.quiet0 E_good rfl rfl rfl (v := V.int .i64 x_2935) (.fn rfl) ?_
        refine SafeOps.nil ?_
        repeat (first | refine Safe.seq ?_ | refine Safe.skip ?_ | with_reducible refine thenQ.n ?_ | with_reducible refine blockQ.n ?_)
        refine Safe.region ?_
        refine SafeOps.quiet0 E_good rfl rfl rfl (v := V.sl 3 (rws api_Instr.cells (gt a0_1056 v30_2930))) (.fn rfl) ?_
        refine bindG h ?_
        rintro ⟨x_2937, x_2938⟩ he2939 h
        refine SafeOps.quiet0 E_good rfl rfl rfl (v := V.tup [V.int .i64 x_2937, V.int .i64 x_2938]) (.callP rfl rfl (go_ravelref04_Units_sc (gt a0_1056 v30_2930) _ he2939) rfl) ?_
        refine SafeOps.quiet0 E_good rfl rfl rfl (v := V.tup [V.int .i64 x_2937, V.int .i64 x_2938]) (.fn rfl) ?_
        refine SafeOps.quiet0 E_good rfl rfl rfl (v := V.int .i64 x_2937) (.fn rfl) ?_
        refine SafeOps.quiet0 E_good rfl rfl rfl (v := V.int .i64 x_2938) (.fn rfl) ?_
        refine SafeOps.quiet0 E_good rfl rfl rfl (v := V.int .i64 x_2937) (.fn rfl) ?_
        refine SafeOps.quiet0 E_good rfl rfl rfl (v := V.int .i64 x_2938) (.fn rfl) ?_
        refine SafeOps.nil ?_
        repeat (first | refine Safe.seq ?_ | refine Safe.skip ?_ | with_reducible refine thenQ.n ?_ | with_reducible refine blockQ.n ?_)
        refine Safe.region ?_
        refine SafeOps.quiet0 E_good rfl rfl rfl (v := V.int .i64 x_2934) (.fn rfl) ?_
        refine SafeOps.quiet0 E_good rfl rfl rfl (v := V.int .i64 x_2937) (.fn rfl) ?_
        refine SafeOps.quiet0 E_good rfl rfl rfl (v := V.bool (x_2934 != x_2937)) (.fn rfl) ?_
        refine SafeOps.quiet0 E_good rfl rfl rfl (v := V.bool (x_2934 != x_2937)) (.fn rfl) ?_
        refine SafeOps.bjoin 4 51 (b := ((x_2934 != x_2937) || (x_2935 != x_2938))) (b1 := true) (b0 := (x_2935 != x_2938)) (fun hc2940 K => ?_) (fun hc2940 K => ?_) bj_or ?_
        · skip
          refine SafeOps.skip (congrArg (fun b => some (!b)) hc2940) rfl rfl ?_
          refine SafeOps.skip (congrArg (fun b => some (!b)) hc2940) rfl rfl ?_
          refine SafeOps.skip (congrArg (fun b => some (!b)) hc2940) rfl rfl ?_
          refine SafeOps.quiet0 E_good rfl rfl rfl (v := V.bool true) (.pickK rfl hc2940 rfl) ?_
          exact SafeOps.drop' 4 rfl rfl rfl K
        · skip
          refine SafeOps.quiet0 E_good (congrArg (fun b => some (!b)) hc2940) rfl rfl (v := V.int .i64 x_2935) (.fn rfl) ?_
          refine SafeOps.quiet0 E_good (congrArg (fun b => some (!b)) hc2940) rfl rfl (v := V.int .i64 x_2938) (.fn rfl) ?_
          refine SafeOps.quiet0 E_good (congrArg (fun b => some (!b)) hc2940) rfl rfl (v := V.bool (x_2935 != x_2938)) (.fn rfl) ?_
          refine SafeOps.quiet0 E_good rfl rfl rfl (v := V.bool (x_2935 != x_2938)) (.pickK rfl hc2940 rfl) ?_
          exact SafeOps.drop' 4 rfl rfl rfl K
        refine SafeOps.quiet0 E_good rfl rfl rfl (v := V.bool ((x_2934 != x_2937) || (x_2935 != x_2938))) (.fn rfl) ?_
        refine ifG h (fun hc2941 h => ?_) (fun hc2941 h => ?_)
        · skip
          refine SafeOps.skip (congrArg (fun b => some (!b)) hc2941) rfl rfl ?_
          refine SafeOps.skip (congrArg (fun b => some (!b)) hc2941) rfl rfl ?_
          refine SafeOps.skip (congrArg (fun b => some (!b)) hc2941) rfl rfl ?_
          refine SafeOps.skip (congrArg (fun b => some (!b)) hc2941) rfl rfl ?_
          refine SafeOps.skip (congrArg (fun b => some (!b)) hc2941) rfl rfl ?_
          refine SafeOps.quiet0 E_good rfl rfl rfl (v := V.bool true) (.pickK rfl hc2941 rfl) ?_
          refine SafeOps.nil ?_
          repeat (first | refine Safe.seq ?_ | refine Safe.skip ?_ | with_reducible refine thenQ.n ?_ | with_reducible refine blockQ.n ?_)
          refine Safe.condK rfl rfl ?_
          repeat (first | refine Safe.seq ?_ | refine Safe.skip ?_ | with_reducible refine thenQ.n ?_ | with_reducible refine blockQ.n ?_)
          refine Safe.region ?_
          refine SafeOps.quiet0 E_good rfl rfl rfl (v := V.bool false) (.fn rfl) ?_
          refine SafeOps.nil ?_
          repeat (first | refine Safe.seq ?_ | refine Safe.skip ?_ | with_reducible refine thenQ.n ?_ | with_reducible refine blockQ.n ?_)
          refine Safe.ret ?_
          repeat (first | with_reducible refine thenQ.r ?_ | with_reducible refine blockQ.r ?_)
          replace h := inr_out h hr2931
          obtain rfl := Option.some.inj h
          exact retQ.gen (vs := [V.bool false]) rfl (.tmp (v := V.bool false) rfl .nil) (.free rfl) (by simp) (.inr rfl)
        · skip
          refine SafeOps.quiet0 E_good (congrArg (fun b => some (!b)) hc2941) rfl rfl (v := V.sl 3 (rws api_Instr.cells (gt a0_1056 v30_2930))) (.fn rfl) ?_
          refine bindG h ?_
          intro x_2946 he2947 h
          refine SafeOps.quiet0 E_good (congrArg (fun b => some (!b)) hc2941) rfl rfl (v := V.int .i64 x_2946) (.callP rfl rfl (go_code_Check_sc (gt a0_1056 v30_2930) _ he2947) rfl) ?_
          refine SafeOps.quiet0 E_good (congrArg (fun b => some (!b)) hc2941) rfl rfl (v := V.sl 3 (rws api_Instr.cells (gt a0_1056 v30_2930))) (.fn rfl) ?_
          refine bindG h ?_
          intro x_2948 he2949 h
          refine SafeOps.quiet0 E_good (congrArg (fun b => some (!b)) hc2941) rfl rfl (v := V.int .i64 x_2948) (.callP rfl rfl (go_ravelref04_Check_sc (gt a0_1056 v30_2930) _ he2949) rfl) ?_
          refine SafeOps.quiet0 E_good (congrArg (fun b => some (!b)) hc2941) rfl rfl (v := V.bool (x_2946 != x_2948)) (.fn rfl) ?_
          refine SafeOps.quiet0 E_good rfl rfl rfl (v := V.bool (x_2946 != x_2948)) (.pickK rfl hc2941 rfl) ?_
          refine SafeOps.nil ?_
          repeat (first | refine Safe.seq ?_ | refine Safe.skip ?_ | with_reducible refine thenQ.n ?_ | with_reducible refine blockQ.n ?_)
          refine ifG h (fun hc2950 h => ?_) (fun hc2950 h => ?_)
          · skip
            refine Safe.condK rfl hc2950 ?_
            repeat (first | refine Safe.seq ?_ | refine Safe.skip ?_ | with_reducible refine thenQ.n ?_ | with_reducible refine blockQ.n ?_)
            refine Safe.region ?_
            refine SafeOps.quiet0 E_good rfl rfl rfl (v := V.bool false) (.fn rfl) ?_
            refine SafeOps.nil ?_
            repeat (first | refine Safe.seq ?_ | refine Safe.skip ?_ | with_reducible refine thenQ.n ?_ | with_reducible refine blockQ.n ?_)
            refine Safe.ret ?_
            repeat (first | with_reducible refine thenQ.r ?_ | with_reducible refine blockQ.r ?_)
            replace h := inr_out h hr2931
            obtain rfl := Option.some.inj h
            exact retQ.gen (vs := [V.bool false]) rfl (.tmp (v := V.bool false) rfl .nil) (.free rfl) (by simp) (.inr rfl)
          · skip
            refine Safe.condN rfl hc2950 ?_
            repeat (first | refine Safe.seq ?_ | refine Safe.skip ?_ | with_reducible refine thenQ.n ?_ | with_reducible refine blockQ.n ?_)
            refine Safe.region ?_
            refine SafeOps.quiet0 E_good rfl rfl rfl (v := V.int .i64 (IntKind.i64.wrap (v30_2930 + 1))) (.fn rfl) ?_
            refine SafeOps.quiet0 E_good rfl rfl rfl (v := V.int .i64 (IntKind.i64.wrap (v30_2930 + 1))) (.fn rfl) ?_
            refine SafeOps.nil ?_
            repeat (first | refine Safe.seq ?_ | refine Safe.skip ?_ | with_reducible refine thenQ.n ?_ | with_reducible refine blockQ.n ?_)
            exact ⟨_, next_out h, (.cov ⟨rfl, rfl, (upT_cons (.refl _) (upT_cons (.refl _) (upT_cons (.refl _) (upT_cons (.refl _) (upT_cons (.refl _) (upT_cons (.refl _) (upT_cons (.refl _) upT_nil))))))), upOb_nil, upOut_nil, rfl⟩)⟩
      · skip
        refine Safe.condN rfl hc2932 ?_
        repeat (first | refine Safe.seq ?_ | refine Safe.skip ?_ | with_reducible refine thenQ.n ?_ | with_reducible refine blockQ.n ?_)
        refine Safe.exit ?_
        repeat (first | with_reducible refine thenQ.e ?_ | with_reducible refine blockQ.x rfl ?_ | with_reducible refine blockQ.y rfl ?_)
        replace h := inr_out h hr2931
        repeat (first | refine Safe.seq ?_ | refine Safe.skip ?_ | with_reducible refine thenQ.n ?_ | with_reducible refine blockQ.n ?_)
        refine Safe.region ?_
        refine SafeOps.quiet0 E_good rfl rfl rfl (v := V.sl 1 (rws (fun l => [V.sl 3 (rws api_Instr.cells l)]) a0_1056)) (.fn rfl) ?_
        refine SafeOps.quiet0 E_good rfl rfl rfl (v := V.int .i64 a2_1058) (.fn rfl) ?_
        refine bindG h ?_
        rintro ⟨x_2951, x_2952⟩ he2953 h
        refine SafeOps.quiet0 E_good rfl rfl rfl (v := V.tup [V.int .i64 x_2951, V.int .i64 x_2952]) (.callP rfl rfl (go_code_Tasks_sc a0_1056 a2_1058 _ he2953) rfl) ?_
        refine SafeOps.quiet0 E_good rfl rfl rfl (v := V.tup [V.int .i64 x_2951, V.int .i64 x_2952]) (.fn rfl) ?_
        refine SafeOps.quiet0 E_good rfl rfl rfl (v := V.int .i64 x_2951) (.fn rfl) ?_
        refine SafeOps.quiet0 E_good rfl rfl rfl (v := V.int .i64 x_2952) (.fn rfl) ?_
        refine SafeOps.quiet0 E_good rfl rfl rfl (v := V.int .i64 x_2951) (.fn rfl) ?_
        refine SafeOps.quiet0 E_good rfl rfl rfl (v := V.int .i64 x_2952) (.fn rfl) ?_
        refine SafeOps.nil ?_
        repeat (first | refine Safe.seq ?_ | refine Safe.skip ?_ | with_reducible refine thenQ.n ?_ | with_reducible refine blockQ.n ?_)
        refine Safe.region ?_
        refine SafeOps.quiet0 E_good rfl rfl rfl (v := V.sl 1 (rws (fun l => [V.sl 3 (rws api_Instr.cells l)]) a0_1056)) (.fn rfl) ?_
        refine SafeOps.quiet0 E_good rfl rfl rfl (v := V.int .i64 a2_1058) (.fn rfl) ?_
        refine bindG h ?_
        rintro ⟨x_2954, x_2955⟩ he2956 h
        refine SafeOps.quiet0 E_good rfl rfl rfl (v := V.tup [V.int .i64 x_2954, V.int .i64 x_2955]) (.callP rfl rfl (go_ravelref04_Tasks_sc a0_1056 a2_1058 _ he2956) rfl) ?_
        refine SafeOps.quiet0 E_good rfl rfl rfl (v := V.tup [V.int .i64 x_2954, V.int .i64 x_2955]) (.fn rfl) ?_
        refine SafeOps.quiet0 E_good rfl rfl rfl (v := V.int .i64 x_2954) (.fn rfl) ?_
        refine SafeOps.quiet0 E_good rfl rfl rfl (v := V.int .i64 x_2955) (.fn rfl) ?_
        refine SafeOps.quiet0 E_good rfl rfl rfl (v := V.int .i64 x_2954) (.fn rfl) ?_
        refine SafeOps.quiet0 E_good rfl rfl rfl (v := V.int .i64 x_2955) (.fn rfl) ?_
        refine SafeOps.nil ?_
        repeat (first | refine Safe.seq ?_ | refine Safe.skip ?_ | with_reducible refine thenQ.n ?_ | with_reducible refine blockQ.n ?_)
        refine Safe.region ?_
        refine SafeOps.quiet0 E_good rfl rfl rfl (v := V.bool x_2821) (.fn rfl) ?_
        refine SafeOps.quiet0 E_good rfl rfl rfl (v := V.bool x_2821) (.fn rfl) ?_
        refine SafeOps.bjoin 4 77 (b := (x_2821 && (x_2951 == x_2954))) (b1 := (x_2951 == x_2954)) (b0 := false) (fun hc2957 K => ?_) (fun hc2957 K => ?_) bj_and ?_
        · skip
          refine SafeOps.quiet0 E_good (congrArg some hc2957) rfl rfl (v := V.int .i64 x_2951) (.fn rfl) ?_
          refine SafeOps.quiet0 E_good (congrArg some hc2957) rfl rfl (v := V.int .i64 x_2954) (.fn rfl) ?_
          refine SafeOps.quiet0 E_good (congrArg some hc2957) rfl rfl (v := V.bool (x_2951 == x_2954)) (.fn rfl) ?_
          refine SafeOps.quiet0 E_good rfl rfl rfl (v := V.bool (x_2951 == x_2954)) (.pickK rfl hc2957 rfl) ?_
          exact SafeOps.drop' 4 rfl rfl rfl K
        · skip
          refine SafeOps.skip (congrArg some hc2957) rfl rfl ?_
          refine SafeOps.skip (congrArg some hc2957) rfl rfl ?_
          refine SafeOps.skip (congrArg some hc2957) rfl rfl ?_
          refine SafeOps.quiet0 E_good rfl rfl rfl (v := V.bool false) (.pickK rfl hc2957 rfl) ?_
          exact SafeOps.drop' 4 rfl rfl rfl K
        refine SafeOps.quiet0 E_good rfl rfl rfl (v := V.bool (x_2821 && (x_2951 == x_2954))) (.fn rfl) ?_
        refine SafeOps.bjoin 4 82 (b := ((x_2821 && (x_2951 == x_2954)) && (x_2952 == x_2955))) (b1 := (x_2952 == x_2955)) (b0 := false) (fun hc2958 K => ?_) (fun hc2958 K => ?_) bj_and ?_
        · skip
          refine SafeOps.quiet0 E_good (congrArg some hc2958) rfl rfl (v := V.int .i64 x_2952) (.fn rfl) ?_
          refine SafeOps.quiet0 E_good (congrArg some hc2958) rfl rfl (v := V.int .i64 x_2955) (.fn rfl) ?_
          refine SafeOps.quiet0 E_good (congrArg some hc2958) rfl rfl (v := V.bool (x_2952 == x_2955)) (.fn rfl) ?_
          refine SafeOps.quiet0 E_good rfl rfl rfl (v := V.bool (x_2952 == x_2955)) (.pickK rfl hc2958 rfl) ?_
          exact SafeOps.drop' 4 rfl rfl rfl K
        · skip
          refine SafeOps.skip (congrArg some hc2958) rfl rfl ?_
          refine SafeOps.skip (congrArg some hc2958) rfl rfl ?_
          refine SafeOps.skip (congrArg some hc2958) rfl rfl ?_
          refine SafeOps.quiet0 E_good rfl rfl rfl (v := V.bool false) (.pickK rfl hc2958 rfl) ?_
          exact SafeOps.drop' 4 rfl rfl rfl K
        refine SafeOps.quiet0 E_good rfl rfl rfl (v := V.bool ((x_2821 && (x_2951 == x_2954)) && (x_2952 == x_2955))) (.fn rfl) ?_
        refine SafeOps.bsplit 6 89 (fun b_2964 => go_ravellaw04_CodeChecks_j3 a0_1056 a1_1057 b_2964 = some r) (fun HJ2965 => ?_) (fun b_2964 h => ?_)
        · refine ifG h (fun hc2959 h => ?_) (fun hc2959 h => ?_)
          · skip
            refine SafeOps.quiet0 E_good (congrArg some hc2959) rfl rfl (v := V.sl 1 (rws (fun l => [V.sl 3 (rws api_Instr.cells l)]) a0_1056)) (.fn rfl) ?_
            refine bindG h ?_
            intro x_2975 he2976 h
            refine SafeOps.quiet0 E_good (congrArg some hc2959) rfl rfl (v := V.int .i64 x_2975) (.callP rfl rfl (go_code_CheckAll_sc a0_1056 _ he2976) rfl) ?_
            refine SafeOps.quiet0 E_good (congrArg some hc2959) rfl rfl (v := V.sl 1 (rws (fun l => [V.sl 3 (rws api_Instr.cells l)]) a0_1056)) (.fn rfl) ?_
            refine bindG h ?_
            intro x_2977 he2978 h
            refine SafeOps.quiet0 E_good (congrArg some hc2959) rfl rfl (v := V.int .i64 x_2977) (.callP rfl rfl (go_ravelref04_CheckAll_sc a0_1056 _ he2978) rfl) ?_
            refine SafeOps.quiet0 E_good (congrArg some hc2959) rfl rfl (v := V.bool (x_2975 == x_2977)) (.fn rfl) ?_
            refine SafeOps.quiet0 E_good rfl rfl rfl (v := V.bool (x_2975 == x_2977)) (.pickK rfl hc2959 rfl) ?_
            exact SafeOps.drop' 6 rfl rfl rfl (HJ2965 _ h)
          · skip
            refine SafeOps.skip (congrArg some hc2959) rfl rfl ?_
            refine SafeOps.skip (congrArg some hc2959) rfl rfl ?_
            refine SafeOps.skip (congrArg some hc2959) rfl rfl ?_
            refine SafeOps.skip (congrArg some hc2959) rfl rfl ?_
            refine SafeOps.skip (congrArg some hc2959) rfl rfl ?_
            refine SafeOps.quiet0 E_good rfl rfl rfl (v := V.bool false) (.pickK rfl hc2959 rfl) ?_
            exact SafeOps.drop' 6 rfl rfl rfl (HJ2965 _ h)
        · replace h : go_ravellaw04_CodeChecks_j3 a0_1056 a1_1057 b_2964 = some r := h
          rw [go_ravellaw04_CodeChecks_j3] at h
          refine SafeOps.quiet0 E_good rfl rfl rfl (v := V.bool b_2964) (.fn rfl) ?_
          refine ifG h (fun hc2966 h => ?_) (fun hc2966 h => ?_)
          · skip
            refine SafeOps.quiet0 E_good (congrArg some hc2966) rfl rfl (v := V.sl 1 (rws (fun l => [V.sl 3 (rws api_Instr.cells l)]) a0_1056)) (.fn rfl) ?_
            refine SafeOps.quiet0 E_good (congrArg some hc2966) rfl rfl (v := V.sl 1 (rws (fun l => [V.sl 3 (rws api_Instr.cells l)]) a1_1057)) (.fn rfl) ?_
            refine bindG h ?_
            intro x_2971 he2972 h
            refine SafeOps.quiet0 E_good (congrArg some hc2966) rfl rfl (v := V.bool x_2971) (.callP rfl rfl (go_code_Same_sc a0_1056 a1_1057 _ he2972) rfl) ?_
            refine SafeOps.quiet0 E_good (congrArg some hc2966) rfl rfl (v := V.sl 1 (rws (fun l => [V.sl 3 (rws api_Instr.cells l)]) a0_1056)) (.fn rfl) ?_
            refine SafeOps.quiet0 E_good (congrArg some hc2966) rfl rfl (v := V.sl 1 (rws (fun l => [V.sl 3 (rws api_Instr.cells l)]) a1_1057)) (.fn rfl) ?_
            refine bindG h ?_
            intro x_2973 he2974 h
            refine SafeOps.quiet0 E_good (congrArg some hc2966) rfl rfl (v := V.bool x_2973) (.callP rfl rfl (go_ravelref04_Same_sc a0_1056 a1_1057 _ he2974) rfl) ?_
            refine SafeOps.quiet0 E_good (congrArg some hc2966) rfl rfl (v := V.bool (x_2971 == x_2973)) (.fn rfl) ?_
            refine SafeOps.quiet0 E_good rfl rfl rfl (v := V.bool (x_2971 == x_2973)) (.pickK rfl hc2966 rfl) ?_
            refine SafeOps.quiet0 E_good rfl rfl rfl (v := V.bool (x_2971 == x_2973)) (.fn rfl) ?_
            refine SafeOps.nil ?_
            repeat (first | refine Safe.seq ?_ | refine Safe.skip ?_ | with_reducible refine thenQ.n ?_ | with_reducible refine blockQ.n ?_)
            refine Safe.ret ?_
            repeat (first | with_reducible refine thenQ.r ?_ | with_reducible refine blockQ.r ?_)
            obtain rfl := Option.some.inj h
            exact retQ.gen (vs := [V.bool (x_2971 == x_2973)]) rfl (.tmp (v := V.bool (x_2971 == x_2973)) rfl .nil) (.free rfl) (by simp) (.inr rfl)
          · skip
            refine SafeOps.skip (congrArg some hc2966) rfl rfl ?_
            refine SafeOps.skip (congrArg some hc2966) rfl rfl ?_
            refine SafeOps.skip (congrArg some hc2966) rfl rfl ?_
            refine SafeOps.skip (congrArg some hc2966) rfl rfl ?_
            refine SafeOps.skip (congrArg some hc2966) rfl rfl ?_
            refine SafeOps.skip (congrArg some hc2966) rfl rfl ?_
            refine SafeOps.skip (congrArg some hc2966) rfl rfl ?_
            refine SafeOps.quiet0 E_good rfl rfl rfl (v := V.bool false) (.pickK rfl hc2966 rfl) ?_
            refine SafeOps.quiet0 E_good rfl rfl rfl (v := V.bool false) (.fn rfl) ?_
            refine SafeOps.nil ?_
            repeat (first | refine Safe.seq ?_ | refine Safe.skip ?_ | with_reducible refine thenQ.n ?_ | with_reducible refine blockQ.n ?_)
            refine Safe.ret ?_
            repeat (first | with_reducible refine thenQ.r ?_ | with_reducible refine blockQ.r ?_)
            obtain rfl := Option.some.inj h
            exact retQ.gen (vs := [V.bool false]) rfl (.tmp (v := V.bool false) rfl .nil) (.free rfl) (by simp) (.inr rfl)

noncomputable def go_ravellaw04_CodeUnits_j6 (a0_2979 : List api_Instr) (v9_3116 : Bool) (v43_3117 : Int) (v8_3121 : Int) : Option ((Int × Bool × Int) ⊕ (Bool)) :=
  nextO (v8_3121, (v9_3116 || (((gt a0_2979 v43_3117).Op) == 9)), IntKind.i64.wrap (v43_3117 + 1))

noncomputable def go_ravellaw04_CodeUnits_s5 (a0_2979 : List api_Instr) (a1_2980 : List api_Instr) (x_3064 : Bool) (x_3069 : Int) : (Int × Bool × Int) → Option ((Int × Bool × Int) ⊕ (Bool))
  | (v8_3115, v9_3116, v43_3117) =>
    if (decide (v43_3117 < (a0_2979.length : Int))) = true then
      if 0 ≤ v43_3117 ∧ v43_3117 < (a0_2979.length : Int) then
        if (!v9_3116) = true then
          go_ravellaw04_CodeUnits_j6 a0_2979 v9_3116 v43_3117 (IntKind.i64.wrap (v8_3115 + 1))
        else
          go_ravellaw04_CodeUnits_j6 a0_2979 v9_3116 v43_3117 v8_3115
      else none
    else
      inrO (
        if ((decide (x_3069 < v8_3115)) || (decide (x_3069 > (IntKind.i64.wrap (100 * v8_3115))))) = true then
          some false
        else
          if few ([] ++ a0_2979).length then
            if few (([] ++ a0_2979) ++ a1_2980).length then
              (go_code_Units (([] ++ a0_2979) ++ a1_2980)).bind fun (x_3129, x_3130) =>
              if (x_3130 != 0) = true then
                if x_3064 = true then
                  (go_code_Check (([] ++ a0_2979) ++ a1_2980)).bind fun x_3141 =>
                  some (x_3141 == x_3130)
                else
                  some false
              else
                some (x_3064 && ((v9_3116 && (x_3129 == x_3069)) || ((!v9_3116) && (decide (x_3129 ≥ x_3069)))))
            else none
          else none)

noncomputable def go_ravellaw04_CodeUnits (a0_2979 : List api_Instr) (a1_2980 : List api_Instr) : Option Bool :=
  (go_ravellaw04_live).bind fun x_3064 =>
  if (!x_3064) = true then
    some false
  else
    if ((decide ((a0_2979.length : Int) > 100)) || (decide ((a1_2980.length : Int) > 100))) = true then
      some x_3064
    else
      (go_code_Units a0_2979).bind fun (x_3069, x_3070) =>
      if (x_3070 != 0) = true then
        if x_3064 = true then
          (go_code_Check a0_2979).bind fun x_3081 =>
          some (x_3070 == x_3081)
        else
          some false
      else
        whileO (go_ravellaw04_CodeUnits_s5 a0_2979 a1_2980 x_3064 x_3069) (0, false, 0)

theorem go_ravellaw04_CodeUnits_sc (a0_2979 : List api_Instr) (a1_2980 : List api_Instr) (r : Bool) (h : go_ravellaw04_CodeUnits a0_2979 a1_2980 = some r) : SC Try.prog gl 4 [V.sl 3 (rws api_Instr.cells a0_2979), V.sl 3 (rws api_Instr.cells a1_2980)] (V.bool r) := by
  rw [go_ravellaw04_CodeUnits] at h
  refine SC.of E_good Try.func4 rfl (fun _ _ => Try.call4 _ _) rfl ?_
  repeat (first | refine Safe.seq ?_ | refine Safe.skip ?_ | with_reducible refine thenQ.n ?_ | with_reducible refine blockQ.n ?_)
  refine Safe.region ?_
  refine SafeOps.quiet0 E_good rfl rfl rfl (v := V.bool false) (.fn rfl) ?_
  refine SafeOps.nil ?_
  repeat (first | refine Safe.seq ?_ | refine Safe.skip ?_ | with_reducible refine thenQ.n ?_ | with_reducible refine blockQ.n ?_)
  refine Safe.region ?_
  refine bindG h ?_
  intro x_3064 he3065 h
  refine SafeOps.quiet0 E_good rfl rfl rfl (v := V.bool x_3064) (.callP rfl rfl (go_ravellaw04_live_sc  _ he3065) rfl) ?_
  refine SafeOps.quiet0 E_good rfl rfl rfl (v := V.bool x_3064) (.fn rfl) ?_
  refine SafeOps.nil ?_
  repeat (first | refine Safe.seq ?_ | refine Safe.skip ?_ | with_reducible refine thenQ.n ?_ | with_reducible refine blockQ.n ?_)
  refine Safe.region ?_
  refine SafeOps.quiet0 E_good rfl rfl rfl (v := V.bool x_3064) (.fn rfl) ?_
  refine SafeOps.quiet0 E_good rfl rfl rfl (v := V.bool (!x_3064)) (.fn rfl) ?_
  refine SafeOps.nil ?_
  repeat (first | refine Safe.seq ?_ | refine Safe.skip ?_ | with_reducible refine thenQ.n ?_ | with_reducible refine blockQ.n ?_)
  refine ifG h (fun hc3066 h => ?_) (fun hc3066 h => ?_)
  · skip
    refine Safe.condK rfl hc3066 ?_
    repeat (first | refine Safe.seq ?_ | refine Safe.skip ?_ | with_reducible refine thenQ.n ?_ | with_reducible refine blockQ.n ?_)
    refine Safe.region ?_
    refine SafeOps.quiet0 E_good rfl rfl rfl (v := V.bool false) (.fn rfl) ?_
    refine SafeOps.nil ?_
    repeat (first | refine Safe.seq ?_ | refine Safe.skip ?_ | with_reducible refine thenQ.n ?_ | with_reducible refine blockQ.n ?_)
    refine Safe.ret ?_
    repeat (first | with_reducible refine thenQ.r ?_ | with_reducible refine blockQ.r ?_)
    obtain rfl := Option.some.inj h
    exact retQ.gen (vs := [V.bool false]) rfl (.tmp (v := V.bool false) rfl .nil) (.free rfl) (by simp) (.inr rfl)
  · skip
    refine Safe.condN rfl hc3066 ?_
    repeat (first | refine Safe.seq ?_ | refine Safe.skip ?_ | with_reducible refine thenQ.n ?_ | with_reducible refine blockQ.n ?_)
    refine Safe.region ?_
    refine SafeOps.quiet0 E_good rfl rfl rfl (v := V.sl 3 (rws api_Instr.cells a0_2979)) (.fn rfl) ?_
    refine SafeOps.quiet0 E_good rfl rfl rfl (v := V.int .i64 (a0_2979.length : Int)) (.fnE rfl lenE) ?_
    refine SafeOps.quiet0 E_good rfl rfl rfl (v := V.bool (decide ((a0_2979.length : Int) > 100))) (.fn rfl) ?_
    refine SafeOps.quiet0 E_good rfl rfl rfl (v := V.bool (decide ((a0_2979.length : Int) > 100))) (.fn rfl) ?_
    refine SafeOps.bjoin 4 25 (b := ((decide ((a0_2979.length : Int) > 100)) || (decide ((a1_2980.length : Int) > 100)))) (b1 := true) (b0 := decide ((a1_2980.length : Int) > 100)) (fun hc3067 K => ?_) (fun hc3067 K => ?_) bj_or ?_
    · skip
      refine SafeOps.skip (congrArg (fun b => some (!b)) hc3067) rfl rfl ?_
      refine SafeOps.skip (congrArg (fun b => some (!b)) hc3067) rfl rfl ?_
      refine SafeOps.skip (congrArg (fun b => some (!b)) hc3067) rfl rfl ?_
      refine SafeOps.quiet0 E_good rfl rfl rfl (v := V.bool true) (.pickK rfl hc3067 rfl) ?_
      exact SafeOps.drop' 4 rfl rfl rfl K
    · skip
      refine SafeOps.quiet0 E_good (congrArg (fun b => some (!b)) hc3067) rfl rfl (v := V.sl 3 (rws api_Instr.cells a1_2980)) (.fn rfl) ?_
      refine SafeOps.quiet0 E_good (congrArg (fun b => some (!b)) hc3067) rfl rfl (v := V.int .i64 (a1_2980.length : Int)) (.fnE rfl lenE) ?_
      refine SafeOps.quiet0 E_good (congrArg (fun b => some (!b)) hc3067) rfl rfl (v := V.bool (decide ((a1_2980.length : Int) > 100))) (.fn rfl) ?_
      refine SafeOps.quiet0 E_good rfl rfl rfl (v := V.bool (decide ((a1_2980.length : Int) > 100))) (.pickK rfl hc3067 rfl) ?_
      exact SafeOps.drop' 4 rfl rfl rfl K
    refine SafeOps.nil ?_
    repeat (first | refine Safe.seq ?_ | refine Safe.skip ?_ | with_reducible refine thenQ.n ?_ | with_reducible refine blockQ.n ?_)
    refine ifG h (fun hc3068 h => ?_) (fun hc3068 h => ?_)
    · skip
      refine Safe.condK rfl hc3068 ?_
      repeat (first | refine Safe.seq ?_ | refine Safe.skip ?_ | with_reducible refine thenQ.n ?_ | with_reducible refine blockQ.n ?_)
      refine Safe.region ?_
      refine SafeOps.quiet0 E_good rfl rfl rfl (v := V.bool x_3064) (.fn rfl) ?_
      refine SafeOps.quiet0 E_good rfl rfl rfl (v := V.bool x_3064) (.fn rfl) ?_
      refine SafeOps.nil ?_
      repeat (first | refine Safe.seq ?_ | refine Safe.skip ?_ | with_reducible refine thenQ.n ?_ | with_reducible refine blockQ.n ?_)
      refine Safe.ret ?_
      repeat (first | with_reducible refine thenQ.r ?_ | with_reducible refine blockQ.r ?_)
      obtain rfl := Option.some.inj h
      exact retQ.gen (vs := [V.bool x_3064]) rfl (.tmp (v := V.bool x_3064) rfl .nil) (.free rfl) (by simp) (.inr rfl)
    · skip
      refine Safe.condN rfl hc3068 ?_
      repeat (first | refine Safe.seq ?_ | refine Safe.skip ?_ | with_reducible refine thenQ.n ?_ | with_reducible refine blockQ.n ?_)
      refine Safe.region ?_
      refine SafeOps.quiet0 E_good rfl rfl rfl (v := V.sl 3 (rws api_Instr.cells a0_2979)) (.fn rfl) ?_
      refine bindG h ?_
      rintro ⟨x_3069, x_3070⟩ he3071 h
      refine SafeOps.quiet0 E_good rfl rfl rfl (v := V.tup [V.int .i64 x_3069, V.int .i64 x_3070]) (.callP rfl rfl (go_code_Units_sc a0_2979 _ he3071) rfl) ?_
      refine SafeOps.quiet0 E_good rfl rfl rfl (v := V.tup [V.int .i64 x_3069, V.int .i64 x_3070]) (.fn rfl) ?_
      refine SafeOps.quiet0 E_good rfl rfl rfl (v := V.int .i64 x_3069) (.fn rfl) ?_
      refine SafeOps.quiet0 E_good rfl rfl rfl (v := V.int .i64 x_3070) (.fn rfl) ?_
      refine SafeOps.quiet0 E_good rfl rfl rfl (v := V.int .i64 x_3069) (.fn rfl) ?_
      refine SafeOps.quiet0 E_good rfl rfl rfl (v := V.int .i64 x_3070) (.fn rfl) ?_
      refine SafeOps.nil ?_
      repeat (first | refine Safe.seq ?_ | refine Safe.skip ?_ | with_reducible refine thenQ.n ?_ | with_reducible refine blockQ.n ?_)
      refine Safe.region ?_
      refine SafeOps.quiet0 E_good rfl rfl rfl (v := V.int .i64 x_3070) (.fn rfl) ?_
      refine SafeOps.quiet0 E_good rfl rfl rfl (v := V.bool (x_3070 != 0)) (.fn rfl) ?_
      refine SafeOps.nil ?_
      repeat (first | refine Safe.seq ?_ | refine Safe.skip ?_ | with_reducible refine thenQ.n ?_ | with_reducible refine blockQ.n ?_)
      refine ifG h (fun hc3077 h => ?_) (fun hc3077 h => ?_)
      · skip
        refine Safe.condK rfl hc3077 ?_
        repeat (first | refine Safe.seq ?_ | refine Safe.skip ?_ | with_reducible refine thenQ.n ?_ | with_reducible refine blockQ.n ?_)
        refine Safe.region ?_
        refine SafeOps.quiet0 E_good rfl rfl rfl (v := V.bool x_3064) (.fn rfl) ?_
        refine SafeOps.quiet0 E_good rfl rfl rfl (v := V.bool x_3064) (.fn rfl) ?_
        refine ifG h (fun hc3078 h => ?_) (fun hc3078 h => ?_)
        · skip
          refine SafeOps.quiet0 E_good (congrArg some hc3078) rfl rfl (v := V.int .i64 x_3070) (.fn rfl) ?_
          refine SafeOps.quiet0 E_good (congrArg some hc3078) rfl rfl (v := V.sl 3 (rws api_Instr.cells a0_2979)) (.fn rfl) ?_
          refine bindG h ?_
          intro x_3081 he3082 h
          refine SafeOps.quiet0 E_good (congrArg some hc3078) rfl rfl (v := V.int .i64 x_3081) (.callP rfl rfl (go_code_Check_sc a0_2979 _ he3082) rfl) ?_
          refine SafeOps.quiet0 E_good (congrArg some hc3078) rfl rfl (v := V.bool (x_3070 == x_3081)) (.fn rfl) ?_
          refine SafeOps.quiet0 E_good rfl rfl rfl (v := V.bool (x_3070 == x_3081)) (.pickK rfl hc3078 rfl) ?_
          refine SafeOps.quiet0 E_good rfl rfl rfl (v := V.bool (x_3070 == x_3081)) (.fn rfl) ?_
          refine SafeOps.nil ?_
          repeat (first | refine Safe.seq ?_ | refine Safe.skip ?_ | with_reducible refine thenQ.n ?_ | with_reducible refine blockQ.n ?_)
          refine Safe.ret ?_
          repeat (first | with_reducible refine thenQ.r ?_ | with_reducible refine blockQ.r ?_)
          obtain rfl := Option.some.inj h
          exact retQ.gen (vs := [V.bool (x_3070 == x_3081)]) rfl (.tmp (v := V.bool (x_3070 == x_3081)) rfl .nil) (.free rfl) (by simp) (.inr rfl)
        · skip
          refine SafeOps.skip (congrArg some hc3078) rfl rfl ?_
          refine SafeOps.skip (congrArg some hc3078) rfl rfl ?_
          refine SafeOps.skip (congrArg some hc3078) rfl rfl ?_
          refine SafeOps.skip (congrArg some hc3078) rfl rfl ?_
          refine SafeOps.quiet0 E_good rfl rfl rfl (v := V.bool false) (.pickK rfl hc3078 rfl) ?_
          refine SafeOps.quiet0 E_good rfl rfl rfl (v := V.bool false) (.fn rfl) ?_
          refine SafeOps.nil ?_
          repeat (first | refine Safe.seq ?_ | refine Safe.skip ?_ | with_reducible refine thenQ.n ?_ | with_reducible refine blockQ.n ?_)
          refine Safe.ret ?_
          repeat (first | with_reducible refine thenQ.r ?_ | with_reducible refine blockQ.r ?_)
          obtain rfl := Option.some.inj h
          exact retQ.gen (vs := [V.bool false]) rfl (.tmp (v := V.bool false) rfl .nil) (.free rfl) (by simp) (.inr rfl)
      · skip
        refine Safe.condN rfl hc3077 ?_
        repeat (first | refine Safe.seq ?_ | refine Safe.skip ?_ | with_reducible refine thenQ.n ?_ | with_reducible refine blockQ.n ?_)
        refine Safe.region ?_
        refine SafeOps.quiet0 E_good rfl rfl rfl (v := V.int .i64 0) (.fn rfl) ?_
        refine SafeOps.nil ?_
        repeat (first | refine Safe.seq ?_ | refine Safe.skip ?_ | with_reducible refine thenQ.n ?_ | with_reducible refine blockQ.n ?_)
        refine Safe.region ?_
        refine SafeOps.quiet0 E_good rfl rfl rfl (v := V.bool false) (.fn rfl) ?_
        refine SafeOps.nil ?_
        repeat (first | refine Safe.seq ?_ | refine Safe.skip ?_ | with_reducible refine thenQ.n ?_ | with_reducible refine blockQ.n ?_)
        refine Safe.region ?_
        refine SafeOps.quiet0 E_good rfl rfl rfl (v := V.sl 3 (rws api_Instr.cells a0_2979)) (.fn rfl) ?_
        refine SafeOps.quiet0 E_good rfl rfl rfl (v := V.int .i64 (a0_2979.length : Int)) (.fnE rfl lenE) ?_
        refine SafeOps.quiet0 E_good rfl rfl rfl (v := V.int .i64 0) (.fn rfl) ?_
        refine SafeOps.nil ?_
        repeat (first | refine Safe.seq ?_ | refine Safe.skip ?_ | with_reducible refine thenQ.n ?_ | with_reducible refine blockQ.n ?_)
        refine Safe.block ?_
        repeat (first | refine Safe.seq ?_ | refine Safe.skip ?_ | with_reducible refine thenQ.n ?_ | with_reducible refine blockQ.n ?_)
        refine Safe.loopW (fun ((v8_3115, v9_3116, v43_3117) : Int × Bool × Int) => ⟨Try.f4.ntmps, [(0, V.sl 3 (rws api_Instr.cells a0_2979)), (1, V.sl 3 (rws api_Instr.cells a1_2980)), (5, V.bool x_3064), (6, V.int .i64 x_3069), (8, V.int .i64 v8_3115), (9, V.bool v9_3116), (41, V.sl 3 (rws api_Instr.cells a0_2979)), (42, V.int .i64 (a0_2979.length : Int)), (43, V.int .i64 v43_3117)], [], [], []⟩) h (.cov ⟨rfl, rfl, (upT_cons (.refl _) (upT_cons (.refl _) (upT_cons (.refl _) (upT_cons (.refl _) (upT_cons (.refl _) (upT_cons (.refl _) (upT_cons (.refl _) (upT_cons (.refl _) (upT_cons (.refl _) upT_nil))))))))), upOb_nil, upOut_nil, rfl⟩) ?_
        rintro ⟨v8_3115, v9_3116, v43_3117⟩ ohr3118 h hr3118
        replace h : go_ravellaw04_CodeUnits_s5 a0_2979 a1_2980 x_3064 x_3069 (v8_3115, v9_3116, v43_3117) = some ohr3118 := h
        rw [go_ravellaw04_CodeUnits_s5] at h
        repeat (first | refine Safe.seq ?_ | refine Safe.skip ?_ | with_reducible refine thenQ.n ?_ | with_reducible refine blockQ.n ?_)
        refine Safe.region ?_
        refine SafeOps.quiet0 E_good rfl rfl rfl (v := V.bool (decide (v43_3117 < (a0_2979.length : Int)))) (.fn rfl) ?_
        refine SafeOps.nil ?_
        repeat (first | refine Safe.seq ?_ | refine Safe.skip ?_ | with_reducible refine thenQ.n ?_ | with_reducible refine blockQ.n ?_)
        refine ifG h (fun hc3119 h => ?_) (fun hc3119 h => ?_)
        · skip
          refine Safe.condK rfl hc3119 ?_
          repeat (first | refine Safe.seq ?_ | refine Safe.skip ?_ | with_reducible refine thenQ.n ?_ | with_reducible refine blockQ.n ?_)
          refine Safe.block ?_
          repeat (first | refine Safe.seq ?_ | refine Safe.skip ?_ | with_reducible refine thenQ.n ?_ | with_reducible refine blockQ.n ?_)
          refine Safe.region ?_
          refine okG h (fun hb3120 h => ?_)
          refine SafeOps.quiet0 E_good rfl rfl rfl (v := V.spt 3 (rws api_Instr.cells a0_2979) (Int.toNat v43_3117) 0) (.idxSlM (f := api_Instr.cells) rfl rfl rfl rfl rfl hb3120) ?_
          refine SafeOps.quiet0 E_good rfl rfl rfl (v := V.agg [V.int .i64 ((gt a0_2979 v43_3117).Op), V.int .i64 ((gt a0_2979 v43_3117).A), V.int .i64 ((gt a0_2979 v43_3117).B)]) (.load rfl rfl (.sptM (f := api_Instr.cells) hb3120 rfl) rfl) ?_
          refine SafeOps.quiet1 E_good rfl rfl rfl (.alloc rfl rfl) rfl ?_
          refine SafeOps.store (z := Obj.box [V.int .i64 ((gt a0_2979 v43_3117).Op), V.int .i64 ((gt a0_2979 v43_3117).A), V.int .i64 ((gt a0_2979 v43_3117).B)]) E_good rfl rfl rfl rfl rfl rfl rfl (.boxM (c := 3) rfl rfl (Nat.le_of_ble_eq_true rfl) rfl) ?_
          refine SafeOps.nil ?_
          repeat (first | refine Safe.seq ?_ | refine Safe.skip ?_ | with_reducible refine thenQ.n ?_ | with_reducible refine blockQ.n ?_)
          refine Safe.region ?_
          refine SafeOps.quiet0 E_good rfl rfl rfl (v := V.bool v9_3116) (.fn rfl) ?_
          refine SafeOps.quiet0 E_good rfl rfl rfl (v := V.bool (!v9_3116)) (.fn rfl) ?_
          refine SafeOps.nil ?_
          repeat (first | refine Safe.seq ?_ | refine Safe.skip ?_ | with_reducible refine thenQ.n ?_ | with_reducible refine blockQ.n ?_)
          refine Safe.joinT (fun (v8_3121 : Int) => go_ravellaw04_CodeUnits_j6 a0_2979 v9_3116 v43_3117 v8_3121 = some ohr3118) (fun (v8_3121 : Int) => ⟨Try.f4.ntmps, [(0, V.sl 3 (rws api_Instr.cells a0_2979)), (1, V.sl 3 (rws api_Instr.cells a1_2980)), (5, V.bool x_3064), (6, V.int .i64 x_3069), (8, V.int .i64 v8_3121), (9, V.bool v9_3116), (11, V.ptr [11] 0 0), (41, V.sl 3 (rws api_Instr.cells a0_2979)), (42, V.int .i64 (a0_2979.length : Int)), (43, V.int .i64 v43_3117)], [([11], Obj.box [V.int .i64 ((gt a0_2979 v43_3117).Op), V.int .i64 ((gt a0_2979 v43_3117).A), V.int .i64 ((gt a0_2979 v43_3117).B)])], [], []⟩) ?_ (fun HJ3122 => ?_)
          · intro v8_3121 h
            replace h : go_ravellaw04_CodeUnits_j6 a0_2979 v9_3116 v43_3117 v8_3121 = some ohr3118 := h
            rw [go_ravellaw04_CodeUnits_j6] at h
            repeat (first | refine Safe.seq ?_ | refine Safe.skip ?_ | with_reducible refine thenQ.n ?_ | with_reducible refine blockQ.n ?_)
            refine Safe.region ?_
            refine SafeOps.quiet0 E_good rfl rfl rfl (v := V.bool v9_3116) (.fn rfl) ?_
            refine SafeOps.quiet0 E_good rfl rfl rfl (v := V.bool v9_3116) (.fn rfl) ?_
            refine SafeOps.bjoin 4 56 (b := (v9_3116 || (((gt a0_2979 v43_3117).Op) == 9))) (b1 := true) (b0 := (((gt a0_2979 v43_3117).Op) == 9)) (fun hc3123 K => ?_) (fun hc3123 K => ?_) bj_or ?_
            · skip
              refine SafeOps.skip (congrArg (fun b => some (!b)) hc3123) rfl rfl ?_
              refine SafeOps.skip (congrArg (fun b => some (!b)) hc3123) rfl rfl ?_
              refine SafeOps.skip (congrArg (fun b => some (!b)) hc3123) rfl rfl ?_
              refine SafeOps.quiet0 E_good rfl rfl rfl (v := V.bool true) (.pickK rfl hc3123 rfl) ?_
              exact SafeOps.drop' 4 rfl rfl rfl K
            · skip
              refine SafeOps.quiet0 E_good (congrArg (fun b => some (!b)) hc3123) rfl rfl (v := V.ptr [11] 0 0) (.fn rfl) ?_
              refine SafeOps.quiet0 E_good (congrArg (fun b => some (!b)) hc3123) rfl rfl (v := V.int .i64 ((gt a0_2979 v43_3117).Op)) (.load rfl rfl (.box rfl rfl) rfl) ?_
              refine SafeOps.quiet0 E_good (congrArg (fun b => some (!b)) hc3123) rfl rfl (v := V.bool (((gt a0_2979 v43_3117).Op) == 9)) (.fn rfl) ?_
              refine SafeOps.quiet0 E_good rfl rfl rfl (v := V.bool (((gt a0_2979 v43_3117).Op) == 9)) (.pickK rfl hc3123 rfl) ?_
              exact SafeOps.drop' 4 rfl rfl rfl K
            refine SafeOps.quiet0 E_good rfl rfl rfl (v := V.bool (v9_3116 || (((gt a0_2979 v43_3117).Op) == 9))) (.fn rfl) ?_
            refine SafeOps.nil ?_
            repeat (first | refine Safe.seq ?_ | refine Safe.skip ?_ | with_reducible refine thenQ.n ?_ | with_reducible refine blockQ.n ?_)
            refine Safe.region ?_
            refine SafeOps.quiet0 E_good rfl rfl rfl (v := V.int .i64 (IntKind.i64.wrap (v43_3117 + 1))) (.fn rfl) ?_
            refine SafeOps.quiet0 E_good rfl rfl rfl (v := V.int .i64 (IntKind.i64.wrap (v43_3117 + 1))) (.fn rfl) ?_
            refine SafeOps.nil ?_
            repeat (first | refine Safe.seq ?_ | refine Safe.skip ?_ | with_reducible refine thenQ.n ?_ | with_reducible refine blockQ.n ?_)
            exact ⟨_, next_out h, (.cov ⟨rfl, rfl, (upT_cons (.refl _) (upT_cons (.refl _) (upT_cons (.refl _) (upT_cons (.refl _) (upT_cons (.refl _) (upT_cons (.refl _) (upT_cons (.refl _) (upT_cons (.refl _) (upT_cons (.refl _) upT_nil))))))))), upOb_nil, upOut_nil, rfl⟩)⟩
          · skip
            refine ifG h (fun hc3124 h => ?_) (fun hc3124 h => ?_)
            · skip
              refine Safe.condK rfl hc3124 ?_
              repeat (first | refine Safe.seq ?_ | refine Safe.skip ?_ | with_reducible refine thenQ.n ?_ | with_reducible refine blockQ.n ?_)
              refine Safe.region ?_
              refine SafeOps.quiet0 E_good rfl rfl rfl (v := V.int .i64 v8_3115) (.fn rfl) ?_
              refine SafeOps.quiet0 E_good rfl rfl rfl (v := V.int .i64 (IntKind.i64.wrap (v8_3115 + 1))) (.fn rfl) ?_
              refine SafeOps.quiet0 E_good rfl rfl rfl (v := V.int .i64 (IntKind.i64.wrap (v8_3115 + 1))) (.fn rfl) ?_
              refine SafeOps.nil ?_
              repeat (first | refine Safe.skip ?_ | with_reducible refine thenQ.n ?_ | with_reducible refine blockQ.n ?_)
              exact Safe.got (HJ3122 (IntKind.i64.wrap (v8_3115 + 1)) h) (.cov ⟨rfl, rfl, (upT_cons (.refl _) (upT_cons (.refl _) (upT_cons (.refl _) (upT_cons (.refl _) (upT_cons (.refl _) (upT_cons (.refl _) (upT_cons (.refl _) (upT_cons (.refl _) (upT_cons (.refl _) (upT_cons (.refl _) upT_nil)))))))))), (upOb_cons rfl (.refl _) upOb_nil), upOut_nil, rfl⟩)
            · skip
              refine Safe.condN rfl hc3124 ?_
              repeat (first | refine Safe.skip ?_ | with_reducible refine thenQ.n ?_ | with_reducible refine blockQ.n ?_)
              exact Safe.got (HJ3122 (v8_3115) h) (.cov ⟨rfl, rfl, (upT_cons (.refl _) (upT_cons (.refl _) (upT_cons (.refl _) (upT_cons (.refl _) (upT_cons (.refl _) (upT_cons (.refl _) (upT_cons (.refl _) (upT_cons (.refl _) (upT_cons (.refl _) (upT_cons (.refl _) upT_nil)))))))))), (upOb_cons rfl (.refl _) upOb_nil), upOut_nil, rfl⟩)
        · skip
          refine Safe.condN rfl hc3119 ?_
          repeat (first | refine Safe.seq ?_ | refine Safe.skip ?_ | with_reducible refine thenQ.n ?_ | with_reducible refine blockQ.n ?_)
          refine Safe.exit ?_
          repeat (first | with_reducible refine thenQ.e ?_ | with_reducible refine blockQ.x rfl ?_ | with_reducible refine blockQ.y rfl ?_)
          replace h := inr_out h hr3118
          repeat (first | refine Safe.seq ?_ | refine Safe.skip ?_ | with_reducible refine thenQ.n ?_ | with_reducible refine blockQ.n ?_)
          refine Safe.region ?_
          refine SafeOps.quiet0 E_good rfl rfl rfl (v := V.int .i64 x_3069) (.fn rfl) ?_
          refine SafeOps.quiet0 E_good rfl rfl rfl (v := V.int .i64 v8_3115) (.fn rfl) ?_
          refine SafeOps.quiet0 E_good rfl rfl rfl (v := V.bool (decide (x_3069 < v8_3115))) (.fn rfl) ?_
          refine SafeOps.quiet0 E_good rfl rfl rfl (v := V.bool (decide (x_3069 < v8_3115))) (.fn rfl) ?_
          refine SafeOps.bjoin 5 66 (b := ((decide (x_3069 < v8_3115)) || (decide (x_3069 > (IntKind.i64.wrap (100 * v8_3115)))))) (b1 := true) (b0 := decide (x_3069 > (IntKind.i64.wrap (100 * v8_3115)))) (fun hc3125 K => ?_) (fun hc3125 K => ?_) bj_or ?_
          · skip
            refine SafeOps.skip (congrArg (fun b => some (!b)) hc3125) rfl rfl ?_
            refine SafeOps.skip (congrArg (fun b => some (!b)) hc3125) rfl rfl ?_
            refine SafeOps.skip (congrArg (fun b => some (!b)) hc3125) rfl rfl ?_
            refine SafeOps.skip (congrArg (fun b => some (!b)) hc3125) rfl rfl ?_
            refine SafeOps.quiet0 E_good rfl rfl rfl (v := V.bool true) (.pickK rfl hc3125 rfl) ?_
            exact SafeOps.drop' 5 rfl rfl rfl K
          · skip
            refine SafeOps.quiet0 E_good (congrArg (fun b => some (!b)) hc3125) rfl rfl (v := V.int .i64 x_3069) (.fn rfl) ?_
            refine SafeOps.quiet0 E_good (congrArg (fun b => some (!b)) hc3125) rfl rfl (v := V.int .i64 v8_3115) (.fn rfl) ?_
            refine SafeOps.quiet0 E_good (congrArg (fun b => some (!b)) hc3125) rfl rfl (v := V.int .i64 (IntKind.i64.wrap (100 * v8_3115))) (.fn rfl) ?_
            refine SafeOps.quiet0 E_good (congrArg (fun b => some (!b)) hc3125) rfl rfl (v := V.bool (decide (x_3069 > (IntKind.i64.wrap (100 * v8_3115))))) (.fn rfl) ?_
            refine SafeOps.quiet0 E_good rfl rfl rfl (v := V.bool (decide (x_3069 > (IntKind.i64.wrap (100 * v8_3115))))) (.pickK rfl hc3125 rfl) ?_
            exact SafeOps.drop' 5 rfl rfl rfl K
          refine SafeOps.nil ?_
          repeat (first | refine Safe.seq ?_ | refine Safe.skip ?_ | with_reducible refine thenQ.n ?_ | with_reducible refine blockQ.n ?_)
          refine ifG h (fun hc3126 h => ?_) (fun hc3126 h => ?_)
          · skip
            refine Safe.condK rfl hc3126 ?_
            repeat (first | refine Safe.seq ?_ | refine Safe.skip ?_ | with_reducible refine thenQ.n ?_ | with_reducible refine blockQ.n ?_)
            refine Safe.region ?_
            refine SafeOps.quiet0 E_good rfl rfl rfl (v := V.bool false) (.fn rfl) ?_
            refine SafeOps.nil ?_
            repeat (first | refine Safe.seq ?_ | refine Safe.skip ?_ | with_reducible refine thenQ.n ?_ | with_reducible refine blockQ.n ?_)
            refine Safe.ret ?_
            repeat (first | with_reducible refine thenQ.r ?_ | with_reducible refine blockQ.r ?_)
            obtain rfl := Option.some.inj h
            exact retQ.gen (vs := [V.bool false]) rfl (.tmp (v := V.bool false) rfl .nil) (.free rfl) (by simp) (.inr rfl)
          · skip
            refine Safe.condN rfl hc3126 ?_
            repeat (first | refine Safe.seq ?_ | refine Safe.skip ?_ | with_reducible refine thenQ.n ?_ | with_reducible refine blockQ.n ?_)
            refine Safe.region ?_
            refine SafeOps.quiet0 E_good rfl rfl rfl (v := V.sl 3 (rws api_Instr.cells a0_2979)) (.fn rfl) ?_
            refine okG h (fun hb3127 h => ?_)
            refine SafeOps.appendM api_Instr.cells (xs := []) (ys := a0_2979) E_good rfl rfl rfl rfl rfl rfl rfl rfl rfl .nils (.sl _) (fun _ => rfl) hb3127 ?_
            refine SafeOps.quiet0 E_good rfl rfl rfl (v := V.sl 3 (rws api_Instr.cells a1_2980)) (.fn rfl) ?_
            refine okG h (fun hb3128 h => ?_)
            refine SafeOps.appendM api_Instr.cells (xs := [] ++ a0_2979) (ys := a1_2980) E_good rfl rfl rfl rfl rfl rfl rfl rfl rfl (.own rfl) (.sl _) (fun _ => rfl) hb3128 ?_
            refine SafeOps.quiet0 E_good rfl rfl rfl (v := V.ref [70] 0 (rws api_Instr.cells (([] ++ a0_2979) ++ a1_2980)).length) (.fn rfl) ?_
            refine SafeOps.nil ?_
            repeat (first | refine Safe.seq ?_ | refine Safe.skip ?_ | with_reducible refine thenQ.n ?_ | with_reducible refine blockQ.n ?_)
            refine Safe.region ?_
            refine SafeOps.quiet0 E_good rfl rfl rfl (v := V.ref [70] 0 (rws api_Instr.cells (([] ++ a0_2979) ++ a1_2980)).length) (.fn rfl) ?_
            refine bindG h ?_
            rintro ⟨x_3129, x_3130⟩ he3131 h
            refine SafeOps.quiet0 E_good rfl rfl rfl (v := V.tup [V.int .i64 x_3129, V.int .i64 x_3130]) (.callS rfl (.cons (.full rfl rfl) .nil) (go_code_Units_sc (([] ++ a0_2979) ++ a1_2980) _ he3131) (.tupL (.cons (.plain rfl) (.cons (.plain rfl) .nil))) rfl) ?_
            refine SafeOps.quiet0 E_good rfl rfl rfl (v := V.tup [V.int .i64 x_3129, V.int .i64 x_3130]) (.fn rfl) ?_
            refine SafeOps.quiet0 E_good rfl rfl rfl (v := V.int .i64 x_3129) (.fn rfl) ?_
            refine SafeOps.quiet0 E_good rfl rfl rfl (v := V.int .i64 x_3130) (.fn rfl) ?_
            refine SafeOps.quiet0 E_good rfl rfl rfl (v := V.int .i64 x_3129) (.fn rfl) ?_
            refine SafeOps.quiet0 E_good rfl rfl rfl (v := V.int .i64 x_3130) (.fn rfl) ?_
            refine SafeOps.nil ?_
            repeat (first | refine Safe.seq ?_ | refine Safe.skip ?_ | with_reducible refine thenQ.n ?_ | with_reducible refine blockQ.n ?_)
            refine Safe.region ?_
            refine SafeOps.quiet0 E_good rfl rfl rfl (v := V.int .i64 x_3130) (.fn rfl) ?_
            refine SafeOps.quiet0 E_good rfl rfl rfl (v := V.bool (x_3130 != 0)) (.fn rfl) ?_
            refine SafeOps.nil ?_
            repeat (first | refine Safe.seq ?_ | refine Safe.skip ?_ | with_reducible refine thenQ.n ?_ | with_reducible refine blockQ.n ?_)
            refine ifG h (fun hc3137 h => ?_) (fun hc3137 h => ?_)
            · skip
              refine Safe.condK rfl hc3137 ?_
              repeat (first | refine Safe.seq ?_ | refine Safe.skip ?_ | with_reducible refine thenQ.n ?_ | with_reducible refine blockQ.n ?_)
              refine Safe.region ?_
              refine SafeOps.quiet0 E_good rfl rfl rfl (v := V.bool x_3064) (.fn rfl) ?_
              refine SafeOps.quiet0 E_good rfl rfl rfl (v := V.bool x_3064) (.fn rfl) ?_
              refine ifG h (fun hc3138 h => ?_) (fun hc3138 h => ?_)
              · skip
                refine SafeOps.quiet0 E_good (congrArg some hc3138) rfl rfl (v := V.ref [70] 0 (rws api_Instr.cells (([] ++ a0_2979) ++ a1_2980)).length) (.fn rfl) ?_
                refine bindG h ?_
                intro x_3141 he3142 h
                refine SafeOps.quiet0 E_good (congrArg some hc3138) rfl rfl (v := V.int .i64 x_3141) (.callS rfl (.cons (.full rfl rfl) .nil) (go_code_Check_sc (([] ++ a0_2979) ++ a1_2980) _ he3142) (.plain rfl) rfl) ?_
                refine SafeOps.quiet0 E_good (congrArg some hc3138) rfl rfl (v := V.int .i64 x_3130) (.fn rfl) ?_
                refine SafeOps.quiet0 E_good (congrArg some hc3138) rfl rfl (v := V.bool (x_3141 == x_3130)) (.fn rfl) ?_
                refine SafeOps.quiet0 E_good rfl rfl rfl (v := V.bool (x_3141 == x_3130)) (.pickK rfl hc3138 rfl) ?_
                refine SafeOps.quiet0 E_good rfl rfl rfl (v := V.bool (x_3141 == x_3130)) (.fn rfl) ?_
                refine SafeOps.nil ?_
                repeat (first | refine Safe.seq ?_ | refine Safe.skip ?_ | with_reducible refine thenQ.n ?_ | with_reducible refine blockQ.n ?_)
                refine Safe.ret ?_
                repeat (first | with_reducible refine thenQ.r ?_ | with_reducible refine blockQ.r ?_)
                obtain rfl := Option.some.inj h
                exact retQ.gen (vs := [V.bool (x_3141 == x_3130)]) rfl (.tmp (v := V.bool (x_3141 == x_3130)) rfl .nil) (.free rfl) (by simp) (.inr rfl)
              · skip
                refine SafeOps.skip (congrArg some hc3138) rfl rfl ?_
                refine SafeOps.skip (congrArg some hc3138) rfl rfl ?_
                refine SafeOps.skip (congrArg some hc3138) rfl rfl ?_
                refine SafeOps.skip (congrArg some hc3138) rfl rfl ?_
                refine SafeOps.quiet0 E_good rfl rfl rfl (v := V.bool false) (.pickK rfl hc3138 rfl) ?_
                refine SafeOps.quiet0 E_good rfl rfl rfl (v := V.bool false) (.fn rfl) ?_
                refine SafeOps.nil ?_
                repeat (first | refine Safe.seq ?_ | refine Safe.skip ?_ | with_reducible refine thenQ.n ?_ | with_reducible refine blockQ.n ?_)
                refine Safe.ret ?_
                repeat (first | with_reducible refine thenQ.r ?_ | with_reducible refine blockQ.r ?_)
                obtain rfl := Option.some.inj h
                exact retQ.gen (vs := [V.bool false]) rfl (.tmp (v := V.bool false) rfl .nil) (.free rfl) (by simp) (.inr rfl)
            · skip
              refine Safe.condN rfl hc3137 ?_
              repeat (first | refine Safe.seq ?_ | refine Safe.skip ?_ | with_reducible refine thenQ.n ?_ | with_reducible refine blockQ.n ?_)
              refine Safe.region ?_
              refine SafeOps.quiet0 E_good rfl rfl rfl (v := V.bool x_3064) (.fn rfl) ?_
              refine SafeOps.quiet0 E_good rfl rfl rfl (v := V.bool x_3064) (.fn rfl) ?_
              refine SafeOps.bjoin 16 102 (b := (x_3064 && ((v9_3116 && (x_3129 == x_3069)) || ((!v9_3116) && (decide (x_3129 ≥ x_3069)))))) (b1 := ((v9_3116 && (x_3129 == x_3069)) || ((!v9_3116) && (decide (x_3129 ≥ x_3069))))) (b0 := false) (fun hc3143 K => ?_) (fun hc3143 K => ?_) bj_and ?_
              · skip
                refine SafeOps.quiet0 E_good (congrArg some hc3143) rfl rfl (v := V.bool v9_3116) (.fn rfl) ?_
                refine SafeOps.quiet0 E_good (congrArg some hc3143) rfl rfl (v := V.bool v9_3116) (.fn rfl) ?_
                refine SafeOps.bjoin 4 92 (b := (v9_3116 && (x_3129 == x_3069))) (b1 := (x_3129 == x_3069)) (b0 := false) (fun hc3144 K => ?_) (fun hc3144 K => ?_) bj_and ?_
                · skip
                  refine SafeOps.quiet0 E_good (congrArg some hc3144) rfl rfl (v := V.int .i64 x_3129) (.fn rfl) ?_
                  refine SafeOps.quiet0 E_good (congrArg some hc3144) rfl rfl (v := V.int .i64 x_3069) (.fn rfl) ?_
                  refine SafeOps.quiet0 E_good (congrArg some hc3144) rfl rfl (v := V.bool (x_3129 == x_3069)) (.fn rfl) ?_
                  refine SafeOps.quiet0 E_good (congrArg some hc3143) rfl rfl (v := V.bool (x_3129 == x_3069)) (.pickK rfl hc3144 rfl) ?_
                  exact SafeOps.drop' 4 rfl rfl rfl K
                · skip
                  refine SafeOps.skip (congrArg some hc3144) rfl rfl ?_
                  refine SafeOps.skip (congrArg some hc3144) rfl rfl ?_
                  refine SafeOps.skip (congrArg some hc3144) rfl rfl ?_
                  refine SafeOps.quiet0 E_good (congrArg some hc3143) rfl rfl (v := V.bool false) (.pickK rfl hc3144 rfl) ?_
                  exact SafeOps.drop' 4 rfl rfl rfl K
                refine SafeOps.quiet0 E_good (congrArg some hc3143) rfl rfl (v := V.bool (v9_3116 && (x_3129 == x_3069))) (.fn rfl) ?_
                refine SafeOps.bjoin 8 101 (b := ((v9_3116 && (x_3129 == x_3069)) || ((!v9_3116) && (decide (x_3129 ≥ x_3069))))) (b1 := true) (b0 := ((!v9_3116) && (decide (x_3129 ≥ x_3069)))) (fun hc3145 K => ?_) (fun hc3145 K => ?_) bj_or ?_
                · skip
                  refine SafeOps.skip (congrArg (fun b => some (!b)) hc3145) rfl rfl ?_
                  refine SafeOps.skip (congrArg (fun b => some (!b)) hc3145) rfl rfl ?_
                  refine SafeOps.skip (congrArg (fun b => some (!b)) hc3145) rfl rfl ?_
                  refine SafeOps.skip rfl rfl rfl ?_
                  refine SafeOps.skip rfl rfl rfl ?_
                  refine SafeOps.skip rfl rfl rfl ?_
                  refine SafeOps.skip (congrArg (fun b => some (!b)) hc3145) rfl rfl ?_
                  refine SafeOps.quiet0 E_good (congrArg some hc3143) rfl rfl (v := V.bool true) (.pickK rfl hc3145 rfl) ?_
                  exact SafeOps.drop' 8 rfl rfl rfl K
                · skip
                  refine SafeOps.quiet0 E_good (congrArg (fun b => some (!b)) hc3145) rfl rfl (v := V.bool v9_3116) (.fn rfl) ?_
                  refine SafeOps.quiet0 E_good (congrArg (fun b => some (!b)) hc3145) rfl rfl (v := V.bool (!v9_3116)) (.fn rfl) ?_
                  refine SafeOps.quiet0 E_good (congrArg (fun b => some (!b)) hc3145) rfl rfl (v := V.bool (!v9_3116)) (.fn rfl) ?_
                  refine SafeOps.bjoin 4 100 (b := ((!v9_3116) && (decide (x_3129 ≥ x_3069)))) (b1 := decide (x_3129 ≥ x_3069)) (b0 := false) (fun hc3146 K => ?_) (fun hc3146 K => ?_) bj_and ?_
                  · skip
                    refine SafeOps.quiet0 E_good (congrArg some hc3146) rfl rfl (v := V.int .i64 x_3129) (.fn rfl) ?_
                    refine SafeOps.quiet0 E_good (congrArg some hc3146) rfl rfl (v := V.int .i64 x_3069) (.fn rfl) ?_
                    refine SafeOps.quiet0 E_good (congrArg some hc3146) rfl rfl (v := V.bool (decide (x_3129 ≥ x_3069))) (.fn rfl) ?_
                    refine SafeOps.quiet0 E_good (congrArg (fun b => some (!b)) hc3145) rfl rfl (v := V.bool (decide (x_3129 ≥ x_3069))) (.pickK rfl hc3146 rfl) ?_
                    exact SafeOps.drop' 4 rfl rfl rfl K
                  · skip
                    refine SafeOps.skip (congrArg some hc3146) rfl rfl ?_
                    refine SafeOps.skip (congrArg some hc3146) rfl rfl ?_
                    refine SafeOps.skip (congrArg some hc3146) rfl rfl ?_
                    refine SafeOps.quiet0 E_good (congrArg (fun b => some (!b)) hc3145) rfl rfl (v := V.bool false) (.pickK rfl hc3146 rfl) ?_
                    exact SafeOps.drop' 4 rfl rfl rfl K
                  refine SafeOps.quiet0 E_good (congrArg some hc3143) rfl rfl (v := V.bool ((!v9_3116) && (decide (x_3129 ≥ x_3069)))) (.pickK rfl hc3145 rfl) ?_
                  exact SafeOps.drop' 5 rfl rfl rfl K
                refine SafeOps.quiet0 E_good rfl rfl rfl (v := V.bool ((v9_3116 && (x_3129 == x_3069)) || ((!v9_3116) && (decide (x_3129 ≥ x_3069))))) (.pickK rfl hc3143 rfl) ?_
                exact SafeOps.drop' 6 rfl rfl rfl K
              · skip
                refine SafeOps.skip (congrArg some hc3143) rfl rfl ?_
                refine SafeOps.skip (congrArg some hc3143) rfl rfl ?_
                refine SafeOps.skip rfl rfl rfl ?_
                refine SafeOps.skip rfl rfl rfl ?_
                refine SafeOps.skip rfl rfl rfl ?_
                refine SafeOps.skip (congrArg some hc3143) rfl rfl ?_
                refine SafeOps.skip (congrArg some hc3143) rfl rfl ?_
                refine SafeOps.skip rfl rfl rfl ?_
                refine SafeOps.skip rfl rfl rfl ?_
                refine SafeOps.skip rfl rfl rfl ?_
                refine SafeOps.skip rfl rfl rfl ?_
                refine SafeOps.skip rfl rfl rfl ?_
                refine SafeOps.skip rfl rfl rfl ?_
                refine SafeOps.skip rfl rfl rfl ?_
                refine SafeOps.skip (congrArg some hc3143) rfl rfl ?_
                refine SafeOps.quiet0 E_good rfl rfl rfl (v := V.bool false) (.pickK rfl hc3143 rfl) ?_
                exact SafeOps.drop' 16 rfl rfl rfl K
              refine SafeOps.quiet0 E_good rfl rfl rfl (v := V.bool (x_3064 && ((v9_3116 && (x_3129 == x_3069)) || ((!v9_3116) && (decide (x_3129 ≥ x_3069)))))) (.fn rfl) ?_
              refine SafeOps.nil ?_
              repeat (first | refine Safe.seq ?_ | refine Safe.skip ?_ | with_reducible refine thenQ.n ?_ | with_reducible refine blockQ.n ?_)
              refine Safe.ret ?_
              repeat (first | with_reducible refine thenQ.r ?_ | with_reducible refine blockQ.r ?_)
              obtain rfl := Option.some.inj h
              exact retQ.gen (vs := [V.bool (x_3064 && ((v9_3116 && (x_3129 == x_3069)) || ((!v9_3116) && (decide (x_3129 ≥ x_3069)))))]) rfl (.tmp (v := V.bool (x_3064 && ((v9_3116 && (x_3129 == x_3069)) || ((!v9_3116) && (decide (x_3129 ≥ x_3069)))))) rfl .nil) (.free rfl) (by simp) (.inr rfl)

noncomputable def go_ravellaw04_CodeCut_s8 (a0_3147 : List (List api_Instr)) (a2_3149 : List api_Instr) (v10_3507 : List (List api_Instr)) (v54_3508 : Int) : (Int) → Option ((Int) ⊕ (((List (List api_Instr)) × Int) ⊕ (Bool)))
  | v61_3527 =>
    if (decide (v61_3527 < ((gt a0_3147 v54_3508).length : Int))) = true then
      if 0 ≤ v61_3527 ∧ v61_3527 < ((gt a0_3147 v54_3508).length : Int) then
        if (((gt (gt a0_3147 v54_3508) v61_3527).Op) == 9) = true then
          if 0 ≤ (IntKind.i64.wrap (v61_3527 + 1)) ∧ (IntKind.i64.wrap (v61_3527 + 1)) ≤ ((gt a0_3147 v54_3508).length : Int) then
            if few ([] ++ (sub (gt a0_3147 v54_3508) 0 (IntKind.i64.wrap (v61_3527 + 1)))).length then
              if few (([] ++ (sub (gt a0_3147 v54_3508) 0 (IntKind.i64.wrap (v61_3527 + 1)))) ++ a2_3149).length then
                if 0 ≤ v54_3508 ∧ v54_3508 < (v10_3507.length : Int) then
                  inrO (
                    nextO (st v10_3507 v54_3508 (([] ++ (sub (gt a0_3147 v54_3508) 0 (IntKind.i64.wrap (v61_3527 + 1)))) ++ a2_3149), IntKind.i64.wrap (v54_3508 + 1)))
                else none
              else none
            else none
          else none
        else
          nextO (IntKind.i64.wrap (v61_3527 + 1))
      else none
    else
      inrO (
        nextO (v10_3507, IntKind.i64.wrap (v54_3508 + 1)))

noncomputable def go_ravellaw04_CodeCut_s7 (a0_3147 : List (List api_Instr)) (a1_3148 : Int) (a2_3149 : List api_Instr) (x_3357 : Bool) (x_3365 : Int) : ((List (List api_Instr)) × Int) → Option (((List (List api_Instr)) × Int) ⊕ (Bool))
  | (v10_3507, v54_3508) =>
    if (decide (v54_3508 < (a0_3147.length : Int))) = true then
      if 0 ≤ v54_3508 ∧ v54_3508 < (a0_3147.length : Int) then
        whileO (go_ravellaw04_CodeCut_s8 a0_3147 a2_3149 v10_3507 v54_3508) 0
      else none
    else
      inrO (
        (go_code_Tasks v10_3507 a1_3148).bind fun (x_3536, x_3537) =>
        if (x_3537 != 0) = true then
          if (x_3357 && (x_3537 == 1)) = true then
            (go_code_CheckAll v10_3507).bind fun x_3550 =>
            some (x_3550 == 1)
          else
            some false
        else
          if 0 ≤ a1_3148 ∧ a1_3148 < (a0_3147.length : Int) then
            (go_code_Units (gt a0_3147 a1_3148)).bind fun (x_3553, x_3554) =>
            if 0 ≤ a1_3148 ∧ a1_3148 < (v10_3507.length : Int) then
              (go_code_Units (gt v10_3507 a1_3148)).bind fun (x_3557, x_3558) =>
              some ((((x_3357 && (x_3536 == x_3365)) && (x_3554 == 0)) && (x_3558 == 0)) && (x_3553 == x_3557))
            else none
          else none)

noncomputable def go_ravellaw04_CodeCut (a0_3147 : List (List api_Instr)) (a1_3148 : Int) (a2_3149 : List api_Instr) : Option Bool :=
  (go_ravellaw04_live).bind fun x_3357 =>
  (go_ravelref04_Few a0_3147).bind fun x_3359 =>
  if ((((!x_3359) || (decide ((a2_3149.length : Int) > 40))) || (decide (a1_3148 < 0))) || (decide (a1_3148 ≥ (a0_3147.length : Int)))) = true then
    some x_3357
  else
    (go_code_Tasks a0_3147 a1_3148).bind fun (x_3365, x_3366) =>
    if (x_3366 != 0) = true then
      some x_3357
    else
      if few ([] ++ a0_3147).length then
        whileO (go_ravellaw04_CodeCut_s7 a0_3147 a1_3148 a2_3149 x_3357 x_3365) ([] ++ a0_3147, 0)
      else none

theorem go_ravellaw04_CodeCut_sc (a0_3147 : List (List api_Instr)) (a1_3148 : Int) (a2_3149 : List api_Instr) (r : Bool) (h : go_ravellaw04_CodeCut a0_3147 a1_3148 a2_3149 = some r) : SC Try.prog gl 6 [V.sl 1 (rws (fun l => [V.sl 3 (rws api_Instr.cells l)]) a0_3147), V.int .i64 a1_3148, V.sl 3 (rws api_Instr.cells a2_3149)] (V.bool r) := by
  rw [go_ravellaw04_CodeCut] at h
  refine SC.of E_good Try.func6 rfl (fun _ _ => Try.call6 _ _) rfl ?_
  repeat (first | refine Safe.seq ?_ | refine Safe.skip ?_ | with_reducible refine thenQ.n ?_ | with_reducible refine blockQ.n ?_)
  refine Safe.region ?_
  refine SafeOps.quiet0 E_good rfl rfl rfl (v := V.bool false) (.fn rfl) ?_
  refine SafeOps.nil ?_
  repeat (first | refine Safe.seq ?_ | refine Safe.skip ?_ | with_reducible refine thenQ.n ?_ | with_reducible refine blockQ.n ?_)
  refine Safe.region ?_
  refine bindG h ?_
  intro x_3357 he3358 h
  refine SafeOps.quiet0 E_good rfl rfl rfl (v := V.bool x_3357) (.callP rfl rfl (go_ravellaw04_live_sc  _ he3358) rfl) ?_
  refine SafeOps.quiet0 E_good rfl rfl rfl (v := V.bool x_3357) (.fn rfl) ?_
  refine SafeOps.nil ?_
  repeat (first | refine Safe.seq ?_ | refine Safe.skip ?_ | with_reducible refine thenQ.n ?_ | with_reducible refine blockQ.n ?_)
  refine Safe.region ?_
  refine SafeOps.quiet0 E_good rfl rfl rfl (v := V.sl 1 (rws (fun l => [V.sl 3 (rws api_Instr.cells l)]) a0_3147)) (.fn rfl) ?_
  refine bindG h ?_
  intro x_3359 he3360 h
  refine SafeOps.quiet0 E_good rfl rfl rfl (v := V.bool x_3359) (.callP rfl rfl (go_ravelref04_Few_sc a0_3147 _ he3360) rfl) ?_
  refine SafeOps.quiet0 E_good rfl rfl rfl (v := V.bool (!x_3359)) (.fn rfl) ?_
  refine SafeOps.quiet0 E_good rfl rfl rfl (v := V.bool (!x_3359)) (.fn rfl) ?_
  refine SafeOps.bjoin 4 29 (b := ((!x_3359) || (decide ((a2_3149.length : Int) > 40)))) (b1 := true) (b0 := decide ((a2_3149.length : Int) > 40)) (fun hc3361 K => ?_) (fun hc3361 K => ?_) bj_or ?_
  · skip
    refine SafeOps.skip (congrArg (fun b => some (!b)) hc3361) rfl rfl ?_
    refine SafeOps.skip (congrArg (fun b => some (!b)) hc3361) rfl rfl ?_
    refine SafeOps.skip (congrArg (fun b => some (!b)) hc3361) rfl rfl ?_
    refine SafeOps.quiet0 E_good rfl rfl rfl (v := V.bool true) (.pickK rfl hc3361 rfl) ?_
    exact SafeOps.drop' 4 rfl rfl rfl K
  · skip
    refine SafeOps.quiet0 E_good (congrArg (fun b => some (!b)) hc3361) rfl rfl (v := V.sl 3 (rws api_Instr.cells a2_3149)) (.fn rfl) ?_
    refine SafeOps.quiet0 E_good (congrArg (fun b => some (!b)) hc3361) rfl rfl (v := V.int .i64 (a2_3149.length : Int)) (.fnE rfl lenE) ?_
    refine SafeOps.quiet0 E_good (congrArg (fun b => some (!b)) hc3361) rfl rfl (v := V.bool (decide ((a2_3149.length : Int) > 40))) (.fn rfl) ?_
    refine SafeOps.quiet0 E_good rfl rfl rfl (v := V.bool (decide ((a2_3149.length : Int) > 40))) (.pickK rfl hc3361 rfl) ?_
    exact SafeOps.drop' 4 rfl rfl rfl K
  refine SafeOps.quiet0 E_good rfl rfl rfl (v := V.bool ((!x_3359) || (decide ((a2_3149.length : Int) > 40)))) (.fn rfl) ?_
  refine SafeOps.bjoin 3 33 (b := (((!x_3359) || (decide ((a2_3149.length : Int) > 40))) || (decide (a1_3148 < 0)))) (b1 := true) (b0 := decide (a1_3148 < 0)) (fun hc3362 K => ?_) (fun hc3362 K => ?_) bj_or ?_
  · skip
    refine SafeOps.skip (congrArg (fun b => some (!b)) hc3362) rfl rfl ?_
    refine SafeOps.skip (congrArg (fun b => some (!b)) hc3362) rfl rfl ?_
    refine SafeOps.quiet0 E_good rfl rfl rfl (v := V.bool true) (.pickK rfl hc3362 rfl) ?_
    exact SafeOps.drop' 3 rfl rfl rfl K
  · skip
    refine SafeOps.quiet0 E_good (congrArg (fun b => some (!b)) hc3362) rfl rfl (v := V.int .i64 a1_3148) (.fn rfl) ?_
    refine SafeOps.quiet0 E_good (congrArg (fun b => some (!b)) hc3362) rfl rfl (v := V.bool (decide (a1_3148 < 0))) (.fn rfl) ?_
    refine SafeOps.quiet0 E_good rfl rfl rfl (v := V.bool (decide (a1_3148 < 0))) (.pickK rfl hc3362 rfl) ?_
    exact SafeOps.drop' 3 rfl rfl rfl K
  refine SafeOps.quiet0 E_good rfl rfl rfl (v := V.bool (((!x_3359) || (decide ((a2_3149.length : Int) > 40))) || (decide (a1_3148 < 0)))) (.fn rfl) ?_
  refine SafeOps.bjoin 5 39 (b := ((((!x_3359) || (decide ((a2_3149.length : Int) > 40))) || (decide (a1_3148 < 0))) || (decide (a1_3148 ≥ (a0_3147.length : Int))))) (b1 := true) (b0 := decide (a1_3148 ≥ (a0_3147.length : Int))) (fun hc3363 K => ?_) (fun hc3363 K => ?_) bj_or ?_
  · skip
    refine SafeOps.skip (congrArg (fun b => some (!b)) hc3363) rfl rfl ?_
    refine SafeOps.skip (congrArg (fun b => some (!b)) hc3363) rfl rfl ?_
    refine SafeOps.skip (congrArg (fun b => some (!b)) hc3363) rfl rfl ?_
    refine SafeOps.skip (congrArg (fun b => some (!b)) hc3363) rfl rfl ?_
    refine SafeOps.quiet0 E_good rfl rfl rfl (v := V.bool true) (.pickK rfl hc3363 rfl) ?_
    exact SafeOps.drop' 5 rfl rfl rfl K
  · skip
    refine SafeOps.quiet0 E_good (congrArg (fun b => some (!b)) hc3363) rfl rfl (v := V.int .i64 a1_3148) (.fn rfl) ?_
    refine SafeOps.quiet0 E_good (congrArg (fun b => some (!b)) hc3363) rfl rfl (v := V.sl 1 (rws (fun l => [V.sl 3 (rws api_Instr.cells l)]) a0_3147)) (.fn rfl) ?_
    refine SafeOps.quiet0 E_good (congrArg (fun b => some (!b)) hc3363) rfl rfl (v := V.int .i64 (a0_3147.length : Int)) (.fnE rfl lenE) ?_
    refine SafeOps.quiet0 E_good (congrArg (fun b => some (!b)) hc3363) rfl rfl (v := V.bool (decide (a1_3148 ≥ (a0_3147.length : Int)))) (.fn rfl) ?_
    refine SafeOps.quiet0 E_good rfl rfl rfl (v := V.bool (decide (a1_3148 ≥ (a0_3147.length : Int)))) (.pickK rfl hc3363 rfl) ?_
    exact SafeOps.drop' 5 rfl rfl rfl K
  refine SafeOps.nil ?_
  repeat (first | refine Safe.seq ?_ | refine Safe.skip ?_ | with_reducible refine thenQ.n ?_ | with_reducible refine blockQ.n ?_)
  refine ifG h (fun hc3364 h => ?_) (fun hc3364 h => ?_)
  · skip
    refine Safe.condK rfl hc3364 ?_
    repeat (first | refine Safe.seq ?_ | refine Safe.skip ?_ | with_reducible refine thenQ.n ?_ | with_reducible refine blockQ.n ?_)
    refine Safe.region ?_
    refine SafeOps.quiet0 E_good rfl rfl rfl (v := V.bool x_3357) (.fn rfl) ?_
    refine SafeOps.quiet0 E_good rfl rfl rfl (v := V.bool x_3357) (.fn rfl) ?_
    refine SafeOps.nil ?_
    repeat (first | refine Safe.seq ?_ | refine Safe.skip ?_ | with_reducible refine thenQ.n ?_ | with_reducible refine blockQ.n ?_)
    refine Safe.ret ?_
    repeat (first | with_reducible refine thenQ.r ?_ | with_reducible refine blockQ.r ?_)
    obtain rfl := Option.some.inj h
    exact retQ.gen (vs := [V.bool x_3357]) rfl (.tmp (v := V.bool x_3357) rfl .nil) (.free rfl) (by simp) (.inr rfl)
  · skip
    refine Safe.condN rfl hc3364 ?_
    repeat (first | refine Safe.seq ?_ | refine Safe.skip ?_ | with_reducible refine thenQ.n ?_ | with_reducible refine blockQ.n ?_)
    refine Safe.region ?_
    refine SafeOps.quiet0 E_good rfl rfl rfl (v := V.sl 1 (rws (fun l => [V.sl 3 (rws api_Instr.cells l)]) a0_3147)) (.fn rfl) ?_
    refine SafeOps.quiet0 E_good rfl rfl rfl (v := V.int .i64 a1_3148) (.fn rfl) ?_
    refine bindG h ?_
    rintro ⟨x_3365, x_3366⟩ he3367 h
    refine SafeOps.quiet0 E_good rfl rfl rfl (v := V.tup [V.int .i64 x_3365, V.int .i64 x_3366]) (.callP rfl rfl (go_code_Tasks_sc a0_3147 a1_3148 _ he3367) rfl) ?_
    refine SafeOps.quiet0 E_good rfl rfl rfl (v := V.tup [V.int .i64 x_3365, V.int .i64 x_3366]) (.fn rfl) ?_
    refine SafeOps.quiet0 E_good rfl rfl rfl (v := V.int .i64 x_3365) (.fn rfl) ?_
    refine SafeOps.quiet0 E_good rfl rfl rfl (v := V.int .i64 x_3366) (.fn rfl) ?_
    refine SafeOps.quiet0 E_good rfl rfl rfl (v := V.int .i64 x_3365) (.fn rfl) ?_
    refine SafeOps.quiet0 E_good rfl rfl rfl (v := V.int .i64 x_3366) (.fn rfl) ?_
    refine SafeOps.nil ?_
    repeat (first | refine Safe.seq ?_ | refine Safe.skip ?_ | with_reducible refine thenQ.n ?_ | with_reducible refine blockQ.n ?_)
    refine Safe.region ?_
    refine SafeOps.quiet0 E_good rfl rfl rfl (v := V.int .i64 x_3366) (.fn rfl) ?_
    refine SafeOps.quiet0 E_good rfl rfl rfl (v := V.bool (x_3366 != 0)) (.fn rfl) ?_
    refine SafeOps.nil ?_
    repeat (first | refine Safe.seq ?_ | refine Safe.skip ?_ | with_reducible refine thenQ.n ?_ | with_reducible refine blockQ.n ?_)
    refine ifG h (fun hc3368 h => ?_) (fun hc3368 h => ?_)
    · skip
      refine Safe.condK rfl hc3368 ?_
      repeat (first | refine Safe.seq ?_ | refine Safe.skip ?_ | with_reducible refine thenQ.n ?_ | with_reducible refine blockQ.n ?_)
      refine Safe.region ?_
      refine SafeOps.quiet0 E_good rfl rfl rfl (v := V.bool x_3357) (.fn rfl) ?_
      refine SafeOps.quiet0 E_good rfl rfl rfl (v := V.bool x_3357) (.fn rfl) ?_
      refine SafeOps.nil ?_
      repeat (first | refine Safe.seq ?_ | refine Safe.skip ?_ | with_reducible refine thenQ.n ?_ | with_reducible refine blockQ.n ?_)
      refine Safe.ret ?_
      repeat (first | with_reducible refine thenQ.r ?_ | with_reducible refine blockQ.r ?_)
      obtain rfl := Option.some.inj h
      exact retQ.gen (vs := [V.bool x_3357]) rfl (.tmp (v := V.bool x_3357) rfl .nil) (.free rfl) (by simp) (.inr rfl)
    · skip
      refine Safe.condN rfl hc3368 ?_
      repeat (first | refine Safe.seq ?_ | refine Safe.skip ?_ | with_reducible refine thenQ.n ?_ | with_reducible refine blockQ.n ?_)
      refine Safe.region ?_
      refine SafeOps.quiet0 E_good rfl rfl rfl (v := V.sl 1 (rws (fun l => [V.sl 3 (rws api_Instr.cells l)]) a0_3147)) (.fn rfl) ?_
      refine okG h (fun hb3369 h => ?_)
      refine SafeOps.appendM (fun l => [V.sl 3 (rws api_Instr.cells l)]) (xs := []) (ys := a0_3147) E_good rfl rfl rfl rfl rfl rfl rfl rfl rfl .nils (.sl _) (fun _ => rfl) hb3369 ?_
      refine SafeOps.quiet0 E_good rfl rfl rfl (v := V.ref [51] 0 (rws (fun l => [V.sl 3 (rws api_Instr.cells l)]) ([] ++ a0_3147)).length) (.fn rfl) ?_
      refine SafeOps.nil ?_
      repeat (first | refine Safe.seq ?_ | refine Safe.skip ?_ | with_reducible refine thenQ.n ?_ | with_reducible refine blockQ.n ?_)
      refine Safe.region ?_
      refine SafeOps.quiet0 E_good rfl rfl rfl (v := V.sl 1 (rws (fun l => [V.sl 3 (rws api_Instr.cells l)]) a0_3147)) (.fn rfl) ?_
      refine SafeOps.quiet0 E_good rfl rfl rfl (v := V.int .i64 (a0_3147.length : Int)) (.fnE rfl lenE) ?_
      refine SafeOps.quiet0 E_good rfl rfl rfl (v := V.int .i64 0) (.fn rfl) ?_
      refine SafeOps.nil ?_
      repeat (first | refine Safe.seq ?_ | refine Safe.skip ?_ | with_reducible refine thenQ.n ?_ | with_reducible refine blockQ.n ?_)
      refine Safe.block ?_
      repeat (first | refine Safe.seq ?_ | refine Safe.skip ?_ | with_reducible refine thenQ.n ?_ | with_reducible refine blockQ.n ?_)
      refine Safe.loopW (fun ((v10_3507, v54_3508) : (List (List api_Instr)) × Int) => ⟨Try.f6.ntmps, [(0, V.sl 1 (rws (fun l => [V.sl 3 (rws api_Instr.cells l)]) a0_3147)), (1, V.int .i64 a1_3148), (2, V.sl 3 (rws api_Instr.cells a2_3149)), (7, V.bool x_3357), (8, V.int .i64 x_3365), (10, V.ref [51] 0 (rws (fun l => [V.sl 3 (rws api_Instr.cells l)]) v10_3507).length), (52, V.sl 1 (rws (fun l => [V.sl 3 (rws api_Instr.cells l)]) a0_3147)), (53, V.int .i64 (a0_3147.length : Int)), (54, V.int .i64 v54_3508)], [([51], Obj.rows 1 (rws (fun l => [V.sl 3 (rws api_Instr.cells l)]) v10_3507) false)], [], []⟩) h (.cov ⟨rfl, rfl, (upT_cons (.refl _) (upT_cons (.refl _) (upT_cons (.refl _) (upT_cons (.refl _) (upT_cons (.refl _) (upT_cons (.refl _) (upT_cons (.refl _) (upT_cons (.refl _) (upT_cons (.refl _) upT_nil))))))))), (upOb_cons rfl (.refl _) upOb_nil), upOut_nil, rfl⟩) ?_
      rintro ⟨v10_3507, v54_3508⟩ ohr3509 h hr3509
      replace h : go_ravellaw04_CodeCut_s7 a0_3147 a1_3148 a2_3149 x_3357 x_3365 (v10_3507, v54_3508) = some ohr3509 := h
      rw [go_ravellaw04_CodeCut_s7] at h
      repeat (first | refine Safe.seq ?_ | refine Safe.skip ?_ | with_reducible refine thenQ.n ?_ | with_reducible refine blockQ.n ?_)
      refine Safe.region ?_
      refine SafeOps.quiet0 E_good rfl rfl rfl (v := V.bool (decide (v54_3508 < (a0_3147.length : Int)))) (.fn rfl) ?_
      refine SafeOps.nil ?_
      repeat (first | refine Safe.seq ?_ | refine Safe.skip ?_ | with_reducible refine thenQ.n ?_ | with_reducible refine blockQ.n ?_)
      refine ifG h (fun hc3510 h => ?_) (fun hc3510 h => ?_)
      · skip
        refine Safe.condK rfl hc3510 ?_
        repeat (first | refine Safe.seq ?_ | refine Safe.skip ?_ | with_reducible refine thenQ.n ?_ | with_reducible refine blockQ.n ?_)
        refine Safe.block ?_
        repeat (first | refine Safe.seq ?_ | refine Safe.skip ?_ | with_reducible refine thenQ.n ?_ | with_reducible refine blockQ.n ?_)
        refine Safe.region ?_
        refine SafeOps.quiet0 E_good rfl rfl rfl (v := V.int .i64 v54_3508) (.fn rfl) ?_
        refine okG h (fun hb3511 h => ?_)
        refine SafeOps.quiet0 E_good rfl rfl rfl (v := V.spt 1 (rws (fun l => [V.sl 3 (rws api_Instr.cells l)]) a0_3147) (Int.toNat v54_3508) 0) (.idxSlM (f := (fun l => [V.sl 3 (rws api_Instr.cells l)])) rfl rfl rfl rfl rfl hb3511) ?_
        refine SafeOps.quiet0 E_good rfl rfl rfl (v := V.sl 3 (rws api_Instr.cells (gt a0_3147 v54_3508))) (.load rfl rfl (.sptM (f := (fun l => [V.sl 3 (rws api_Instr.cells l)])) hb3511 rfl) rfl) ?_
        refine SafeOps.quiet0 E_good rfl rfl rfl (v := V.int .i64 v54_3508) (.fn rfl) ?_
        refine SafeOps.quiet0 E_good rfl rfl rfl (v := V.sl 3 (rws api_Instr.cells (gt a0_3147 v54_3508))) (.fn rfl) ?_
        refine SafeOps.nil ?_
        repeat (first | refine Safe.seq ?_ | refine Safe.skip ?_ | with_reducible refine thenQ.n ?_ | with_reducible refine blockQ.n ?_)
        refine Safe.region ?_
        refine SafeOps.quiet0 E_good rfl rfl rfl (v := V.sl 3 (rws api_Instr.cells (gt a0_3147 v54_3508))) (.fn rfl) ?_
        refine SafeOps.quiet0 E_good rfl rfl rfl (v := V.int .i64 ((gt a0_3147 v54_3508).length : Int)) (.fnE rfl lenE) ?_
        refine SafeOps.quiet0 E_good rfl rfl rfl (v := V.int .i64 0) (.fn rfl) ?_
        refine SafeOps.nil ?_
        repeat (first | refine Safe.seq ?_ | refine Safe.skip ?_ | with_reducible refine thenQ.n ?_ | with_reducible refine blockQ.n ?_)
        refine Safe.block ?_
        repeat (first | refine Safe.seq ?_ | refine Safe.skip ?_ | with_reducible refine thenQ.n ?_ | with_reducible refine blockQ.n ?_)
        refine Safe.loopW (fun (v61_3527 : Int) => ⟨Try.f6.ntmps, [(0, V.sl 1 (rws (fun l => [V.sl 3 (rws api_Instr.cells l)]) a0_3147)), (1, V.int .i64 a1_3148), (2, V.sl 3 (rws api_Instr.cells a2_3149)), (7, V.bool x_3357), (8, V.int .i64 x_3365), (10, V.ref [51] 0 (rws (fun l => [V.sl 3 (rws api_Instr.cells l)]) v10_3507).length), (11, V.int .i64 v54_3508), (12, V.sl 3 (rws api_Instr.cells (gt a0_3147 v54_3508))), (52, V.sl 1 (rws (fun l => [V.sl 3 (rws api_Instr.cells l)]) a0_3147)), (53, V.int .i64 (a0_3147.length : Int)), (54, V.int .i64 v54_3508), (59, V.sl 3 (rws api_Instr.cells (gt a0_3147 v54_3508))), (60, V.int .i64 ((gt a0_3147 v54_3508).length : Int)), (61, V.int .i64 v61_3527)], [([51], Obj.rows 1 (rws (fun l => [V.sl 3 (rws api_Instr.cells l)]) v10_3507) false)], [], []⟩) h (.cov ⟨rfl, rfl, (upT_cons (.refl _) (upT_cons (.refl _) (upT_cons (.refl _) (upT_cons (.refl _) (upT_cons (.refl _) (upT_cons (.refl _) (upT_cons (.refl _) (upT_cons (.refl _) (upT_cons (.refl _) (upT_cons (.refl _) (upT_cons (.refl _) (upT_cons (.refl _) (upT_cons (.refl _) (upT_cons (.refl _) upT_nil)))))))))))))), (upOb_cons rfl (.refl _) upOb_nil), upOut_nil, rfl⟩) ?_
        intro v61_3527 ohr3528 h hr3528
        replace h : go_ravellaw04_CodeCut_s8 a0_3147 a2_3149 v10_3507 v54_3508 v61_3527 = some ohr3528 := h
        rw [go_ravellaw04_CodeCut_s8] at h
        repeat (first | refine Safe.seq ?_ | refine Safe.skip ?_ | with_reducible refine thenQ.n ?_ | with_reducible refine blockQ.n ?_)
        refine Safe.region ?_
        refine SafeOps.quiet0 E_good rfl rfl rfl (v := V.bool (decide (v61_3527 < ((gt a0_3147 v54_3508).length : Int)))) (.fn rfl) ?_
        refine SafeOps.nil ?_
        repeat (first | refine Safe.seq ?_ | refine Safe.skip ?_ | with_reducible refine thenQ.n ?_ | with_reducible refine blockQ.n ?_)
        refine ifG h (fun hc3529 h => ?_) (fun hc3529 h => ?_)
        · skip
          refine Safe.condK rfl hc3529 ?_
          repeat (first | refine Safe.seq ?_ | refine Safe.skip ?_ | with_reducible refine thenQ.n ?_ | with_reducible refine blockQ.n ?_)
          refine Safe.block ?_
          repeat (first | refine Safe.seq ?_ | refine Safe.skip ?_ | with_reducible refine thenQ.n ?_ | with_reducible refine blockQ.n ?_)
          refine Safe.region ?_
          refine SafeOps.quiet0 E_good rfl rfl rfl (v := V.int .i64 v61_3527) (.fn rfl) ?_
          refine okG h (fun hb3530 h => ?_)
          refine SafeOps.quiet0 E_good rfl rfl rfl (v := V.spt 3 (rws api_Instr.cells (gt a0_3147 v54_3508)) (Int.toNat v61_3527) 0) (.idxSlM (f := api_Instr.cells) rfl rfl rfl rfl rfl hb3530) ?_
          refine SafeOps.quiet0 E_good rfl rfl rfl (v := V.agg [V.int .i64 ((gt (gt a0_3147 v54_3508) v61_3527).Op), V.int .i64 ((gt (gt a0_3147 v54_3508) v61_3527).A), V.int .i64 ((gt (gt a0_3147 v54_3508) v61_3527).B)]) (.load rfl rfl (.sptM (f := api_Instr.cells) hb3530 rfl) rfl) ?_
          refine SafeOps.quiet1 E_good rfl rfl rfl (.alloc rfl rfl) rfl ?_
          refine SafeOps.quiet0 E_good rfl rfl rfl (v := V.int .i64 v61_3527) (.fn rfl) ?_
          refine SafeOps.store (z := Obj.box [V.int .i64 ((gt (gt a0_3147 v54_3508) v61_3527).Op), V.int .i64 ((gt (gt a0_3147 v54_3508) v61_3527).A), V.int .i64 ((gt (gt a0_3147 v54_3508) v61_3527).B)]) E_good rfl rfl rfl rfl rfl rfl rfl (.boxM (c := 3) rfl rfl (Nat.le_of_ble_eq_true rfl) rfl) ?_
          refine SafeOps.nil ?_
          repeat (first | refine Safe.seq ?_ | refine Safe.skip ?_ | with_reducible refine thenQ.n ?_ | with_reducible refine blockQ.n ?_)
          refine Safe.region ?_
          refine SafeOps.quiet0 E_good rfl rfl rfl (v := V.ptr [14] 0 0) (.fn rfl) ?_
          refine SafeOps.quiet0 E_good rfl rfl rfl (v := V.int .i64 ((gt (gt a0_3147 v54_3508) v61_3527).Op)) (.load rfl rfl (.box rfl rfl) rfl) ?_
          refine SafeOps.quiet0 E_good rfl rfl rfl (v := V.bool (((gt (gt a0_3147 v54_3508) v61_3527).Op) == 9)) (.fn rfl) ?_
          refine SafeOps.nil ?_
          repeat (first | refine Safe.seq ?_ | refine Safe.skip ?_ | with_reducible refine thenQ.n ?_ | with_reducible refine blockQ.n ?_)
          refine ifG h (fun hc3531 h => ?_) (fun hc3531 h => ?_)
          · skip
            refine Safe.condK rfl hc3531 ?_
            repeat (first | refine Safe.seq ?_ | refine Safe.skip ?_ | with_reducible refine thenQ.n ?_ | with_reducible refine blockQ.n ?_)
            refine Safe.region ?_
            refine SafeOps.quiet0 E_good rfl rfl rfl (v := V.ref [51] 0 (rws (fun l => [V.sl 3 (rws api_Instr.cells l)]) v10_3507).length) (.fn rfl) ?_
            refine SafeOps.quiet0 E_good rfl rfl rfl (v := V.int .i64 v54_3508) (.fn rfl) ?_
            refine SafeOps.quiet0 E_good rfl rfl rfl (v := V.sl 3 (rws api_Instr.cells (gt a0_3147 v54_3508))) (.fn rfl) ?_
            refine SafeOps.quiet0 E_good rfl rfl rfl (v := V.int .i64 v61_3527) (.fn rfl) ?_
            refine SafeOps.quiet0 E_good rfl rfl rfl (v := V.int .i64 (IntKind.i64.wrap (v61_3527 + 1))) (.fn rfl) ?_
            refine okG h (fun hb3532 h => ?_)
            refine SafeOps.quiet0 E_good rfl rfl rfl (v := V.sl 3 (rws api_Instr.cells (sub (gt a0_3147 v54_3508) 0 (IntKind.i64.wrap (v61_3527 + 1))))) (.slH (f := api_Instr.cells) rfl rfl rfl rfl rfl hb3532) ?_
            refine okG h (fun hb3533 h => ?_)
            refine SafeOps.appendM api_Instr.cells (xs := []) (ys := sub (gt a0_3147 v54_3508) 0 (IntKind.i64.wrap (v61_3527 + 1))) E_good rfl rfl rfl rfl rfl rfl rfl rfl rfl .nils (.sl _) (fun _ => rfl) hb3533 ?_
            refine SafeOps.quiet0 E_good rfl rfl rfl (v := V.sl 3 (rws api_Instr.cells a2_3149)) (.fn rfl) ?_
            refine okG h (fun hb3534 h => ?_)
            refine SafeOps.appendM api_Instr.cells (xs := [] ++ (sub (gt a0_3147 v54_3508) 0 (IntKind.i64.wrap (v61_3527 + 1)))) (ys := a2_3149) E_good rfl rfl rfl rfl rfl rfl rfl rfl rfl (.own rfl) (.sl _) (fun _ => rfl) hb3534 ?_
            refine okG h (fun hb3535 h => ?_)
            refine SafeOps.quiet0 E_good rfl rfl rfl (v := V.ptr [51] (0 + Int.toNat v54_3508) 0) (.idxRefM (f := (fun l => [V.sl 3 (rws api_Instr.cells l)])) (xs := v10_3507) rfl rfl rfl rfl rfl rfl hb3535) ?_
            refine SafeOps.freeze [77] rfl ?_
            refine SafeOps.see 77 (u := V.sl 3 (rws api_Instr.cells (([] ++ (sub (gt a0_3147 v54_3508) 0 (IntKind.i64.wrap (v61_3527 + 1)))) ++ a2_3149))) rfl (.full rfl rfl) ?_
            refine SafeOps.store (z := Obj.rows 1 (rws (fun l => [V.sl 3 (rws api_Instr.cells l)]) (st v10_3507 v54_3508 (([] ++ (sub (gt a0_3147 v54_3508) 0 (IntKind.i64.wrap (v61_3527 + 1)))) ++ a2_3149))) false) E_good rfl rfl rfl rfl rfl rfl rfl (.rowsM (f := (fun l => [V.sl 3 (rws api_Instr.cells l)])) (xs := v10_3507) (y := ([] ++ (sub (gt a0_3147 v54_3508) 0 (IntKind.i64.wrap (v61_3527 + 1)))) ++ a2_3149) hb3535 rfl rfl rfl rfl) ?_
            refine SafeOps.see 10 (u := V.ref [51] 0 (rws (fun l => [V.sl 3 (rws api_Instr.cells l)]) (st v10_3507 v54_3508 (([] ++ (sub (gt a0_3147 v54_3508) 0 (IntKind.i64.wrap (v61_3527 + 1)))) ++ a2_3149))).length) rfl (.len (by simp [rws, st])) ?_
            refine SafeOps.see 69 (u := V.ref [51] 0 (rws (fun l => [V.sl 3 (rws api_Instr.cells l)]) (st v10_3507 v54_3508 (([] ++ (sub (gt a0_3147 v54_3508) 0 (IntKind.i64.wrap (v61_3527 + 1)))) ++ a2_3149))).length) rfl (.len (by simp [rws, st])) ?_
            refine SafeOps.nil ?_
            repeat (first | refine Safe.seq ?_ | refine Safe.skip ?_ | with_reducible refine thenQ.n ?_ | with_reducible refine blockQ.n ?_)
            refine Safe.exit ?_
            repeat (first | with_reducible refine thenQ.e ?_ | with_reducible refine blockQ.x rfl ?_ | with_reducible refine blockQ.y rfl ?_)
            replace h := inr_out h hr3528
            repeat (first | refine Safe.seq ?_ | refine Safe.skip ?_ | with_reducible refine thenQ.n ?_ | with_reducible refine blockQ.n ?_)
            refine Safe.region ?_
            refine SafeOps.quiet0 E_good rfl rfl rfl (v := V.int .i64 (IntKind.i64.wrap (v54_3508 + 1))) (.fn rfl) ?_
            refine SafeOps.quiet0 E_good rfl rfl rfl (v := V.int .i64 (IntKind.i64.wrap (v54_3508 + 1))) (.fn rfl) ?_
            refine SafeOps.nil ?_
            repeat (first | refine Safe.seq ?_ | refine Safe.skip ?_ | with_reducible refine thenQ.n ?_ | with_reducible refine blockQ.n ?_)
            exact ⟨_, next_out h, (.cov ⟨rfl, rfl, (upT_cons (.refl _) (upT_cons (.refl _) (upT_cons (.refl _) (upT_cons (.refl _) (upT_cons (.refl _) (upT_cons (.refl _) (upT_cons (.refl _) (upT_cons (.refl _) (upT_cons (.refl _) upT_nil))))))))), (upOb_cons rfl (.refl _) upOb_nil), upOut_nil, rfl⟩)⟩
          · skip
            refine Safe.condN rfl hc3531 ?_
            repeat (first | refine Safe.seq ?_ | refine Safe.skip ?_ | with_reducible refine thenQ.n ?_ | with_reducible refine blockQ.n ?_)
            refine Safe.region ?_
            refine SafeOps.quiet0 E_good rfl rfl rfl (v := V.int .i64 (IntKind.i64.wrap (v61_3527 + 1))) (.fn rfl) ?_
            refine SafeOps.quiet0 E_good rfl rfl rfl (v := V.int .i64 (IntKind.i64.wrap (v61_3527 + 1))) (.fn rfl) ?_
            refine SafeOps.nil ?_
            repeat (first | refine Safe.seq ?_ | refine Safe.skip ?_ | with_reducible refine thenQ.n ?_ | with_reducible refine blockQ.n ?_)
            exact ⟨_, next_out h, (.cov ⟨rfl, rfl, (upT_cons (.refl _) (upT_cons (.refl _) (upT_cons (.refl _) (upT_cons (.refl _) (upT_cons (.refl _) (upT_cons (.refl _) (upT_cons (.refl _) (upT_cons (.refl _) (upT_cons (.refl _) (upT_cons (.refl _) (upT_cons (.refl _) (upT_cons (.refl _) (upT_cons (.refl _) (upT_cons (.refl _) upT_nil)))))))))))))), (upOb_cons rfl (.refl _) upOb_nil), upOut_nil, rfl⟩)⟩
        · skip
          refine Safe.condN rfl hc3529 ?_
          repeat (first | refine Safe.seq ?_ | refine Safe.skip ?_ | with_reducible refine thenQ.n ?_ | with_reducible refine blockQ.n ?_)
          refine Safe.exit ?_
          repeat (first | with_reducible refine thenQ.e ?_ | with_reducible refine blockQ.x rfl ?_ | with_reducible refine blockQ.y rfl ?_)
          replace h := inr_out h hr3528
          repeat (first | refine Safe.seq ?_ | refine Safe.skip ?_ | with_reducible refine thenQ.n ?_ | with_reducible refine blockQ.n ?_)
          refine Safe.region ?_
          refine SafeOps.quiet0 E_good rfl rfl rfl (v := V.int .i64 (IntKind.i64.wrap (v54_3508 + 1))) (.fn rfl) ?_
          refine SafeOps.quiet0 E_good rfl rfl rfl (v := V.int .i64 (IntKind.i64.wrap (v54_3508 + 1))) (.fn rfl) ?_
          refine SafeOps.nil ?_
          repeat (first | refine Safe.seq ?_ | refine Safe.skip ?_ | with_reducible refine thenQ.n ?_ | with_reducible refine blockQ.n ?_)
          exact ⟨_, next_out h, (.cov ⟨rfl, rfl, (upT_cons (.refl _) (upT_cons (.refl _) (upT_cons (.refl _) (upT_cons (.refl _) (upT_cons (.refl _) (upT_cons (.refl _) (upT_cons (.refl _) (upT_cons (.refl _) (upT_cons (.refl _) upT_nil))))))))), (upOb_cons rfl (.refl _) upOb_nil), upOut_nil, rfl⟩)⟩
      · skip
        refine Safe.condN rfl hc3510 ?_
        repeat (first | refine Safe.seq ?_ | refine Safe.skip ?_ | with_reducible refine thenQ.n ?_ | with_reducible refine blockQ.n ?_)
        refine Safe.exit ?_
        repeat (first | with_reducible refine thenQ.e ?_ | with_reducible refine blockQ.x rfl ?_ | with_reducible refine blockQ.y rfl ?_)
        replace h := inr_out h hr3509
        repeat (first | refine Safe.seq ?_ | refine Safe.skip ?_ | with_reducible refine thenQ.n ?_ | with_reducible refine blockQ.n ?_)
        refine Safe.region ?_
        refine SafeOps.quiet0 E_good rfl rfl rfl (v := V.ref [51] 0 (rws (fun l => [V.sl 3 (rws api_Instr.cells l)]) v10_3507).length) (.fn rfl) ?_
        refine SafeOps.quiet0 E_good rfl rfl rfl (v := V.int .i64 a1_3148) (.fn rfl) ?_
        refine bindG h ?_
        rintro ⟨x_3536, x_3537⟩ he3538 h
        refine SafeOps.quiet0 E_good rfl rfl rfl (v := V.tup [V.int .i64 x_3536, V.int .i64 x_3537]) (.callS rfl (.cons (.full rfl rfl) (.cons (.free rfl) .nil)) (go_code_Tasks_sc v10_3507 a1_3148 _ he3538) (.tupL (.cons (.plain rfl) (.cons (.plain rfl) .nil))) rfl) ?_
        refine SafeOps.quiet0 E_good rfl rfl rfl (v := V.tup [V.int .i64 x_3536, V.int .i64 x_3537]) (.fn rfl) ?_
        refine SafeOps.quiet0 E_good rfl rfl rfl (v := V.int .i64 x_3536) (.fn rfl) ?_
        refine SafeOps.quiet0 E_good rfl rfl rfl (v := V.int .i64 x_3537) (.fn rfl) ?_
        refine SafeOps.quiet0 E_good rfl rfl rfl (v := V.int .i64 x_3536) (.fn rfl) ?_
        refine SafeOps.quiet0 E_good rfl rfl rfl (v := V.int .i64 x_3537) (.fn rfl) ?_
        refine SafeOps.nil ?_
        repeat (first | refine Safe.seq ?_ | refine Safe.skip ?_ | with_reducible refine thenQ.n ?_ | with_reducible refine blockQ.n ?_)
        refine Safe.region ?_
        refine SafeOps.quiet0 E_good rfl rfl rfl (v := V.int .i64 x_3537) (.fn rfl) ?_
        refine SafeOps.quiet0 E_good rfl rfl rfl (v := V.bool (x_3537 != 0)) (.fn rfl) ?_
        refine SafeOps.nil ?_
        repeat (first | refine Safe.seq ?_ | refine Safe.skip ?_ | with_reducible refine thenQ.n ?_ | with_reducible refine blockQ.n ?_)
        refine ifG h (fun hc3545 h => ?_) (fun hc3545 h => ?_)
        · skip
          refine Safe.condK rfl hc3545 ?_
          repeat (first | refine Safe.seq ?_ | refine Safe.skip ?_ | with_reducible refine thenQ.n ?_ | with_reducible refine blockQ.n ?_)
          refine Safe.region ?_
          refine SafeOps.quiet0 E_good rfl rfl rfl (v := V.bool x_3357) (.fn rfl) ?_
          refine SafeOps.quiet0 E_good rfl rfl rfl (v := V.bool x_3357) (.fn rfl) ?_
          refine SafeOps.bjoin 3 93 (b := (x_3357 && (x_3537 == 1))) (b1 := (x_3537 == 1)) (b0 := false) (fun hc3546 K => ?_) (fun hc3546 K => ?_) bj_and ?_
          · skip
            refine SafeOps.quiet0 E_good (congrArg some hc3546) rfl rfl (v := V.int .i64 x_3537) (.fn rfl) ?_
            refine SafeOps.quiet0 E_good (congrArg some hc3546) rfl rfl (v := V.bool (x_3537 == 1)) (.fn rfl) ?_
            refine SafeOps.quiet0 E_good rfl rfl rfl (v := V.bool (x_3537 == 1)) (.pickK rfl hc3546 rfl) ?_
            exact SafeOps.drop' 3 rfl rfl rfl K
          · skip
            refine SafeOps.skip (congrArg some hc3546) rfl rfl ?_
            refine SafeOps.skip (congrArg some hc3546) rfl rfl ?_
            refine SafeOps.quiet0 E_good rfl rfl rfl (v := V.bool false) (.pickK rfl hc3546 rfl) ?_
            exact SafeOps.drop' 3 rfl rfl rfl K
          refine SafeOps.quiet0 E_good rfl rfl rfl (v := V.bool (x_3357 && (x_3537 == 1))) (.fn rfl) ?_
          refine ifG h (fun hc3547 h => ?_) (fun hc3547 h => ?_)
          · skip
            refine SafeOps.quiet0 E_good (congrArg some hc3547) rfl rfl (v := V.ref [51] 0 (rws (fun l => [V.sl 3 (rws api_Instr.cells l)]) v10_3507).length) (.fn rfl) ?_
            refine bindG h ?_
            intro x_3550 he3551 h
            refine SafeOps.quiet0 E_good (congrArg some hc3547) rfl rfl (v := V.int .i64 x_3550) (.callS rfl (.cons (.full rfl rfl) .nil) (go_code_CheckAll_sc v10_3507 _ he3551) (.plain rfl) rfl) ?_
            refine SafeOps.quiet0 E_good (congrArg some hc3547) rfl rfl (v := V.bool (x_3550 == 1)) (.fn rfl) ?_
            refine SafeOps.quiet0 E_good rfl rfl rfl (v := V.bool (x_3550 == 1)) (.pickK rfl hc3547 rfl) ?_
            refine SafeOps.quiet0 E_good rfl rfl rfl (v := V.bool (x_3550 == 1)) (.fn rfl) ?_
            refine SafeOps.nil ?_
            repeat (first | refine Safe.seq ?_ | refine Safe.skip ?_ | with_reducible refine thenQ.n ?_ | with_reducible refine blockQ.n ?_)
            refine Safe.ret ?_
            repeat (first | with_reducible refine thenQ.r ?_ | with_reducible refine blockQ.r ?_)
            obtain rfl := Option.some.inj h
            exact retQ.gen (vs := [V.bool (x_3550 == 1)]) rfl (.tmp (v := V.bool (x_3550 == 1)) rfl .nil) (.free rfl) (by simp) (.inr rfl)
          · skip
            refine SafeOps.skip (congrArg some hc3547) rfl rfl ?_
            refine SafeOps.skip (congrArg some hc3547) rfl rfl ?_
            refine SafeOps.skip (congrArg some hc3547) rfl rfl ?_
            refine SafeOps.quiet0 E_good rfl rfl rfl (v := V.bool false) (.pickK rfl hc3547 rfl) ?_
            refine SafeOps.quiet0 E_good rfl rfl rfl (v := V.bool false) (.fn rfl) ?_
            refine SafeOps.nil ?_
            repeat (first | refine Safe.seq ?_ | refine Safe.skip ?_ | with_reducible refine thenQ.n ?_ | with_reducible refine blockQ.n ?_)
            refine Safe.ret ?_
            repeat (first | with_reducible refine thenQ.r ?_ | with_reducible refine blockQ.r ?_)
            obtain rfl := Option.some.inj h
            exact retQ.gen (vs := [V.bool false]) rfl (.tmp (v := V.bool false) rfl .nil) (.free rfl) (by simp) (.inr rfl)
        · skip
          refine Safe.condN rfl hc3545 ?_
          repeat (first | refine Safe.seq ?_ | refine Safe.skip ?_ | with_reducible refine thenQ.n ?_ | with_reducible refine blockQ.n ?_)
          refine Safe.region ?_
          refine SafeOps.quiet0 E_good rfl rfl rfl (v := V.sl 1 (rws (fun l => [V.sl 3 (rws api_Instr.cells l)]) a0_3147)) (.fn rfl) ?_
          refine SafeOps.quiet0 E_good rfl rfl rfl (v := V.int .i64 a1_3148) (.fn rfl) ?_
          refine okG h (fun hb3552 h => ?_)
          refine SafeOps.quiet0 E_good rfl rfl rfl (v := V.spt 1 (rws (fun l => [V.sl 3 (rws api_Instr.cells l)]) a0_3147) (Int.toNat a1_3148) 0) (.idxSlM (f := (fun l => [V.sl 3 (rws api_Instr.cells l)])) rfl rfl rfl rfl rfl hb3552) ?_
          refine SafeOps.quiet0 E_good rfl rfl rfl (v := V.sl 3 (rws api_Instr.cells (gt a0_3147 a1_3148))) (.load rfl rfl (.sptM (f := (fun l => [V.sl 3 (rws api_Instr.cells l)])) hb3552 rfl) rfl) ?_
          refine bindG h ?_
          rintro ⟨x_3553, x_3554⟩ he3555 h
          refine SafeOps.quiet0 E_good rfl rfl rfl (v := V.tup [V.int .i64 x_3553, V.int .i64 x_3554]) (.callP rfl rfl (go_code_Units_sc (gt a0_3147 a1_3148) _ he3555) rfl) ?_
          refine SafeOps.quiet0 E_good rfl rfl rfl (v := V.tup [V.int .i64 x_3553, V.int .i64 x_3554]) (.fn rfl) ?_
          refine SafeOps.quiet0 E_good rfl rfl rfl (v := V.int .i64 x_3553) (.fn rfl) ?_
          refine SafeOps.quiet0 E_good rfl rfl rfl (v := V.int .i64 x_3554) (.fn rfl) ?_
          refine SafeOps.quiet0 E_good rfl rfl rfl (v := V.int .i64 x_3553) (.fn rfl) ?_
          refine SafeOps.quiet0 E_good rfl rfl rfl (v := V.int .i64 x_3554) (.fn rfl) ?_
          refine SafeOps.nil ?_
          repeat (first | refine Safe.seq ?_ | refine Safe.skip ?_ | with_reducible refine thenQ.n ?_ | with_reducible refine blockQ.n ?_)
          refine Safe.region ?_
          refine SafeOps.quiet0 E_good rfl rfl rfl (v := V.ref [51] 0 (rws (fun l => [V.sl 3 (rws api_Instr.cells l)]) v10_3507).length) (.fn rfl) ?_
          refine SafeOps.quiet0 E_good rfl rfl rfl (v := V.int .i64 a1_3148) (.fn rfl) ?_
          refine okG h (fun hb3556 h => ?_)
          refine SafeOps.quiet0 E_good rfl rfl rfl (v := V.ptr [51] (0 + Int.toNat a1_3148) 0) (.idxRefM (f := (fun l => [V.sl 3 (rws api_Instr.cells l)])) (xs := v10_3507) rfl rfl rfl rfl rfl rfl hb3556) ?_
          refine SafeOps.quiet0 E_good rfl rfl rfl (v := V.sl 3 (rws api_Instr.cells (gt v10_3507 a1_3148))) (.load rfl rfl (.rowsM (f := (fun l => [V.sl 3 (rws api_Instr.cells l)])) (xs := v10_3507) hb3556 rfl rfl) rfl) ?_
          refine bindG h ?_
          rintro ⟨x_3557, x_3558⟩ he3559 h
          refine SafeOps.quiet0 E_good rfl rfl rfl (v := V.tup [V.int .i64 x_3557, V.int .i64 x_3558]) (.callP rfl rfl (go_code_Units_sc (gt v10_3507 a1_3148) _ he3559) rfl) ?_
          refine SafeOps.quiet0 E_good rfl rfl rfl (v := V.tup [V.int .i64 x_3557, V.int .i64 x_3558]) (.fn rfl) ?_
          refine SafeOps.quiet0 E_good rfl rfl rfl (v := V.int .i64 x_3557) (.fn rfl) ?_
          refine SafeOps.quiet0 E_good rfl rfl rfl (v := V.int .i64 x_3558) (.fn rfl) ?_
          refine SafeOps.quiet0 E_good rfl rfl rfl (v := V.int .i64 x_3557) (.fn rfl) ?_
          refine SafeOps.quiet0 E_good rfl rfl rfl (v := V.int .i64 x_3558) (.fn rfl) ?_
          refine SafeOps.nil ?_
          repeat (first | refine Safe.seq ?_ | refine Safe.skip ?_ | with_reducible refine thenQ.n ?_ | with_reducible refine blockQ.n ?_)
          refine Safe.region ?_
          refine SafeOps.quiet0 E_good rfl rfl rfl (v := V.bool x_3357) (.fn rfl) ?_
          refine SafeOps.quiet0 E_good rfl rfl rfl (v := V.bool x_3357) (.fn rfl) ?_
          refine SafeOps.bjoin 4 120 (b := (x_3357 && (x_3536 == x_3365))) (b1 := (x_3536 == x_3365)) (b0 := false) (fun hc3560 K => ?_) (fun hc3560 K => ?_) bj_and ?_
          · skip
            refine SafeOps.quiet0 E_good (congrArg some hc3560) rfl rfl (v := V.int .i64 x_3536) (.fn rfl) ?_
            refine SafeOps.quiet0 E_good (congrArg some hc3560) rfl rfl (v := V.int .i64 x_3365) (.fn rfl) ?_
            refine SafeOps.quiet0 E_good (congrArg some hc3560) rfl rfl (v := V.bool (x_3536 == x_3365)) (.fn rfl) ?_
            refine SafeOps.quiet0 E_good rfl rfl rfl (v := V.bool (x_3536 == x_3365)) (.pickK rfl hc3560 rfl) ?_
            exact SafeOps.drop' 4 rfl rfl rfl K
          · skip
            refine SafeOps.skip (congrArg some hc3560) rfl rfl ?_
            refine SafeOps.skip (congrArg some hc3560) rfl rfl ?_
            refine SafeOps.skip (congrArg some hc3560) rfl rfl ?_
            refine SafeOps.quiet0 E_good rfl rfl rfl (v := V.bool false) (.pickK rfl hc3560 rfl) ?_
            exact SafeOps.drop' 4 rfl rfl rfl K
          refine SafeOps.quiet0 E_good rfl rfl rfl (v := V.bool (x_3357 && (x_3536 == x_3365))) (.fn rfl) ?_
          refine SafeOps.bjoin 3 124 (b := ((x_3357 && (x_3536 == x_3365)) && (x_3554 == 0))) (b1 := (x_3554 == 0)) (b0 := false) (fun hc3561 K => ?_) (fun hc3561 K => ?_) bj_and ?_
          · skip
            refine SafeOps.quiet0 E_good (congrArg some hc3561) rfl rfl (v := V.int .i64 x_3554) (.fn rfl) ?_
            refine SafeOps.quiet0 E_good (congrArg some hc3561) rfl rfl (v := V.bool (x_3554 == 0)) (.fn rfl) ?_
            refine SafeOps.quiet0 E_good rfl rfl rfl (v := V.bool (x_3554 == 0)) (.pickK rfl hc3561 rfl) ?_
            exact SafeOps.drop' 3 rfl rfl rfl K
          · skip
            refine SafeOps.skip (congrArg some hc3561) rfl rfl ?_
            refine SafeOps.skip (congrArg some hc3561) rfl rfl ?_
            refine SafeOps.quiet0 E_good rfl rfl rfl (v := V.bool false) (.pickK rfl hc3561 rfl) ?_
            exact SafeOps.drop' 3 rfl rfl rfl K
          refine SafeOps.quiet0 E_good rfl rfl rfl (v := V.bool ((x_3357 && (x_3536 == x_3365)) && (x_3554 == 0))) (.fn rfl) ?_
          refine SafeOps.bjoin 3 128 (b := (((x_3357 && (x_3536 == x_3365)) && (x_3554 == 0)) && (x_3558 == 0))) (b1 := (x_3558 == 0)) (b0 := false) (fun hc3562 K => ?_) (fun hc3562 K => ?_) bj_and ?_
          · skip
            refine SafeOps.quiet0 E_good (congrArg some hc3562) rfl rfl (v := V.int .i64 x_3558) (.fn rfl) ?_
            refine SafeOps.quiet0 E_good (congrArg some hc3562) rfl rfl (v := V.bool (x_3558 == 0)) (.fn rfl) ?_
            refine SafeOps.quiet0 E_good rfl rfl rfl (v := V.bool (x_3558 == 0)) (.pickK rfl hc3562 rfl) ?_
            exact SafeOps.drop' 3 rfl rfl rfl K
          · skip
            refine SafeOps.skip (congrArg some hc3562) rfl rfl ?_
            refine SafeOps.skip (congrArg some hc3562) rfl rfl ?_
            refine SafeOps.quiet0 E_good rfl rfl rfl (v := V.bool false) (.pickK rfl hc3562 rfl) ?_
            exact SafeOps.drop' 3 rfl rfl rfl K
          refine SafeOps.quiet0 E_good rfl rfl rfl (v := V.bool (((x_3357 && (x_3536 == x_3365)) && (x_3554 == 0)) && (x_3558 == 0))) (.fn rfl) ?_
          refine SafeOps.bjoin 4 133 (b := ((((x_3357 && (x_3536 == x_3365)) && (x_3554 == 0)) && (x_3558 == 0)) && (x_3553 == x_3557))) (b1 := (x_3553 == x_3557)) (b0 := false) (fun hc3563 K => ?_) (fun hc3563 K => ?_) bj_and ?_
          · skip
            refine SafeOps.quiet0 E_good (congrArg some hc3563) rfl rfl (v := V.int .i64 x_3553) (.fn rfl) ?_
            refine SafeOps.quiet0 E_good (congrArg some hc3563) rfl rfl (v := V.int .i64 x_3557) (.fn rfl) ?_
            refine SafeOps.quiet0 E_good (congrArg some hc3563) rfl rfl (v := V.bool (x_3553 == x_3557)) (.fn rfl) ?_
            refine SafeOps.quiet0 E_good rfl rfl rfl (v := V.bool (x_3553 == x_3557)) (.pickK rfl hc3563 rfl) ?_
            exact SafeOps.drop' 4 rfl rfl rfl K
          · skip
            refine SafeOps.skip (congrArg some hc3563) rfl rfl ?_
            refine SafeOps.skip (congrArg some hc3563) rfl rfl ?_
            refine SafeOps.skip (congrArg some hc3563) rfl rfl ?_
            refine SafeOps.quiet0 E_good rfl rfl rfl (v := V.bool false) (.pickK rfl hc3563 rfl) ?_
            exact SafeOps.drop' 4 rfl rfl rfl K
          refine SafeOps.quiet0 E_good rfl rfl rfl (v := V.bool ((((x_3357 && (x_3536 == x_3365)) && (x_3554 == 0)) && (x_3558 == 0)) && (x_3553 == x_3557))) (.fn rfl) ?_
          refine SafeOps.nil ?_
          repeat (first | refine Safe.seq ?_ | refine Safe.skip ?_ | with_reducible refine thenQ.n ?_ | with_reducible refine blockQ.n ?_)
          refine Safe.ret ?_
          repeat (first | with_reducible refine thenQ.r ?_ | with_reducible refine blockQ.r ?_)
          obtain rfl := Option.some.inj h
          exact retQ.gen (vs := [V.bool ((((x_3357 && (x_3536 == x_3365)) && (x_3554 == 0)) && (x_3558 == 0)) && (x_3553 == x_3557))]) rfl (.tmp (v := V.bool ((((x_3357 && (x_3536 == x_3365)) && (x_3554 == 0)) && (x_3558 == 0)) && (x_3553 == x_3557))) rfl .nil) (.free rfl) (by simp) (.inr rfl)
end Go.Proofs.Ytdlpecjbafadkaa
