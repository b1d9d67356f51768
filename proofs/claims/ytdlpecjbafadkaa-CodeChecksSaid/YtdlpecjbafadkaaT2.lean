/- Helper lemmas for the claim's theorem: an abstract machine over the model, proved sound; no condition beyond each lemma's own. -/
import Derived.Test.YtdlpecjbafadkaaT1
set_option linter.unusedVariables false
set_option linter.unusedSimpArgs false
set_option linter.unnecessarySimpa false
set_option linter.unusedSectionVars false
namespace Go.Proofs.Ytdlpecjbafadkaa
open Go Go.AM
set_option maxRecDepth 100000
set_option maxHeartbeats 1000000
set_option linter.unusedVariables false
set_option linter.unusedSimpArgs false
variable {gl : List (Nat × List V)}
noncomputable def go_ravellaw04_CodeChecks_j3 (a0_1017 : List (List api_Instr)) (a1_1018 : List (List api_Instr)) (b_2925 : Bool) : Option Bool :=
  if b_2925 = true then
    (go_code_Same a0_1017 a1_1018).bind fun x_2932 =>
    (go_ravelref04_Same a0_1017 a1_1018).bind fun x_2934 =>
    some (x_2932 == x_2934)
  else
    some false

noncomputable def go_ravellaw04_CodeChecks_s2 (a0_1017 : List (List api_Instr)) (a1_1018 : List (List api_Instr)) (a2_1019 : Int) (x_2782 : Bool) : (Int) → Option ((Int) ⊕ (Bool))
  | v30_2891 =>
    if (decide (v30_2891 < (a0_1017.length : Int))) = true then
      if 0 ≤ v30_2891 ∧ v30_2891 < (a0_1017.length : Int) then
        (go_code_Units (gt a0_1017 v30_2891)).bind fun (x_2895, x_2896) =>
        (go_ravelref04_Units (gt a0_1017 v30_2891)).bind fun (x_2898, x_2899) =>
        if ((x_2895 != x_2898) || (x_2896 != x_2899)) = true then
          inrO (
            some false)
        else
          (go_code_Check (gt a0_1017 v30_2891)).bind fun x_2907 =>
          (go_ravelref04_Check (gt a0_1017 v30_2891)).bind fun x_2909 =>
          if (x_2907 != x_2909) = true then
            inrO (
              some false)
          else
            nextO (IntKind.i64.wrap (v30_2891 + 1))
      else none
    else
      inrO (
        (go_code_Tasks a0_1017 a2_1019).bind fun (x_2912, x_2913) =>
        (go_ravelref04_Tasks a0_1017 a2_1019).bind fun (x_2915, x_2916) =>
        if ((x_2782 && (x_2912 == x_2915)) && (x_2913 == x_2916)) = true then
          (go_code_CheckAll a0_1017).bind fun x_2936 =>
          (go_ravelref04_CheckAll a0_1017).bind fun x_2938 =>
          go_ravellaw04_CodeChecks_j3 a0_1017 a1_1018 (x_2936 == x_2938)
        else
          go_ravellaw04_CodeChecks_j3 a0_1017 a1_1018 false)

noncomputable def go_ravellaw04_CodeChecks (a0_1017 : List (List api_Instr)) (a1_1018 : List (List api_Instr)) (a2_1019 : Int) : Option Bool :=
  (go_ravellaw04_live).bind fun x_2782 =>
  (go_ravelref04_Few a0_1017).bind fun x_2784 =>
  if (!x_2784) = true then
    some x_2782
  else
    (go_ravelref04_Few a1_1018).bind fun x_2789 =>
    if (!x_2789) = true then
      some x_2782
    else
      whileO (go_ravellaw04_CodeChecks_s2 a0_1017 a1_1018 a2_1019 x_2782) 0

theorem go_ravellaw04_CodeChecks_sc (a0_1017 : List (List api_Instr)) (a1_1018 : List (List api_Instr)) (a2_1019 : Int) (r : Bool) (h : go_ravellaw04_CodeChecks a0_1017 a1_1018 a2_1019 = some r) : SC Try.prog gl 7 [V.sl 1 (rws (fun l => [V.sl 3 (rws api_Instr.cells l)]) a0_1017), V.sl 1 (rws (fun l => [V.sl 3 (rws api_Instr.cells l)]) a1_1018), V.int .i64 a2_1019] (V.bool r) := by
  rw [go_ravellaw04_CodeChecks] at h
  refine SC.of E_good Try.func7 rfl (fun _ _ => Try.call7 _ _) rfl ?_
  repeat (first | refine Safe.seq ?_ | refine Safe.skip ?_ | with_reducible refine thenQ.n ?_ | with_reducible refine blockQ.n ?_)
  refine Safe.region ?_
  refine SafeOps.quiet0 E_good rfl rfl rfl (v := V.bool false) (.fn rfl) ?_
  refine SafeOps.nil ?_
  repeat (first | refine Safe.seq ?_ | refine Safe.skip ?_ | with_reducible refine thenQ.n ?_ | with_reducible refine blockQ.n ?_)
  refine Safe.region ?_
  refine bindG h ?_
  intro x_2782 he2783 h
  refine SafeOps.quiet0 E_good rfl rfl rfl (v := V.bool x_2782) (.callP rfl rfl (go_ravellaw04_live_sc  _ he2783) rfl) ?_
  refine SafeOps.quiet0 E_good rfl rfl rfl (v := V.bool x_2782) (.fn rfl) ?_
  refine SafeOps.nil ?_
  repeat (first | refine Safe.seq ?_ | refine Safe.skip ?_ | with_reducible refine thenQ.n ?_ | with_reducible refine blockQ.n ?_)
  refine Safe.region ?_
  refine SafeOps.quiet0 E_good rfl rfl rfl (v := V.sl 1 (rws (fun l => [V.sl 3 (rws api_Instr.cells l)]) a0_1017)) (.fn rfl) ?_
  refine bindG h ?_
  intro x_2784 he2785 h
  refine SafeOps.quiet0 E_good rfl rfl rfl (v := V.bool x_2784) (.callP rfl rfl (go_ravelref04_Few_sc a0_1017 _ he2785) rfl) ?_
  refine SafeOps.quiet0 E_good rfl rfl rfl (v := V.bool (!x_2784)) (.fn rfl) ?_
  refine SafeOps.quiet0 E_good rfl rfl rfl (v := V.bool (!x_2784)) (.fn rfl) ?_
  refine ifG h (fun hc2786 h => ?_) (fun hc2786 h => ?_)
  · skip
    refine SafeOps.skip (congrArg (fun b => some (!b)) hc2786) rfl rfl ?_
    refine SafeOps.skip (congrArg (fun b => some (!b)) hc2786) rfl rfl ?_
    refine SafeOps.skip (congrArg (fun b => some (!b)) hc2786) rfl rfl ?_
    refine SafeOps.quiet0 E_good rfl rfl rfl (v := V.bool true) (.pickK rfl hc2786 rfl) ?_
    refine SafeOps.nil ?_
    repeat (first | refine Safe.seq ?_ | refine Safe.skip ?_ | with_reducible refine thenQ.n ?_ | with_reducible refine blockQ.n ?_)
    refine Safe.condK rfl rfl ?_
    repeat (first | refine Safe.seq ?_ | refine Safe.skip ?_ | with_reducible refine thenQ.n ?_ | with_reducible refine blockQ.n ?_)
    refine Safe.region ?_
    refine SafeOps.quiet0 E_good rfl rfl rfl (v := V.bool x_2782) (.fn rfl) ?_
    refine SafeOps.quiet0 E_good rfl rfl rfl (v := V.bool x_2782) (.fn rfl) ?_
    refine SafeOps.nil ?_
    repeat (first | refine Safe.seq ?_ | refine Safe.skip ?_ | with_reducible refine thenQ.n ?_ | with_reducible refine blockQ.n ?_)
    refine Safe.ret ?_
    repeat (first | with_reducible refine thenQ.r ?_ | with_reducible refine blockQ.r ?_)
    obtain rfl := Option.some.inj h
    exact retQ.gen (vs := [V.bool x_2782]) rfl (.tmp (v := V.bool x_2782) rfl .nil) (.free rfl) (by simp) (.inr rfl)
  · skip
    refine SafeOps.quiet0 E_good (congrArg (fun b => some (!b)) hc2786) rfl rfl (v := V.sl 1 (rws (fun l => [V.sl 3 (rws api_Instr.cells l)]) a1_1018)) (.fn rfl) ?_
    refine bindG h ?_
    intro x_2789 he2790 h
    refine SafeOps.quiet0 E_good (congrArg (fun b => some (!b)) hc2786) rfl rfl (v := V.bool x_2789) (.callP rfl rfl (go_ravelref04_Few_sc a1_1018 _ he2790) rfl) ?_
    refine SafeOps.quiet0 E_good (congrArg (fun b => some (!b)) hc2786) rfl rfl (v := V.bool (!x_2789)) (.fn rfl) ?_
    refine SafeOps.quiet0 E_good rfl rfl rfl (v := V.bool (!x_2789)) (.pickK rfl hc2786 rfl) ?_
    refine SafeOps.nil ?_
    repeat (first | refine Safe.seq ?_ | refine Safe.skip ?_ | with_reducible refine thenQ.n ?_ | with_reducible refine blockQ.n ?_)
    refine ifG h (fun hc2791 h => ?_) (fun hc2791 h => ?_)
    · skip
      refine Safe.condK rfl hc2791 ?_
      repeat (first | refine Safe.seq ?_ | refine Safe.skip ?_ | with_reducible refine thenQ.n ?_ | with_reducible refine blockQ.n ?_)
      refine Safe.region ?_
      refine SafeOps.quiet0 E_good rfl rfl rfl (v := V.bool x_2782) (.fn rfl) ?_
      refine SafeOps.quiet0 E_good rfl rfl rfl (v := V.bool x_2782) (.fn rfl) ?_
      refine SafeOps.nil ?_
      repeat (first | refine Safe.seq ?_ | refine Safe.skip ?_ | with_reducible refine thenQ.n ?_ | with_reducible refine blockQ.n ?_)
      refine Safe.ret ?_
      repeat (first | with_reducible refine thenQ.r ?_ | with_reducible refine blockQ.r ?_)
      obtain rfl := Option.some.inj h
      exact retQ.gen (vs := [V.bool x_2782]) rfl (.tmp (v := V.bool x_2782) rfl .nil) (.free rfl) (by simp) (.inr rfl)
    · skip
      refine Safe.condN rfl hc2791 ?_
      repeat (first | refine Safe.seq ?_ | refine Safe.skip ?_ | with_reducible refine thenQ.n ?_ | with_reducible refine blockQ.n ?_)
      refine Safe.region ?_
      refine SafeOps.quiet0 E_good rfl rfl rfl (v := V.sl 1 (rws (fun l => [V.sl 3 (rws api_Instr.cells l)]) a0_1017)) (.fn rfl) ?_
      refine SafeOps.quiet0 E_good rfl rfl rfl (v := V.int .i64 (a0_1017.length : Int)) (.fnE rfl lenE) ?_
      refine SafeOps.quiet0 E_good rfl rfl rfl (v := V.int .i64 0) (.fn rfl) ?_
      refine SafeOps.nil ?_
      repeat (first | refine Safe.seq ?_ | refine Safe.skip ?_ | with_reducible refine thenQ.n ?_ | with_reducible refine blockQ.n ?_)
      refine Safe.block ?_
      repeat (first | refine Safe.seq ?_ | refine Safe.skip ?_ | with_reducible refine thenQ.n ?_ | with_reducible refine blockQ.n ?_)
      refine Safe.loopW (fun (v30_2891 : Int) => ⟨Try.f7.ntmps, [(0, V.sl 1 (rws (fun l => [V.sl 3 (rws api_Instr.cells l)]) a0_1017)), (1, V.sl 1 (rws (fun l => [V.sl 3 (rws api_Instr.cells l)]) a1_1018)), (2, V.int .i64 a2_1019), (7, V.bool x_2782), (28, V.sl 1 (rws (fun l => [V.sl 3 (rws api_Instr.cells l)]) a0_1017)), (29, V.int .i64 (a0_1017.length : Int)), (30, V.int .i64 v30_2891)], [], [], []⟩) h (.cov ⟨rfl, rfl, (upT_cons (.refl _) (upT_cons (.refl _) (upT_cons (.refl _) (upT_cons (.refl _) (upT_cons (.refl _) (upT_cons (.refl _) (upT_cons (.refl _) upT_nil))))))), upOb_nil, upOut_nil, rfl⟩) ?_
      intro v30_2891 ohr2892 h hr2892
      replace h : go_ravellaw04_CodeChecks_s2 a0_1017 a1_1018 a2_1019 x_2782 v30_2891 = some ohr2892 := h
      rw [go_ravellaw04_CodeChecks_s2] at h
      repeat (first | refine Safe.seq ?_ | refine Safe.skip ?_ | with_reducible refine thenQ.n ?_ | with_reducible refine blockQ.n ?_)
      refine Safe.region ?_
      refine SafeOps.quiet0 E_good rfl rfl rfl (v := V.bool (decide (v30_2891 < (a0_1017.length : Int)))) (.fn rfl) ?_
      refine SafeOps.nil ?_
      repeat (first | refine Safe.seq ?_ | refine Safe.skip ?_ | with_reducible refine thenQ.n ?_ | with_reducible refine blockQ.n ?_)
      refine ifG h (fun hc2893 h => ?_) (fun hc2893 h => ?_)
      · skip
        refine Safe.condK rfl hc2893 ?_
        repeat (first | refine Safe.seq ?_ | refine Safe.skip ?_ | with_reducible refine thenQ.n ?_ | with_reducible refine blockQ.n ?_)
        refine Safe.block ?_
        repeat (first | refine Safe.seq ?_ | refine Safe.skip ?_ | with_reducible refine thenQ.n ?_ | with_reducible refine blockQ.n ?_)
        refine Safe.region ?_
        refine okG h (fun hb2894 h => ?_)
        refine SafeOps.quiet0 E_good rfl rfl rfl (v := V.spt 1 (rws (fun l => [V.sl 3 (rws api_Instr.cells l)]) a0_1017) (Int.toNat v30_2891) 0) (.idxSlM (f := (fun l => [V.sl 3 (rws api_Instr.cells l)])) rfl rfl rfl rfl rfl hb2894) ?_
        refine SafeOps.quiet0 E_good rfl rfl rfl (v := V.sl 3 (rws api_Instr.cells (gt a0_1017 v30_2891))) (.load rfl rfl (.sptM (f := (fun l => [V.sl 3 (rws api_Instr.cells l)])) hb2894 rfl) rfl) ?_
        refine SafeOps.quiet0 E_good rfl rfl rfl (v := V.sl 3 (rws api_Instr.cells (gt a0_1017 v30_2891))) (.fn rfl) ?_
        refine SafeOps.nil ?_
        repeat (first | refine Safe.seq ?_ | refine Safe.skip ?_ | with_reducible refine thenQ.n ?_ | with_reducible refine blockQ.n ?_)
        refine Safe.region ?_
        refine SafeOps.quiet0 E_good rfl rfl rfl (v := V.sl 3 (rws api_Instr.cells (gt a0_1017 v30_2891))) (.fn rfl) ?_
        refine bindG h ?_
        rintro ⟨x_2895, x_2896⟩ he2897 h
        refine SafeOps.quiet0 E_good rfl rfl rfl (v := V.tup [V.int .i64 x_2895, V.int .i64 x_2896]) (.callP rfl rfl (go_code_Units_sc (gt a0_1017 v30_2891) _ he2897) rfl) ?_
        refine SafeOps.quiet0 E_good rfl rfl rfl (v := V.tup [V.int .i64 x_2895, V.int .i64 x_2896]) (.fn rfl) ?_
        refine SafeOps.quiet0 E_good rfl rfl rfl (v := V.int .i64 x_2895) (.fn rfl) ?_
        refine SafeOps.quiet0 E_good rfl rfl rfl (v := V.int .i64 x_2896) (.fn rfl) ?_
        refine SafeOps.quiet0 E_good rfl rfl rfl (v := V.int .i64 x_2895) (.fn rfl) ?_
        refine SafeOps.quiet0 E_good rfl rfl rfl (v := V.int .i64 x_2896) (.fn rfl) ?_
        refine SafeOps.nil ?_
        repeat (first | refine Safe.seq ?_ | refine Safe.skip ?_ | with_reducible refine thenQ.n ?_ | with_reducible refine blockQ.n ?_)
        refine Safe.region ?_
        refine SafeOps.quiet0 E_good rfl rfl rfl (v := V.sl 3 (rws api_Instr.cells (gt a0_1017 v30_2891))) (.fn rfl) ?_
        refine bindG h ?_
        rintro ⟨x_2898, x_2899⟩ he2900 h
        refine SafeOps.quiet0 E_good rfl rfl rfl (v := V.tup [V.int .i64 x_2898, V.int .i64 x_2899]) (.callP rfl rfl (go_ravelref04_Units_sc (gt a0_1017 v30_2891) _ he2900) rfl) ?_
        refine SafeOps.quiet0 E_good rfl rfl rfl (v := V.tup [V.int .i64 x_2898, V.int .i64 x_2899]) (.fn rfl) ?_
        refine SafeOps.quiet0 E_good rfl rfl rfl (v := V.int .i64 x_2898) (.fn rfl) ?_
        refine SafeOps.quiet0 E_good rfl rfl rfl (v := V.int .i64 x_2899) (.fn rfl) ?_
        refine SafeOps.quiet0 E_good rfl rfl rfl (v := V.int .i64 x_2898) (.fn rfl) ?_
        refine SafeOps.quiet0 E_good rfl rfl rfl (v := V.int .i64 x_2899) (.fn rfl) ?_
        refine SafeOps.nil ?_
        repeat (first | refine Safe.seq ?_ | refine Safe.skip ?_ | with_reducible refine thenQ.n ?_ | with_reducible refine blockQ.n ?_)
        refine Safe.region ?_
        refine SafeOps.quiet0 E_good rfl rfl rfl (v := V.int .i64 x_2895) (.fn rfl) ?_
        refine SafeOps.quiet0 E_good rfl rfl rfl (v := V.int .i64 x_2898) (.fn rfl) ?_
        refine SafeOps.quiet0 E_good rfl rfl rfl (v := V.bool (x_2895 != x_2898)) (.fn rfl) ?_
        refine SafeOps.quiet0 E_good rfl rfl rfl (v := V.bool (x_2895 != x_2898)) (.fn rfl) ?_
        refine SafeOps.bjoin 4 51 (b := ((x_2895 != x_2898) || (x_2896 != x_2899))) (b1 := true) (b0 := (x_2896 != x_2899)) (fun hc2901 K => ?_) (fun hc2901 K => ?_) bj_or ?_
        · skip
          refine SafeOps.skip (congrArg (fun b => some (!b)) hc2901) rfl rfl ?_
          refine SafeOps.skip (congrArg (fun b => some (!b)) hc2901) rfl rfl ?_
          refine SafeOps.skip (congrArg (fun b => some (!b)) hc2901) rfl rfl ?_
          refine SafeOps.quiet0 E_good rfl rfl rfl (v := V.bool true) (.pickK rfl hc2901 rfl) ?_
          exact SafeOps.drop' 4 rfl rfl rfl K
        · skip
          refine SafeOps.quiet0 E_good (congrArg (fun b => some (!b)) hc2901) rfl rfl (v := V.int .i64 x_2896) (.fn rfl) ?_
          refine SafeOps.quiet0 E_good (congrArg (fun b => some (!b)) hc2901) rfl rfl (v := V.int .i64 x_2899) (.fn rfl) ?_
          refine SafeOps.quiet0 E_good (congrArg (fun b => some (!b)) hc2901) rfl rfl (v := V.bool (x_2896 != x_2899)) (.fn rfl) ?_
          refine SafeOps.quiet0 E_good rfl rfl rfl (v := V.bool (x_2896 != x_2899)) (.pickK rfl hc2901 rfl) ?_
          exact SafeOps.drop' 4 rfl rfl rfl K
        refine SafeOps.quiet0 E_good rfl rfl rfl (v := V.bool ((x_2895 != x_2898) || (x_2896 != x_2899))) (.fn rfl) ?_
        refine ifG h (fun hc2902 h => ?_) (fun hc2902 h => ?_)
        · skip
          refine SafeOps.skip (congrArg (fun b => some (!b)) hc2902) rfl rfl ?_
          refine SafeOps.skip (congrArg (fun b => some (!b)) hc2902) rfl rfl ?_
          refine SafeOps.skip (congrArg (fun b => some (!b)) hc2902) rfl rfl ?_
          refine SafeOps.skip (congrArg (fun b => some (!b)) hc2902) rfl rfl ?_
          refine SafeOps.skip (congrArg (fun b => some (!b)) hc2902) rfl rfl ?_
          refine SafeOps.quiet0 E_good rfl rfl rfl (v := V.bool true) (.pickK rfl hc2902 rfl) ?_
          refine SafeOps.nil ?_
          repeat (first | refine Safe.seq ?_ | refine Safe.skip ?_ | with_reducible refine thenQ.n ?_ | with_reducible refine blockQ.n ?_)
          refine Safe.condK rfl rfl ?_
          repeat (first | refine Safe.seq ?_ | refine Safe.skip ?_ | with_reducible refine thenQ.n ?_ | with_reducible refine blockQ.n ?_)
          refine Safe.region ?_
          refine SafeOps.quiet0 E_good rfl rfl rfl (v := V.bool false) (.fn rfl) ?_
          refine SafeOps.nil ?_
          repeat (first | refine Safe.seq ?_ | refine Safe.skip ?_ | with_reducible refine thenQ.n ?_ | with_reducible refine blockQ.n ?_)
          refine Safe.ret ?_
          repeat (first | with_reducible refine thenQ.r ?_ | with_reducible refine blockQ.r ?_)
          replace h := inr_out h hr2892
          obtain rfl := Option.some.inj h
          exact retQ.gen (vs := [V.bool false]) rfl (.tmp (v := V.bool false) rfl .nil) (.free rfl) (by simp) (.inr rfl)
        · skip
          refine SafeOps.quiet0 E_good (congrArg (fun b => some (!b)) hc2902) rfl rfl (v := V.sl 3 (rws api_Instr.cells (gt a0_1017 v30_2891))) (.fn rfl) ?_
          refine bindG h ?_
          intro x_2907 he2908 h
          refine SafeOps.quiet0 E_good (congrArg (fun b => some (!b)) hc2902) rfl rfl (v := V.int .i64 x_2907) (.callP rfl rfl (go_code_Check_sc (gt a0_1017 v30_2891) _ he2908) rfl) ?_
          refine SafeOps.quiet0 E_good (congrArg (fun b => some (!b)) hc2902) rfl rfl (v := V.sl 3 (rws api_Instr.cells (gt a0_1017 v30_2891))) (.fn rfl) ?_
          refine bindG h ?_
          intro x_2909 he2910 h
          refine SafeOps.quiet0 E_good (congrArg (fun b => some (!b)) hc2902) rfl rfl (v := V.int .i64 x_2909) (.callP rfl rfl (go_ravelref04_Check_sc (gt a0_1017 v30_2891) _ he2910) rfl) ?_
          refine SafeOps.quiet0 E_good (congrArg (fun b => some (!b)) hc2902) rfl rfl (v := V.bool (x_2907 != x_2909)) (.fn rfl) ?_
          refine SafeOps.quiet0 E_good rfl rfl rfl (v := V.bool (x_2907 != x_2909)) (.pickK rfl hc2902 rfl) ?_
          refine SafeOps.nil ?_
          repeat (first | refine Safe.seq ?_ | refine Safe.skip ?_ | with_reducible refine thenQ.n ?_ | with_reducible refine blockQ.n ?_)
          refine ifG h (fun hc2911 h => ?_) (fun hc2911 h => ?_)
          · skip
            refine Safe.condK rfl hc2911 ?_
            repeat (first | refine Safe.seq ?_ | refine Safe.skip ?_ | with_reducible refine thenQ.n ?_ | with_reducible refine blockQ.n ?_)
            refine Safe.region ?_
            refine SafeOps.quiet0 E_good rfl rfl rfl (v := V.bool false) (.fn rfl) ?_
            refine SafeOps.nil ?_
            repeat (first | refine Safe.seq ?_ | refine Safe.skip ?_ | with_reducible refine thenQ.n ?_ | with_reducible refine blockQ.n ?_)
            refine Safe.ret ?_
            repeat (first | with_reducible refine thenQ.r ?_ | with_reducible refine blockQ.r ?_)
            replace h := inr_out h hr2892
            obtain rfl := Option.some.inj h
            exact retQ.gen (vs := [V.bool false]) rfl (.tmp (v := V.bool false) rfl .nil) (.free rfl) (by simp) (.inr rfl)
          · skip
            refine Safe.condN rfl hc2911 ?_
            repeat (first | refine Safe.seq ?_ | refine Safe.skip ?_ | with_reducible refine thenQ.n ?_ | with_reducible refine blockQ.n ?_)
            refine Safe.region ?_
            refine SafeOps.quiet0 E_good rfl rfl rfl (v := V.int .i64 (IntKind.i64.wrap (v30_2891 + 1))) (.fn rfl) ?_
            refine SafeOps.quiet0 E_good rfl rfl rfl (v := V.int .i64 (IntKind.i64.wrap (v30_2891 + 1))) (.fn rfl) ?_
            refine SafeOps.nil ?_
            repeat (first | refine Safe.seq ?_ | refine Safe.skip ?_ | with_reducible refine thenQ.n ?_ | with_reducible refine blockQ.n ?_)
            exact ⟨_, next_out h, (.cov ⟨rfl, rfl, (upT_cons (.refl _) (upT_cons (.refl _) (upT_cons (.refl _) (upT_cons (.refl _) (upT_cons (.refl _) (upT_cons (.refl _) (upT_cons (.refl _) upT_nil))))))), upOb_nil, upOut_nil, rfl⟩)⟩
      · skip
        refine Safe.condN rfl hc2893 ?_
        repeat (first | refine Safe.seq ?_ | refine Safe.skip ?_ | with_reducible refine thenQ.n ?_ | with_reducible refine blockQ.n ?_)
        refine Safe.exit ?_
        repeat (first | with_reducible refine thenQ.e ?_ | with_reducible refine blockQ.x rfl ?_ | with_reducible refine blockQ.y rfl ?_)
        replace h := inr_out h hr2892
        repeat (first | refine Safe.seq ?_ | refine Safe.skip ?_ | with_reducible refine thenQ.n ?_ | with_reducible refine blockQ.n ?_)
        refine Safe.region ?_
        refine SafeOps.quiet0 E_good rfl rfl rfl (v := V.sl 1 (rws (fun l => [V.sl 3 (rws api_Instr.cells l)]) a0_1017)) (.fn rfl) ?_
        refine SafeOps.quiet0 E_good rfl rfl rfl (v := V.int .i64 a2_1019) (.fn rfl) ?_
        refine bindG h ?_
        rintro ⟨x_2912, x_2913⟩ he2914 h
        refine SafeOps.quiet0 E_good rfl rfl rfl (v := V.tup [V.int .i64 x_2912, V.int .i64 x_2913]) (.callP rfl rfl (go_code_Tasks_sc a0_1017 a2_1019 _ he2914) rfl) ?_
        refine SafeOps.quiet0 E_good rfl rfl rfl (v := V.tup [V.int .i64 x_2912, V.int .i64 x_2913]) (.fn rfl) ?_
        refine SafeOps.quiet0 E_good rfl rfl rfl (v := V.int .i64 x_2912) (.fn rfl) ?_
        refine SafeOps.quiet0 E_good rfl rfl rfl (v := V.int .i64 x_2913) (.fn rfl) ?_
        refine SafeOps.quiet0 E_good rfl rfl rfl (v := V.int .i64 x_2912) (.fn rfl) ?_
        refine SafeOps.quiet0 E_good rfl rfl rfl (v := V.int .i64 x_2913) (.fn rfl) ?_
        refine SafeOps.nil ?_
        repeat (first | refine Safe.seq ?_ | refine Safe.skip ?_ | with_reducible refine thenQ.n ?_ | with_reducible refine blockQ.n ?_)
        refine Safe.region ?_
        refine SafeOps.quiet0 E_good rfl rfl rfl (v := V.sl 1 (rws (fun l => [V.sl 3 (rws api_Instr.cells l)]) a0_1017)) (.fn rfl) ?_
        refine SafeOps.quiet0 E_good rfl rfl rfl (v := V.int .i64 a2_1019) (.fn rfl) ?_
        refine bindG h ?_
        rintro ⟨x_2915, x_2916⟩ he2917 h
        refine SafeOps.quiet0 E_good rfl rfl rfl (v := V.tup [V.int .i64 x_2915, V.int .i64 x_2916]) (.callP rfl rfl (go_ravelref04_Tasks_sc a0_1017 a2_1019 _ he2917) rfl) ?_
        refine SafeOps.quiet0 E_good rfl rfl rfl (v := V.tup [V.int .i64 x_2915, V.int .i64 x_2916]) (.fn rfl) ?_
        refine SafeOps.quiet0 E_good rfl rfl rfl (v := V.int .i64 x_2915) (.fn rfl) ?_
        refine SafeOps.quiet0 E_good rfl rfl rfl (v := V.int .i64 x_2916) (.fn rfl) ?_
        refine SafeOps.quiet0 E_good rfl rfl rfl (v := V.int .i64 x_2915) (.fn rfl) ?_
        refine SafeOps.quiet0 E_good rfl rfl rfl (v := V.int .i64 x_2916) (.fn rfl) ?_
        refine SafeOps.nil ?_
        repeat (first | refine Safe.seq ?_ | refine Safe.skip ?_ | with_reducible refine thenQ.n ?_ | with_reducible refine blockQ.n ?_)
        refine Safe.region ?_
        refine SafeOps.quiet0 E_good rfl rfl rfl (v := V.bool x_2782) (.fn rfl) ?_
        refine SafeOps.quiet0 E_good rfl rfl rfl (v := V.bool x_2782) (.fn rfl) ?_
        refine SafeOps.bjoin 4 77 (b := (x_2782 && (x_2912 == x_2915))) (b1 := (x_2912 == x_2915)) (b0 := false) (fun hc2918 K => ?_) (fun hc2918 K => ?_) bj_and ?_
        · skip
          refine SafeOps.quiet0 E_good (congrArg some hc2918) rfl rfl (v := V.int .i64 x_2912) (.fn rfl) ?_
          refine SafeOps.quiet0 E_good (congrArg some hc2918) rfl rfl (v := V.int .i64 x_2915) (.fn rfl) ?_
          refine SafeOps.quiet0 E_good (congrArg some hc2918) rfl rfl (v := V.bool (x_2912 == x_2915)) (.fn rfl) ?_
          refine SafeOps.quiet0 E_good rfl rfl rfl (v := V.bool (x_2912 == x_2915)) (.pickK rfl hc2918 rfl) ?_
          exact SafeOps.drop' 4 rfl rfl rfl K
        · skip
          refine SafeOps.skip (congrArg some hc2918) rfl rfl ?_
          refine SafeOps.skip (congrArg some hc2918) rfl rfl ?_
          refine SafeOps.skip (congrArg some hc2918) rfl rfl ?_
          refine SafeOps.quiet0 E_good rfl rfl rfl (v := V.bool false) (.pickK rfl hc2918 rfl) ?_
          exact SafeOps.drop' 4 rfl rfl rfl K
        refine SafeOps.quiet0 E_good rfl rfl rfl (v := V.bool (x_2782 && (x_2912 == x_2915))) (.fn rfl) ?_
        refine SafeOps.bjoin 4 82 (b := ((x_2782 && (x_2912 == x_2915)) && (x_2913 == x_2916))) (b1 := (x_2913 == x_2916)) (b0 := false) (fun hc2919 K => ?_) (fun hc2919 K => ?_) bj_and ?_
        · skip
          refine SafeOps.quiet0 E_good (congrArg some hc2919) rfl rfl (v := V.int .i64 x_2913) (.fn rfl) ?_
          refine SafeOps.quiet0 E_good (congrArg some hc2919) rfl rfl (v := V.int .i64 x_2916) (.fn rfl) ?_
          refine SafeOps.quiet0 E_good (congrArg some hc2919) rfl rfl (v := V.bool (x_2913 == x_2916)) (.fn rfl) ?_
          refine SafeOps.quiet0 E_good rfl rfl rfl (v := V.bool (x_2913 == x_2916)) (.pickK rfl hc2919 rfl) ?_
          exact SafeOps.drop' 4 rfl rfl rfl K
        · skip
          refine SafeOps.skip (congrArg some hc2919) rfl rfl ?_
          refine SafeOps.skip (congrArg some hc2919) rfl rfl ?_
          refine SafeOps.skip (congrArg some hc2919) rfl rfl ?_
          refine SafeOps.quiet0 E_good rfl rfl rfl (v := V.bool false) (.pickK rfl hc2919 rfl) ?_
          exact SafeOps.drop' 4 rfl rfl rfl K
        refine SafeOps.quiet0 E_good rfl rfl rfl (v := V.bool ((x_2782 && (x_2912 == x_2915)) && (x_2913 == x_2916))) (.fn rfl) ?_
        refine SafeOps.bsplit 6 89 (fun b_2925 => go_ravellaw04_CodeChecks_j3 a0_1017 a1_1018 b_2925 = some r) (fun HJ2926 => ?_) (fun b_2925 h => ?_)
        · refine ifG h (fun hc2920 h => ?_) (fun hc2920 h => ?_)
          · skip
            refine SafeOps.quiet0 E_good (congrArg some hc2920) rfl rfl (v := V.sl 1 (rws (fun l => [V.sl 3 (rws api_Instr.cells l)]) a0_1017)) (.fn rfl) ?_
            refine bindG h ?_
            intro x_2936 he2937 h
            refine SafeOps.quiet0 E_good (congrArg some hc2920) rfl rfl (v := V.int .i64 x_2936) (.callP rfl rfl (go_code_CheckAll_sc a0_1017 _ he2937) rfl) ?_
            refine SafeOps.quiet0 E_good (congrArg some hc2920) rfl rfl (v := V.sl 1 (rws (fun l => [V.sl 3 (rws api_Instr.cells l)]) a0_1017)) (.fn rfl) ?_
            refine bindG h ?_
            intro x_2938 he2939 h
            refine SafeOps.quiet0 E_good (congrArg some hc2920) rfl rfl (v := V.int .i64 x_2938) (.callP rfl rfl (go_ravelref04_CheckAll_sc a0_1017 _ he2939) rfl) ?_
            refine SafeOps.quiet0 E_good (congrArg some hc2920) rfl rfl (v := V.bool (x_2936 == x_2938)) (.fn rfl) ?_
            refine SafeOps.quiet0 E_good rfl rfl rfl (v := V.bool (x_2936 == x_2938)) (.pickK rfl hc2920 rfl) ?_
            exact SafeOps.drop' 6 rfl rfl rfl (HJ2926 _ h)
          · skip
            refine SafeOps.skip (congrArg some hc2920) rfl rfl ?_
            refine SafeOps.skip (congrArg some hc2920) rfl rfl ?_
            refine SafeOps.skip (congrArg some hc2920) rfl rfl ?_
            refine SafeOps.skip (congrArg some hc2920) rfl rfl ?_
            refine SafeOps.skip (congrArg some hc2920) rfl rfl ?_
            refine SafeOps.quiet0 E_good rfl rfl rfl (v := V.bool false) (.pickK rfl hc2920 rfl) ?_
            exact SafeOps.drop' 6 rfl rfl rfl (HJ2926 _ h)
        · replace h : go_ravellaw04_CodeChecks_j3 a0_1017 a1_1018 b_2925 = some r := h
          rw [go_ravellaw04_CodeChecks_j3] at h
          refine SafeOps.quiet0 E_good rfl rfl rfl (v := V.bool b_2925) (.fn rfl) ?_
          refine ifG h (fun hc2927 h => ?_) (fun hc2927 h => ?_)
          · skip
            refine SafeOps.quiet0 E_good (congrArg some hc2927) rfl rfl (v := V.sl 1 (rws (fun l => [V.sl 3 (rws api_Instr.cells l)]) a0_1017)) (.fn rfl) ?_
            refine SafeOps.quiet0 E_good (congrArg some hc2927) rfl rfl (v := V.sl 1 (rws (fun l => [V.sl 3 (rws api_Instr.cells l)]) a1_1018)) (.fn rfl) ?_
            refine bindG h ?_
            intro x_2932 he2933 h
            refine SafeOps.quiet0 E_good (congrArg some hc2927) rfl rfl (v := V.bool x_2932) (.callP rfl rfl (go_code_Same_sc a0_1017 a1_1018 _ he2933) rfl) ?_
            refine SafeOps.quiet0 E_good (congrArg some hc2927) rfl rfl (v := V.sl 1 (rws (fun l => [V.sl 3 (rws api_Instr.cells l)]) a0_1017)) (.fn rfl) ?_
            refine SafeOps.quiet0 E_good (congrArg some hc2927) rfl rfl (v := V.sl 1 (rws (fun l => [V.sl 3 (rws api_Instr.cells l)]) a1_1018)) (.fn rfl) ?_
            refine bindG h ?_
            intro x_2934 he2935 h
            refine SafeOps.quiet0 E_good (congrArg some hc2927) rfl rfl (v := V.bool x_2934) (.callP rfl rfl (go_ravelref04_Same_sc a0_1017 a1_1018 _ he2935) rfl) ?_
            refine SafeOps.quiet0 E_good (congrArg some hc2927) rfl rfl (v := V.bool (x_2932 == x_2934)) (.fn rfl) ?_
            refine SafeOps.quiet0 E_good rfl rfl rfl (v := V.bool (x_2932 == x_2934)) (.pickK rfl hc2927 rfl) ?_
            refine SafeOps.quiet0 E_good rfl rfl rfl (v := V.bool (x_2932 == x_2934)) (.fn rfl) ?_
            refine SafeOps.nil ?_
            repeat (first | refine Safe.seq ?_ | refine Safe.skip ?_ | with_reducible refine thenQ.n ?_ | with_reducible refine blockQ.n ?_)
            refine Safe.ret ?_
            repeat (first | with_reducible refine thenQ.r ?_ | with_reducible refine blockQ.r ?_)
            obtain rfl := Option.some.inj h
            exact retQ.gen (vs := [V.bool (x_2932 == x_2934)]) rfl (.tmp (v := V.bool (x_2932 == x_2934)) rfl .nil) (.free rfl) (by simp) (.inr rfl)
          · skip
            refine SafeOps.skip (congrArg some hc2927) rfl rfl ?_
            refine SafeOps.skip (congrArg some hc2927) rfl rfl ?_
            refine SafeOps.skip (congrArg some hc2927) rfl rfl ?_
            refine SafeOps.skip (congrArg some hc2927) rfl rfl ?_
            refine SafeOps.skip (congrArg some hc2927) rfl rfl ?_
            refine SafeOps.skip (congrArg some hc2927) rfl rfl ?_
            refine SafeOps.skip (congrArg some hc2927) rfl rfl ?_
            refine SafeOps.quiet0 E_good rfl rfl rfl (v := V.bool false) (.pickK rfl hc2927 rfl) ?_
            refine SafeOps.quiet0 E_good rfl rfl rfl (v := V.bool false) (.fn rfl) ?_
            refine SafeOps.nil ?_
            repeat (first | refine Safe.seq ?_ | refine Safe.skip ?_ | with_reducible refine thenQ.n ?_ | with_reducible refine blockQ.n ?_)
            refine Safe.ret ?_
            repeat (first | with_reducible refine thenQ.r ?_ | with_reducible refine blockQ.r ?_)
            obtain rfl := Option.some.inj h
            exact retQ.gen (vs := [V.bool false]) rfl (.tmp (v := V.bool false) rfl .nil) (.free rfl) (by simp) (.inr rfl)
end Go.Proofs.Ytdlpecjbafadkaa
