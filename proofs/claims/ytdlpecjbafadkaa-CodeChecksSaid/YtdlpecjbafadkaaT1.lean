/- Helper lemmas for the claim's theorem: an abstract machine over the model, proved sound; no condition beyond each lemma's own. -/
import Derived.Test.YtdlpecjbafadkaaT0
set_option linter.unusedVariables false
set_option linter.unusedSimpArgs false
set_option linter.unnecessarySimpa false
set_option linter.unusedSectionVars false
namespace Go.Proofs.Ytdlpecjbafadkaa
open Go Go.AM
set_option maxRecDepth 100000
set_option maxHeartbeats 1000000
set_option linter.unusedVariables false
set_option linter.unusedSimpArgs false
variable {gl : List (Nat × List V)}
noncomputable def go_ravellaw04_CodeSums_j3 (x_896 : Bool) (x_901 : Int) (x_902 : Int) (v8_963 : Int) (v9_967 : Int) : Option Bool :=
  if (x_902 != 0) = true then
    some ((x_896 && (x_901 == 0)) && ((x_902 == v9_967) || (x_902 == 9)))
  else
    some (((x_896 && (v9_967 == 0)) && (x_901 == v8_963)) && (decide (x_901 ≥ 1)))

noncomputable def go_ravellaw04_CodeSums_j2 (x_896 : Bool) (x_901 : Int) (x_902 : Int) (v8_963 : Int) (v9_964 : Int) : Option Bool :=
  if ((v9_964 == 0) && (decide (v8_963 > 1099511627776))) = true then
    go_ravellaw04_CodeSums_j3 x_896 x_901 x_902 v8_963 4
  else
    go_ravellaw04_CodeSums_j3 x_896 x_901 x_902 v8_963 v9_964

noncomputable def go_ravellaw04_CodeSums_s4 (a0_761 : List (List api_Instr)) (a1_762 : Int) (x_896 : Bool) (x_901 : Int) (x_902 : Int) : (Int × Int × Int) → Option ((Int × Int × Int) ⊕ (Bool))
  | (v8_1003, v9_1004, v56_1005) =>
    if (decide (v56_1005 < ((gt a0_761 a1_762).length : Int))) = true then
      if 0 ≤ v56_1005 ∧ v56_1005 < ((gt a0_761 a1_762).length : Int) then
        if (((gt (gt a0_761 a1_762) v56_1005).Op) == 9) = true then
          inrO (
            go_ravellaw04_CodeSums_j2 x_896 x_901 x_902 v8_1003 v9_1004)
        else
          if (((gt (gt a0_761 a1_762) v56_1005).Op) != 2) = true then
            nextO (v8_1003, v9_1004, IntKind.i64.wrap (v56_1005 + 1))
          else
            (go_code_Tasks a0_761 ((gt (gt a0_761 a1_762) v56_1005).A)).bind fun (x_1011, x_1012) =>
            if ((x_1012 == 9) || ((x_1012 == 4) && (v9_1004 == 0))) = true then
              nextO (IntKind.i64.wrap (v8_1003 + x_1011), x_1012, IntKind.i64.wrap (v56_1005 + 1))
            else
              nextO (IntKind.i64.wrap (v8_1003 + x_1011), v9_1004, IntKind.i64.wrap (v56_1005 + 1))
      else none
    else
      inrO (
        go_ravellaw04_CodeSums_j2 x_896 x_901 x_902 v8_1003 v9_1004)

noncomputable def go_ravellaw04_CodeSums (a0_761 : List (List api_Instr)) (a1_762 : Int) : Option Bool :=
  (go_ravellaw04_live).bind fun x_896 =>
  (go_ravelref04_Few a0_761).bind fun x_898 =>
  if (!x_898) = true then
    some x_896
  else
    (go_code_Tasks a0_761 a1_762).bind fun (x_901, x_902) =>
    if (x_902 == 1) = true then
      if x_896 = true then
        (go_code_CheckAll a0_761).bind fun x_919 =>
        some (((x_919 != 0) || (decide (a1_762 < 0))) || (decide (a1_762 ≥ (a0_761.length : Int))))
      else
        some false
    else
      if ((decide (a1_762 < 0)) || (decide (a1_762 ≥ (a0_761.length : Int)))) = true then
        some false
      else
        if 0 ≤ a1_762 ∧ a1_762 < (a0_761.length : Int) then
          whileO (go_ravellaw04_CodeSums_s4 a0_761 a1_762 x_896 x_901 x_902) (1, 0, 0)
        else none

theorem go_ravellaw04_CodeSums_sc (a0_761 : List (List api_Instr)) (a1_762 : Int) (r : Bool) (h : go_ravellaw04_CodeSums a0_761 a1_762 = some r) : SC Try.prog gl 3 [V.sl 1 (rws (fun l => [V.sl 3 (rws api_Instr.cells l)]) a0_761), V.int .i64 a1_762] (V.bool r) := by
  rw [go_ravellaw04_CodeSums] at h
  refine SC.of E_good Try.func3 rfl (fun _ _ => Try.call3 _ _) rfl ?_
  repeat (first | refine Safe.seq ?_ | refine Safe.skip ?_ | with_reducible refine thenQ.n ?_ | with_reducible refine blockQ.n ?_)
  refine Safe.region ?_
  refine SafeOps.quiet0 E_good rfl rfl rfl (v := V.bool false) (.fn rfl) ?_
  refine SafeOps.nil ?_
  repeat (first | refine Safe.seq ?_ | refine Safe.skip ?_ | with_reducible refine thenQ.n ?_ | with_reducible refine blockQ.n ?_)
  refine Safe.region ?_
  refine bindG h ?_
  intro x_896 he897 h
  refine SafeOps.quiet0 E_good rfl rfl rfl (v := V.bool x_896) (.callP rfl rfl (go_ravellaw04_live_sc  _ he897) rfl) ?_
  refine SafeOps.quiet0 E_good rfl rfl rfl (v := V.bool x_896) (.fn rfl) ?_
  refine SafeOps.nil ?_
  repeat (first | refine Safe.seq ?_ | refine Safe.skip ?_ | with_reducible refine thenQ.n ?_ | with_reducible refine blockQ.n ?_)
  refine Safe.region ?_
  refine SafeOps.quiet0 E_good rfl rfl rfl (v := V.sl 1 (rws (fun l => [V.sl 3 (rws api_Instr.cells l)]) a0_761)) (.fn rfl) ?_
  refine bindG h ?_
  intro x_898 he899 h
  refine SafeOps.quiet0 E_good rfl rfl rfl (v := V.bool x_898) (.callP rfl rfl (go_ravelref04_Few_sc a0_761 _ he899) rfl) ?_
  refine SafeOps.quiet0 E_good rfl rfl rfl (v := V.bool (!x_898)) (.fn rfl) ?_
  refine SafeOps.nil ?_
  repeat (first | refine Safe.seq ?_ | refine Safe.skip ?_ | with_reducible refine thenQ.n ?_ | with_reducible refine blockQ.n ?_)
  refine ifG h (fun hc900 h => ?_) (fun hc900 h => ?_)
  · skip
    refine Safe.condK rfl hc900 ?_
    repeat (first | refine Safe.seq ?_ | refine Safe.skip ?_ | with_reducible refine thenQ.n ?_ | with_reducible refine blockQ.n ?_)
    refine Safe.region ?_
    refine SafeOps.quiet0 E_good rfl rfl rfl (v := V.bool x_896) (.fn rfl) ?_
    refine SafeOps.quiet0 E_good rfl rfl rfl (v := V.bool x_896) (.fn rfl) ?_
    refine SafeOps.nil ?_
    repeat (first | refine Safe.seq ?_ | refine Safe.skip ?_ | with_reducible refine thenQ.n ?_ | with_reducible refine blockQ.n ?_)
    refine Safe.ret ?_
    repeat (first | with_reducible refine thenQ.r ?_ | with_reducible refine blockQ.r ?_)
    obtain rfl := Option.some.inj h
    exact retQ.gen (vs := [V.bool x_896]) rfl (.tmp (v := V.bool x_896) rfl .nil) (.free rfl) (by simp) (.inr rfl)
  · skip
    refine Safe.condN rfl hc900 ?_
    repeat (first | refine Safe.seq ?_ | refine Safe.skip ?_ | with_reducible refine thenQ.n ?_ | with_reducible refine blockQ.n ?_)
    refine Safe.region ?_
    refine SafeOps.quiet0 E_good rfl rfl rfl (v := V.sl 1 (rws (fun l => [V.sl 3 (rws api_Instr.cells l)]) a0_761)) (.fn rfl) ?_
    refine SafeOps.quiet0 E_good rfl rfl rfl (v := V.int .i64 a1_762) (.fn rfl) ?_
    refine bindG h ?_
    rintro ⟨x_901, x_902⟩ he903 h
    refine SafeOps.quiet0 E_good rfl rfl rfl (v := V.tup [V.int .i64 x_901, V.int .i64 x_902]) (.callP rfl rfl (go_code_Tasks_sc a0_761 a1_762 _ he903) rfl) ?_
    refine SafeOps.quiet0 E_good rfl rfl rfl (v := V.tup [V.int .i64 x_901, V.int .i64 x_902]) (.fn rfl) ?_
    refine SafeOps.quiet0 E_good rfl rfl rfl (v := V.int .i64 x_901) (.fn rfl) ?_
    refine SafeOps.quiet0 E_good rfl rfl rfl (v := V.int .i64 x_902) (.fn rfl) ?_
    refine SafeOps.quiet0 E_good rfl rfl rfl (v := V.int .i64 x_901) (.fn rfl) ?_
    refine SafeOps.quiet0 E_good rfl rfl rfl (v := V.int .i64 x_902) (.fn rfl) ?_
    refine SafeOps.nil ?_
    repeat (first | refine Safe.seq ?_ | refine Safe.skip ?_ | with_reducible refine thenQ.n ?_ | with_reducible refine blockQ.n ?_)
    refine Safe.region ?_
    refine SafeOps.quiet0 E_good rfl rfl rfl (v := V.int .i64 x_902) (.fn rfl) ?_
    refine SafeOps.quiet0 E_good rfl rfl rfl (v := V.bool (x_902 == 1)) (.fn rfl) ?_
    refine SafeOps.nil ?_
    repeat (first | refine Safe.seq ?_ | refine Safe.skip ?_ | with_reducible refine thenQ.n ?_ | with_reducible refine blockQ.n ?_)
    refine ifG h (fun hc913 h => ?_) (fun hc913 h => ?_)
    · skip
      refine Safe.condK rfl hc913 ?_
      repeat (first | refine Safe.seq ?_ | refine Safe.skip ?_ | with_reducible refine thenQ.n ?_ | with_reducible refine blockQ.n ?_)
      refine Safe.region ?_
      refine SafeOps.quiet0 E_good rfl rfl rfl (v := V.bool x_896) (.fn rfl) ?_
      refine SafeOps.quiet0 E_good rfl rfl rfl (v := V.bool x_896) (.fn rfl) ?_
      refine ifG h (fun hc914 h => ?_) (fun hc914 h => ?_)
      · skip
        refine SafeOps.quiet0 E_good (congrArg some hc914) rfl rfl (v := V.sl 1 (rws (fun l => [V.sl 3 (rws api_Instr.cells l)]) a0_761)) (.fn rfl) ?_
        refine bindG h ?_
        intro x_919 he920 h
        refine SafeOps.quiet0 E_good (congrArg some hc914) rfl rfl (v := V.int .i64 x_919) (.callP rfl rfl (go_code_CheckAll_sc a0_761 _ he920) rfl) ?_
        refine SafeOps.quiet0 E_good (congrArg some hc914) rfl rfl (v := V.bool (x_919 != 0)) (.fn rfl) ?_
        refine SafeOps.quiet0 E_good (congrArg some hc914) rfl rfl (v := V.bool (x_919 != 0)) (.fn rfl) ?_
        refine SafeOps.bjoin 3 35 (b := ((x_919 != 0) || (decide (a1_762 < 0)))) (b1 := true) (b0 := decide (a1_762 < 0)) (fun hc921 K => ?_) (fun hc921 K => ?_) bj_or ?_
        · skip
          refine SafeOps.skip (congrArg (fun b => some (!b)) hc921) rfl rfl ?_
          refine SafeOps.skip (congrArg (fun b => some (!b)) hc921) rfl rfl ?_
          refine SafeOps.quiet0 E_good (congrArg some hc914) rfl rfl (v := V.bool true) (.pickK rfl hc921 rfl) ?_
          exact SafeOps.drop' 3 rfl rfl rfl K
        · skip
          refine SafeOps.quiet0 E_good (congrArg (fun b => some (!b)) hc921) rfl rfl (v := V.int .i64 a1_762) (.fn rfl) ?_
          refine SafeOps.quiet0 E_good (congrArg (fun b => some (!b)) hc921) rfl rfl (v := V.bool (decide (a1_762 < 0))) (.fn rfl) ?_
          refine SafeOps.quiet0 E_good (congrArg some hc914) rfl rfl (v := V.bool (decide (a1_762 < 0))) (.pickK rfl hc921 rfl) ?_
          exact SafeOps.drop' 3 rfl rfl rfl K
        refine SafeOps.quiet0 E_good (congrArg some hc914) rfl rfl (v := V.bool ((x_919 != 0) || (decide (a1_762 < 0)))) (.fn rfl) ?_
        refine SafeOps.bjoin 5 41 (b := (((x_919 != 0) || (decide (a1_762 < 0))) || (decide (a1_762 ≥ (a0_761.length : Int))))) (b1 := true) (b0 := decide (a1_762 ≥ (a0_761.length : Int))) (fun hc922 K => ?_) (fun hc922 K => ?_) bj_or ?_
        · skip
          refine SafeOps.skip (congrArg (fun b => some (!b)) hc922) rfl rfl ?_
          refine SafeOps.skip (congrArg (fun b => some (!b)) hc922) rfl rfl ?_
          refine SafeOps.skip (congrArg (fun b => some (!b)) hc922) rfl rfl ?_
          refine SafeOps.skip (congrArg (fun b => some (!b)) hc922) rfl rfl ?_
          refine SafeOps.quiet0 E_good (congrArg some hc914) rfl rfl (v := V.bool true) (.pickK rfl hc922 rfl) ?_
          exact SafeOps.drop' 5 rfl rfl rfl K
        · skip
          refine SafeOps.quiet0 E_good (congrArg (fun b => some (!b)) hc922) rfl rfl (v := V.int .i64 a1_762) (.fn rfl) ?_
          refine SafeOps.quiet0 E_good (congrArg (fun b => some (!b)) hc922) rfl rfl (v := V.sl 1 (rws (fun l => [V.sl 3 (rws api_Instr.cells l)]) a0_761)) (.fn rfl) ?_
          refine SafeOps.quiet0 E_good (congrArg (fun b => some (!b)) hc922) rfl rfl (v := V.int .i64 (a0_761.length : Int)) (.fnE rfl lenE) ?_
          refine SafeOps.quiet0 E_good (congrArg (fun b => some (!b)) hc922) rfl rfl (v := V.bool (decide (a1_762 ≥ (a0_761.length : Int)))) (.fn rfl) ?_
          refine SafeOps.quiet0 E_good (congrArg some hc914) rfl rfl (v := V.bool (decide (a1_762 ≥ (a0_761.length : Int)))) (.pickK rfl hc922 rfl) ?_
          exact SafeOps.drop' 5 rfl rfl rfl K
        refine SafeOps.quiet0 E_good rfl rfl rfl (v := V.bool (((x_919 != 0) || (decide (a1_762 < 0))) || (decide (a1_762 ≥ (a0_761.length : Int))))) (.pickK rfl hc914 rfl) ?_
        refine SafeOps.quiet0 E_good rfl rfl rfl (v := V.bool (((x_919 != 0) || (decide (a1_762 < 0))) || (decide (a1_762 ≥ (a0_761.length : Int))))) (.fn rfl) ?_
        refine SafeOps.nil ?_
        repeat (first | refine Safe.seq ?_ | refine Safe.skip ?_ | with_reducible refine thenQ.n ?_ | with_reducible refine blockQ.n ?_)
        refine Safe.ret ?_
        repeat (first | with_reducible refine thenQ.r ?_ | with_reducible refine blockQ.r ?_)
        obtain rfl := Option.some.inj h
        exact retQ.gen (vs := [V.bool (((x_919 != 0) || (decide (a1_762 < 0))) || (decide (a1_762 ≥ (a0_761.length : Int))))]) rfl (.tmp (v := V.bool (((x_919 != 0) || (decide (a1_762 < 0))) || (decide (a1_762 ≥ (a0_761.length : Int))))) rfl .nil) (.free rfl) (by simp) (.inr rfl)
      · skip
        refine SafeOps.skip (congrArg some hc914) rfl rfl ?_
        refine SafeOps.skip (congrArg some hc914) rfl rfl ?_
        refine SafeOps.skip (congrArg some hc914) rfl rfl ?_
        refine SafeOps.skip (congrArg some hc914) rfl rfl ?_
        refine SafeOps.skip rfl rfl rfl ?_
        refine SafeOps.skip rfl rfl rfl ?_
        refine SafeOps.skip (congrArg some hc914) rfl rfl ?_
        refine SafeOps.skip (congrArg some hc914) rfl rfl ?_
        refine SafeOps.skip rfl rfl rfl ?_
        refine SafeOps.skip rfl rfl rfl ?_
        refine SafeOps.skip rfl rfl rfl ?_
        refine SafeOps.skip rfl rfl rfl ?_
        refine SafeOps.skip (congrArg some hc914) rfl rfl ?_
        refine SafeOps.quiet0 E_good rfl rfl rfl (v := V.bool false) (.pickK rfl hc914 rfl) ?_
        refine SafeOps.quiet0 E_good rfl rfl rfl (v := V.bool false) (.fn rfl) ?_
        refine SafeOps.nil ?_
        repeat (first | refine Safe.seq ?_ | refine Safe.skip ?_ | with_reducible refine thenQ.n ?_ | with_reducible refine blockQ.n ?_)
        refine Safe.ret ?_
        repeat (first | with_reducible refine thenQ.r ?_ | with_reducible refine blockQ.r ?_)
        obtain rfl := Option.some.inj h
        exact retQ.gen (vs := [V.bool false]) rfl (.tmp (v := V.bool false) rfl .nil) (.free rfl) (by simp) (.inr rfl)
    · skip
      refine Safe.condN rfl hc913 ?_
      repeat (first | refine Safe.seq ?_ | refine Safe.skip ?_ | with_reducible refine thenQ.n ?_ | with_reducible refine blockQ.n ?_)
      refine Safe.region ?_
      refine SafeOps.quiet0 E_good rfl rfl rfl (v := V.int .i64 a1_762) (.fn rfl) ?_
      refine SafeOps.quiet0 E_good rfl rfl rfl (v := V.bool (decide (a1_762 < 0))) (.fn rfl) ?_
      refine SafeOps.quiet0 E_good rfl rfl rfl (v := V.bool (decide (a1_762 < 0))) (.fn rfl) ?_
      refine SafeOps.bjoin 5 50 (b := ((decide (a1_762 < 0)) || (decide (a1_762 ≥ (a0_761.length : Int))))) (b1 := true) (b0 := decide (a1_762 ≥ (a0_761.length : Int))) (fun hc923 K => ?_) (fun hc923 K => ?_) bj_or ?_
      · skip
        refine SafeOps.skip (congrArg (fun b => some (!b)) hc923) rfl rfl ?_
        refine SafeOps.skip (congrArg (fun b => some (!b)) hc923) rfl rfl ?_
        refine SafeOps.skip (congrArg (fun b => some (!b)) hc923) rfl rfl ?_
        refine SafeOps.skip (congrArg (fun b => some (!b)) hc923) rfl rfl ?_
        refine SafeOps.quiet0 E_good rfl rfl rfl (v := V.bool true) (.pickK rfl hc923 rfl) ?_
        exact SafeOps.drop' 5 rfl rfl rfl K
      · skip
        refine SafeOps.quiet0 E_good (congrArg (fun b => some (!b)) hc923) rfl rfl (v := V.int .i64 a1_762) (.fn rfl) ?_
        refine SafeOps.quiet0 E_good (congrArg (fun b => some (!b)) hc923) rfl rfl (v := V.sl 1 (rws (fun l => [V.sl 3 (rws api_Instr.cells l)]) a0_761)) (.fn rfl) ?_
        refine SafeOps.quiet0 E_good (congrArg (fun b => some (!b)) hc923) rfl rfl (v := V.int .i64 (a0_761.length : Int)) (.fnE rfl lenE) ?_
        refine SafeOps.quiet0 E_good (congrArg (fun b => some (!b)) hc923) rfl rfl (v := V.bool (decide (a1_762 ≥ (a0_761.length : Int)))) (.fn rfl) ?_
        refine SafeOps.quiet0 E_good rfl rfl rfl (v := V.bool (decide (a1_762 ≥ (a0_761.length : Int)))) (.pickK rfl hc923 rfl) ?_
        exact SafeOps.drop' 5 rfl rfl rfl K
      refine SafeOps.nil ?_
      repeat (first | refine Safe.seq ?_ | refine Safe.skip ?_ | with_reducible refine thenQ.n ?_ | with_reducible refine blockQ.n ?_)
      refine ifG h (fun hc924 h => ?_) (fun hc924 h => ?_)
      · skip
        refine Safe.condK rfl hc924 ?_
        repeat (first | refine Safe.seq ?_ | refine Safe.skip ?_ | with_reducible refine thenQ.n ?_ | with_reducible refine blockQ.n ?_)
        refine Safe.region ?_
        refine SafeOps.quiet0 E_good rfl rfl rfl (v := V.bool false) (.fn rfl) ?_
        refine SafeOps.nil ?_
        repeat (first | refine Safe.seq ?_ | refine Safe.skip ?_ | with_reducible refine thenQ.n ?_ | with_reducible refine blockQ.n ?_)
        refine Safe.ret ?_
        repeat (first | with_reducible refine thenQ.r ?_ | with_reducible refine blockQ.r ?_)
        obtain rfl := Option.some.inj h
        exact retQ.gen (vs := [V.bool false]) rfl (.tmp (v := V.bool false) rfl .nil) (.free rfl) (by simp) (.inr rfl)
      · skip
        refine Safe.condN rfl hc924 ?_
        repeat (first | refine Safe.seq ?_ | refine Safe.skip ?_ | with_reducible refine thenQ.n ?_ | with_reducible refine blockQ.n ?_)
        refine Safe.region ?_
        refine SafeOps.quiet0 E_good rfl rfl rfl (v := V.int .i64 1) (.fn rfl) ?_
        refine SafeOps.nil ?_
        repeat (first | refine Safe.seq ?_ | refine Safe.skip ?_ | with_reducible refine thenQ.n ?_ | with_reducible refine blockQ.n ?_)
        refine Safe.region ?_
        refine SafeOps.quiet0 E_good rfl rfl rfl (v := V.int .i64 0) (.fn rfl) ?_
        refine SafeOps.nil ?_
        repeat (first | refine Safe.seq ?_ | refine Safe.skip ?_ | with_reducible refine thenQ.n ?_ | with_reducible refine blockQ.n ?_)
        refine Safe.region ?_
        refine SafeOps.quiet0 E_good rfl rfl rfl (v := V.sl 1 (rws (fun l => [V.sl 3 (rws api_Instr.cells l)]) a0_761)) (.fn rfl) ?_
        refine SafeOps.quiet0 E_good rfl rfl rfl (v := V.int .i64 a1_762) (.fn rfl) ?_
        refine okG h (fun hb925 h => ?_)
        refine SafeOps.quiet0 E_good rfl rfl rfl (v := V.spt 1 (rws (fun l => [V.sl 3 (rws api_Instr.cells l)]) a0_761) (Int.toNat a1_762) 0) (.idxSlM (f := (fun l => [V.sl 3 (rws api_Instr.cells l)])) rfl rfl rfl rfl rfl hb925) ?_
        refine SafeOps.quiet0 E_good rfl rfl rfl (v := V.sl 3 (rws api_Instr.cells (gt a0_761 a1_762))) (.load rfl rfl (.sptM (f := (fun l => [V.sl 3 (rws api_Instr.cells l)])) hb925 rfl) rfl) ?_
        refine SafeOps.quiet0 E_good rfl rfl rfl (v := V.int .i64 ((gt a0_761 a1_762).length : Int)) (.fnE rfl lenE) ?_
        refine SafeOps.quiet0 E_good rfl rfl rfl (v := V.int .i64 0) (.fn rfl) ?_
        refine SafeOps.nil ?_
        repeat (first | refine Safe.seq ?_ | refine Safe.skip ?_ | with_reducible refine thenQ.n ?_ | with_reducible refine blockQ.n ?_)
        refine Safe.joinT (fun ((v8_963, v9_964) : Int × Int) => go_ravellaw04_CodeSums_j2 x_896 x_901 x_902 v8_963 v9_964 = some r) (fun ((v8_963, v9_964) : Int × Int) => ⟨Try.f3.ntmps, [(5, V.bool x_896), (6, V.int .i64 x_901), (7, V.int .i64 x_902), (8, V.int .i64 v8_963), (9, V.int .i64 v9_964)], [], [], []⟩) ?_ (fun HJ965 => ?_)
        · rintro ⟨v8_963, v9_964⟩ h
          replace h : go_ravellaw04_CodeSums_j2 x_896 x_901 x_902 v8_963 v9_964 = some r := h
          rw [go_ravellaw04_CodeSums_j2] at h
          repeat (first | refine Safe.seq ?_ | refine Safe.skip ?_ | with_reducible refine thenQ.n ?_ | with_reducible refine blockQ.n ?_)
          refine Safe.region ?_
          refine SafeOps.quiet0 E_good rfl rfl rfl (v := V.int .i64 v9_964) (.fn rfl) ?_
          refine SafeOps.quiet0 E_good rfl rfl rfl (v := V.bool (v9_964 == 0)) (.fn rfl) ?_
          refine SafeOps.quiet0 E_good rfl rfl rfl (v := V.bool (v9_964 == 0)) (.fn rfl) ?_
          refine SafeOps.bjoin 3 93 (b := ((v9_964 == 0) && (decide (v8_963 > 1099511627776)))) (b1 := decide (v8_963 > 1099511627776)) (b0 := false) (fun hc966 K => ?_) (fun hc966 K => ?_) bj_and ?_
          · skip
            refine SafeOps.quiet0 E_good (congrArg some hc966) rfl rfl (v := V.int .i64 v8_963) (.fn rfl) ?_
            refine SafeOps.quiet0 E_good (congrArg some hc966) rfl rfl (v := V.bool (decide (v8_963 > 1099511627776))) (.fn rfl) ?_
            refine SafeOps.quiet0 E_good rfl rfl rfl (v := V.bool (decide (v8_963 > 1099511627776))) (.pickK rfl hc966 rfl) ?_
            exact SafeOps.drop' 3 rfl rfl rfl K
          · skip
            refine SafeOps.skip (congrArg some hc966) rfl rfl ?_
            refine SafeOps.skip (congrArg some hc966) rfl rfl ?_
            refine SafeOps.quiet0 E_good rfl rfl rfl (v := V.bool false) (.pickK rfl hc966 rfl) ?_
            exact SafeOps.drop' 3 rfl rfl rfl K
          refine SafeOps.nil ?_
          repeat (first | refine Safe.seq ?_ | refine Safe.skip ?_ | with_reducible refine thenQ.n ?_ | with_reducible refine blockQ.n ?_)
          refine Safe.joinT (fun (v9_967 : Int) => go_ravellaw04_CodeSums_j3 x_896 x_901 x_902 v8_963 v9_967 = some r) (fun (v9_967 : Int) => ⟨Try.f3.ntmps, [(5, V.bool x_896), (6, V.int .i64 x_901), (7, V.int .i64 x_902), (8, V.int .i64 v8_963), (9, V.int .i64 v9_967)], [], [], []⟩) ?_ (fun HJ968 => ?_)
          · intro v9_967 h
            replace h : go_ravellaw04_CodeSums_j3 x_896 x_901 x_902 v8_963 v9_967 = some r := h
            rw [go_ravellaw04_CodeSums_j3] at h
            repeat (first | refine Safe.seq ?_ | refine Safe.skip ?_ | with_reducible refine thenQ.n ?_ | with_reducible refine blockQ.n ?_)
            refine Safe.region ?_
            refine SafeOps.quiet0 E_good rfl rfl rfl (v := V.int .i64 x_902) (.fn rfl) ?_
            refine SafeOps.quiet0 E_good rfl rfl rfl (v := V.bool (x_902 != 0)) (.fn rfl) ?_
            refine SafeOps.nil ?_
            repeat (first | refine Safe.seq ?_ | refine Safe.skip ?_ | with_reducible refine thenQ.n ?_ | with_reducible refine blockQ.n ?_)
            refine ifG h (fun hc972 h => ?_) (fun hc972 h => ?_)
            · skip
              refine Safe.condK rfl hc972 ?_
              repeat (first | refine Safe.seq ?_ | refine Safe.skip ?_ | with_reducible refine thenQ.n ?_ | with_reducible refine blockQ.n ?_)
              refine Safe.region ?_
              refine SafeOps.quiet0 E_good rfl rfl rfl (v := V.bool x_896) (.fn rfl) ?_
              refine SafeOps.quiet0 E_good rfl rfl rfl (v := V.bool x_896) (.fn rfl) ?_
              refine SafeOps.bjoin 3 100 (b := (x_896 && (x_901 == 0))) (b1 := (x_901 == 0)) (b0 := false) (fun hc973 K => ?_) (fun hc973 K => ?_) bj_and ?_
              · skip
                refine SafeOps.quiet0 E_good (congrArg some hc973) rfl rfl (v := V.int .i64 x_901) (.fn rfl) ?_
                refine SafeOps.quiet0 E_good (congrArg some hc973) rfl rfl (v := V.bool (x_901 == 0)) (.fn rfl) ?_
                refine SafeOps.quiet0 E_good rfl rfl rfl (v := V.bool (x_901 == 0)) (.pickK rfl hc973 rfl) ?_
                exact SafeOps.drop' 3 rfl rfl rfl K
              · skip
                refine SafeOps.skip (congrArg some hc973) rfl rfl ?_
                refine SafeOps.skip (congrArg some hc973) rfl rfl ?_
                refine SafeOps.quiet0 E_good rfl rfl rfl (v := V.bool false) (.pickK rfl hc973 rfl) ?_
                exact SafeOps.drop' 3 rfl rfl rfl K
              refine SafeOps.quiet0 E_good rfl rfl rfl (v := V.bool (x_896 && (x_901 == 0))) (.fn rfl) ?_
              refine SafeOps.bjoin 8 109 (b := ((x_896 && (x_901 == 0)) && ((x_902 == v9_967) || (x_902 == 9)))) (b1 := ((x_902 == v9_967) || (x_902 == 9))) (b0 := false) (fun hc974 K => ?_) (fun hc974 K => ?_) bj_and ?_
              · skip
                refine SafeOps.quiet0 E_good (congrArg some hc974) rfl rfl (v := V.int .i64 x_902) (.fn rfl) ?_
                refine SafeOps.quiet0 E_good (congrArg some hc974) rfl rfl (v := V.int .i64 v9_967) (.fn rfl) ?_
                refine SafeOps.quiet0 E_good (congrArg some hc974) rfl rfl (v := V.bool (x_902 == v9_967)) (.fn rfl) ?_
                refine SafeOps.quiet0 E_good (congrArg some hc974) rfl rfl (v := V.bool (x_902 == v9_967)) (.fn rfl) ?_
                refine SafeOps.bjoin 3 108 (b := ((x_902 == v9_967) || (x_902 == 9))) (b1 := true) (b0 := (x_902 == 9)) (fun hc975 K => ?_) (fun hc975 K => ?_) bj_or ?_
                · skip
                  refine SafeOps.skip (congrArg (fun b => some (!b)) hc975) rfl rfl ?_
                  refine SafeOps.skip (congrArg (fun b => some (!b)) hc975) rfl rfl ?_
                  refine SafeOps.quiet0 E_good (congrArg some hc974) rfl rfl (v := V.bool true) (.pickK rfl hc975 rfl) ?_
                  exact SafeOps.drop' 3 rfl rfl rfl K
                · skip
                  refine SafeOps.quiet0 E_good (congrArg (fun b => some (!b)) hc975) rfl rfl (v := V.int .i64 x_902) (.fn rfl) ?_
                  refine SafeOps.quiet0 E_good (congrArg (fun b => some (!b)) hc975) rfl rfl (v := V.bool (x_902 == 9)) (.fn rfl) ?_
                  refine SafeOps.quiet0 E_good (congrArg some hc974) rfl rfl (v := V.bool (x_902 == 9)) (.pickK rfl hc975 rfl) ?_
                  exact SafeOps.drop' 3 rfl rfl rfl K
                refine SafeOps.quiet0 E_good rfl rfl rfl (v := V.bool ((x_902 == v9_967) || (x_902 == 9))) (.pickK rfl hc974 rfl) ?_
                exact SafeOps.drop' 6 rfl rfl rfl K
              · skip
                refine SafeOps.skip (congrArg some hc974) rfl rfl ?_
                refine SafeOps.skip (congrArg some hc974) rfl rfl ?_
                refine SafeOps.skip (congrArg some hc974) rfl rfl ?_
                refine SafeOps.skip (congrArg some hc974) rfl rfl ?_
                refine SafeOps.skip rfl rfl rfl ?_
                refine SafeOps.skip rfl rfl rfl ?_
                refine SafeOps.skip (congrArg some hc974) rfl rfl ?_
                refine SafeOps.quiet0 E_good rfl rfl rfl (v := V.bool false) (.pickK rfl hc974 rfl) ?_
                exact SafeOps.drop' 8 rfl rfl rfl K
              refine SafeOps.quiet0 E_good rfl rfl rfl (v := V.bool ((x_896 && (x_901 == 0)) && ((x_902 == v9_967) || (x_902 == 9)))) (.fn rfl) ?_
              refine SafeOps.nil ?_
              repeat (first | refine Safe.seq ?_ | refine Safe.skip ?_ | with_reducible refine thenQ.n ?_ | with_reducible refine blockQ.n ?_)
              refine Safe.ret ?_
              repeat (first | with_reducible refine thenQ.r ?_ | with_reducible refine blockQ.r ?_)
              obtain rfl := Option.some.inj h
              exact retQ.gen (vs := [V.bool ((x_896 && (x_901 == 0)) && ((x_902 == v9_967) || (x_902 == 9)))]) rfl (.tmp (v := V.bool ((x_896 && (x_901 == 0)) && ((x_902 == v9_967) || (x_902 == 9)))) rfl .nil) (.free rfl) (by simp) (.inr rfl)
            · skip
              refine Safe.condN rfl hc972 ?_
              repeat (first | refine Safe.seq ?_ | refine Safe.skip ?_ | with_reducible refine thenQ.n ?_ | with_reducible refine blockQ.n ?_)
              refine Safe.region ?_
              refine SafeOps.quiet0 E_good rfl rfl rfl (v := V.bool x_896) (.fn rfl) ?_
              refine SafeOps.quiet0 E_good rfl rfl rfl (v := V.bool x_896) (.fn rfl) ?_
              refine SafeOps.bjoin 3 114 (b := (x_896 && (v9_967 == 0))) (b1 := (v9_967 == 0)) (b0 := false) (fun hc976 K => ?_) (fun hc976 K => ?_) bj_and ?_
              · skip
                refine SafeOps.quiet0 E_good (congrArg some hc976) rfl rfl (v := V.int .i64 v9_967) (.fn rfl) ?_
                refine SafeOps.quiet0 E_good (congrArg some hc976) rfl rfl (v := V.bool (v9_967 == 0)) (.fn rfl) ?_
                refine SafeOps.quiet0 E_good rfl rfl rfl (v := V.bool (v9_967 == 0)) (.pickK rfl hc976 rfl) ?_
                exact SafeOps.drop' 3 rfl rfl rfl K
              · skip
                refine SafeOps.skip (congrArg some hc976) rfl rfl ?_
                refine SafeOps.skip (congrArg some hc976) rfl rfl ?_
                refine SafeOps.quiet0 E_good rfl rfl rfl (v := V.bool false) (.pickK rfl hc976 rfl) ?_
                exact SafeOps.drop' 3 rfl rfl rfl K
              refine SafeOps.quiet0 E_good rfl rfl rfl (v := V.bool (x_896 && (v9_967 == 0))) (.fn rfl) ?_
              refine SafeOps.bjoin 4 119 (b := ((x_896 && (v9_967 == 0)) && (x_901 == v8_963))) (b1 := (x_901 == v8_963)) (b0 := false) (fun hc977 K => ?_) (fun hc977 K => ?_) bj_and ?_
              · skip
                refine SafeOps.quiet0 E_good (congrArg some hc977) rfl rfl (v := V.int .i64 x_901) (.fn rfl) ?_
                refine SafeOps.quiet0 E_good (congrArg some hc977) rfl rfl (v := V.int .i64 v8_963) (.fn rfl) ?_
                refine SafeOps.quiet0 E_good (congrArg some hc977) rfl rfl (v := V.bool (x_901 == v8_963)) (.fn rfl) ?_
                refine SafeOps.quiet0 E_good rfl rfl rfl (v := V.bool (x_901 == v8_963)) (.pickK rfl hc977 rfl) ?_
                exact SafeOps.drop' 4 rfl rfl rfl K
              · skip
                refine SafeOps.skip (congrArg some hc977) rfl rfl ?_
                refine SafeOps.skip (congrArg some hc977) rfl rfl ?_
                refine SafeOps.skip (congrArg some hc977) rfl rfl ?_
                refine SafeOps.quiet0 E_good rfl rfl rfl (v := V.bool false) (.pickK rfl hc977 rfl) ?_
                exact SafeOps.drop' 4 rfl rfl rfl K
              refine SafeOps.quiet0 E_good rfl rfl rfl (v := V.bool ((x_896 && (v9_967 == 0)) && (x_901 == v8_963))) (.fn rfl) ?_
              refine SafeOps.bjoin 3 123 (b := (((x_896 && (v9_967 == 0)) && (x_901 == v8_963)) && (decide (x_901 ≥ 1)))) (b1 := decide (x_901 ≥ 1)) (b0 := false) (fun hc978 K => ?_) (fun hc978 K => ?_) bj_and ?_
              · skip
                refine SafeOps.quiet0 E_good (congrArg some hc978) rfl rfl (v := V.int .i64 x_901) (.fn rfl) ?_
                refine SafeOps.quiet0 E_good (congrArg some hc978) rfl rfl (v := V.bool (decide (x_901 ≥ 1))) (.fn rfl) ?_
                refine SafeOps.quiet0 E_good rfl rfl rfl (v := V.bool (decide (x_901 ≥ 1))) (.pickK rfl hc978 rfl) ?_
                exact SafeOps.drop' 3 rfl rfl rfl K
              · skip
                refine SafeOps.skip (congrArg some hc978) rfl rfl ?_
                refine SafeOps.skip (congrArg some hc978) rfl rfl ?_
                refine SafeOps.quiet0 E_good rfl rfl rfl (v := V.bool false) (.pickK rfl hc978 rfl) ?_
                exact SafeOps.drop' 3 rfl rfl rfl K
              refine SafeOps.quiet0 E_good rfl rfl rfl (v := V.bool (((x_896 && (v9_967 == 0)) && (x_901 == v8_963)) && (decide (x_901 ≥ 1)))) (.fn rfl) ?_
              refine SafeOps.nil ?_
              repeat (first | refine Safe.seq ?_ | refine Safe.skip ?_ | with_reducible refine thenQ.n ?_ | with_reducible refine blockQ.n ?_)
              refine Safe.ret ?_
              repeat (first | with_reducible refine thenQ.r ?_ | with_reducible refine blockQ.r ?_)
              obtain rfl := Option.some.inj h
              exact retQ.gen (vs := [V.bool (((x_896 && (v9_967 == 0)) && (x_901 == v8_963)) && (decide (x_901 ≥ 1)))]) rfl (.tmp (v := V.bool (((x_896 && (v9_967 == 0)) && (x_901 == v8_963)) && (decide (x_901 ≥ 1)))) rfl .nil) (.free rfl) (by simp) (.inr rfl)
          · skip
            refine ifG h (fun hc979 h => ?_) (fun hc979 h => ?_)
            · skip
              refine Safe.condK rfl hc979 ?_
              repeat (first | refine Safe.seq ?_ | refine Safe.skip ?_ | with_reducible refine thenQ.n ?_ | with_reducible refine blockQ.n ?_)
              refine Safe.region ?_
              refine SafeOps.quiet0 E_good rfl rfl rfl (v := V.int .i64 4) (.fn rfl) ?_
              refine SafeOps.nil ?_
              repeat (first | refine Safe.skip ?_ | with_reducible refine thenQ.n ?_ | with_reducible refine blockQ.n ?_)
              exact Safe.got (HJ968 (4) h) (.cov ⟨rfl, rfl, (upT_cons (.refl _) (upT_cons (.refl _) (upT_cons (.refl _) (upT_cons (.refl _) (upT_cons (.refl _) upT_nil))))), upOb_nil, upOut_nil, rfl⟩)
            · skip
              refine Safe.condN rfl hc979 ?_
              repeat (first | refine Safe.skip ?_ | with_reducible refine thenQ.n ?_ | with_reducible refine blockQ.n ?_)
              exact Safe.got (HJ968 (v9_964) h) (.cov ⟨rfl, rfl, (upT_cons (.refl _) (upT_cons (.refl _) (upT_cons (.refl _) (upT_cons (.refl _) (upT_cons (.refl _) upT_nil))))), upOb_nil, upOut_nil, rfl⟩)
        · skip
          refine Safe.block ?_
          repeat (first | refine Safe.seq ?_ | refine Safe.skip ?_ | with_reducible refine thenQ.n ?_ | with_reducible refine blockQ.n ?_)
          refine Safe.loopW (fun ((v8_1003, v9_1004, v56_1005) : Int × Int × Int) => ⟨Try.f3.ntmps, [(0, V.sl 1 (rws (fun l => [V.sl 3 (rws api_Instr.cells l)]) a0_761)), (5, V.bool x_896), (6, V.int .i64 x_901), (7, V.int .i64 x_902), (8, V.int .i64 v8_1003), (9, V.int .i64 v9_1004), (54, V.sl 3 (rws api_Instr.cells (gt a0_761 a1_762))), (55, V.int .i64 ((gt a0_761 a1_762).length : Int)), (56, V.int .i64 v56_1005)], [], [], []⟩) h (.cov ⟨rfl, rfl, (upT_cons (.refl _) (upT_cons (.refl _) (upT_cons (.refl _) (upT_cons (.refl _) (upT_cons (.refl _) (upT_cons (.refl _) (upT_cons (.refl _) (upT_cons (.refl _) (upT_cons (.refl _) upT_nil))))))))), upOb_nil, upOut_nil, rfl⟩) ?_
          rintro ⟨v8_1003, v9_1004, v56_1005⟩ ohr1006 h hr1006
          replace h : go_ravellaw04_CodeSums_s4 a0_761 a1_762 x_896 x_901 x_902 (v8_1003, v9_1004, v56_1005) = some ohr1006 := h
          rw [go_ravellaw04_CodeSums_s4] at h
          repeat (first | refine Safe.seq ?_ | refine Safe.skip ?_ | with_reducible refine thenQ.n ?_ | with_reducible refine blockQ.n ?_)
          refine Safe.region ?_
          refine SafeOps.quiet0 E_good rfl rfl rfl (v := V.bool (decide (v56_1005 < ((gt a0_761 a1_762).length : Int)))) (.fn rfl) ?_
          refine SafeOps.nil ?_
          repeat (first | refine Safe.seq ?_ | refine Safe.skip ?_ | with_reducible refine thenQ.n ?_ | with_reducible refine blockQ.n ?_)
          refine ifG h (fun hc1007 h => ?_) (fun hc1007 h => ?_)
          · skip
            refine Safe.condK rfl hc1007 ?_
            repeat (first | refine Safe.seq ?_ | refine Safe.skip ?_ | with_reducible refine thenQ.n ?_ | with_reducible refine blockQ.n ?_)
            refine Safe.block ?_
            repeat (first | refine Safe.seq ?_ | refine Safe.skip ?_ | with_reducible refine thenQ.n ?_ | with_reducible refine blockQ.n ?_)
            refine Safe.region ?_
            refine okG h (fun hb1008 h => ?_)
            refine SafeOps.quiet0 E_good rfl rfl rfl (v := V.spt 3 (rws api_Instr.cells (gt a0_761 a1_762)) (Int.toNat v56_1005) 0) (.idxSlM (f := api_Instr.cells) rfl rfl rfl rfl rfl hb1008) ?_
            refine SafeOps.quiet0 E_good rfl rfl rfl (v := V.agg [V.int .i64 ((gt (gt a0_761 a1_762) v56_1005).Op), V.int .i64 ((gt (gt a0_761 a1_762) v56_1005).A), V.int .i64 ((gt (gt a0_761 a1_762) v56_1005).B)]) (.load rfl rfl (.sptM (f := api_Instr.cells) hb1008 rfl) rfl) ?_
            refine SafeOps.quiet1 E_good rfl rfl rfl (.alloc rfl rfl) rfl ?_
            refine SafeOps.store (z := Obj.box [V.int .i64 ((gt (gt a0_761 a1_762) v56_1005).Op), V.int .i64 ((gt (gt a0_761 a1_762) v56_1005).A), V.int .i64 ((gt (gt a0_761 a1_762) v56_1005).B)]) E_good rfl rfl rfl rfl rfl rfl rfl (.boxM (c := 3) rfl rfl (Nat.le_of_ble_eq_true rfl) rfl) ?_
            refine SafeOps.nil ?_
            repeat (first | refine Safe.seq ?_ | refine Safe.skip ?_ | with_reducible refine thenQ.n ?_ | with_reducible refine blockQ.n ?_)
            refine Safe.region ?_
            refine SafeOps.quiet0 E_good rfl rfl rfl (v := V.ptr [11] 0 0) (.fn rfl) ?_
            refine SafeOps.quiet0 E_good rfl rfl rfl (v := V.int .i64 ((gt (gt a0_761 a1_762) v56_1005).Op)) (.load rfl rfl (.box rfl rfl) rfl) ?_
            refine SafeOps.quiet0 E_good rfl rfl rfl (v := V.bool (((gt (gt a0_761 a1_762) v56_1005).Op) == 9)) (.fn rfl) ?_
            refine SafeOps.nil ?_
            repeat (first | refine Safe.seq ?_ | refine Safe.skip ?_ | with_reducible refine thenQ.n ?_ | with_reducible refine blockQ.n ?_)
            refine ifG h (fun hc1009 h => ?_) (fun hc1009 h => ?_)
            · skip
              refine Safe.condK rfl hc1009 ?_
              repeat (first | refine Safe.seq ?_ | refine Safe.skip ?_ | with_reducible refine thenQ.n ?_ | with_reducible refine blockQ.n ?_)
              refine Safe.exit ?_
              repeat (first | with_reducible refine thenQ.e ?_ | with_reducible refine blockQ.x rfl ?_ | with_reducible refine blockQ.y rfl ?_)
              replace h := inr_out h hr1006
              repeat (first | refine Safe.skip ?_ | with_reducible refine thenQ.n ?_ | with_reducible refine blockQ.n ?_)
              exact Safe.got (HJ965 (v8_1003, v9_1004) h) (.cov ⟨rfl, rfl, (upT_cons (.refl _) (upT_cons (.refl _) (upT_cons (.refl _) (upT_cons (.refl _) (upT_cons (.refl _) upT_nil))))), upOb_nil, upOut_nil, rfl⟩)
            · skip
              refine Safe.condN rfl hc1009 ?_
              repeat (first | refine Safe.seq ?_ | refine Safe.skip ?_ | with_reducible refine thenQ.n ?_ | with_reducible refine blockQ.n ?_)
              refine Safe.region ?_
              refine SafeOps.quiet0 E_good rfl rfl rfl (v := V.ptr [11] 0 0) (.fn rfl) ?_
              refine SafeOps.quiet0 E_good rfl rfl rfl (v := V.int .i64 ((gt (gt a0_761 a1_762) v56_1005).Op)) (.load rfl rfl (.box rfl rfl) rfl) ?_
              refine SafeOps.quiet0 E_good rfl rfl rfl (v := V.bool (((gt (gt a0_761 a1_762) v56_1005).Op) != 2)) (.fn rfl) ?_
              refine SafeOps.nil ?_
              repeat (first | refine Safe.seq ?_ | refine Safe.skip ?_ | with_reducible refine thenQ.n ?_ | with_reducible refine blockQ.n ?_)
              refine ifG h (fun hc1010 h => ?_) (fun hc1010 h => ?_)
              · skip
                refine Safe.condK rfl hc1010 ?_
                repeat (first | refine Safe.seq ?_ | refine Safe.skip ?_ | with_reducible refine thenQ.n ?_ | with_reducible refine blockQ.n ?_)
                refine Safe.exit ?_
                repeat (first | with_reducible refine thenQ.e ?_ | with_reducible refine blockQ.x rfl ?_ | with_reducible refine blockQ.y rfl ?_)
                repeat (first | refine Safe.seq ?_ | refine Safe.skip ?_ | with_reducible refine thenQ.n ?_ | with_reducible refine blockQ.n ?_)
                refine Safe.region ?_
                refine SafeOps.quiet0 E_good rfl rfl rfl (v := V.int .i64 (IntKind.i64.wrap (v56_1005 + 1))) (.fn rfl) ?_
                refine SafeOps.quiet0 E_good rfl rfl rfl (v := V.int .i64 (IntKind.i64.wrap (v56_1005 + 1))) (.fn rfl) ?_
                refine SafeOps.nil ?_
                repeat (first | refine Safe.seq ?_ | refine Safe.skip ?_ | with_reducible refine thenQ.n ?_ | with_reducible refine blockQ.n ?_)
                exact ⟨_, next_out h, (.cov ⟨rfl, rfl, (upT_cons (.refl _) (upT_cons (.refl _) (upT_cons (.refl _) (upT_cons (.refl _) (upT_cons (.refl _) (upT_cons (.refl _) (upT_cons (.refl _) (upT_cons (.refl _) (upT_cons (.refl _) upT_nil))))))))), upOb_nil, upOut_nil, rfl⟩)⟩
              · skip
                refine Safe.condN rfl hc1010 ?_
                repeat (first | refine Safe.seq ?_ | refine Safe.skip ?_ | with_reducible refine thenQ.n ?_ | with_reducible refine blockQ.n ?_)
                refine Safe.region ?_
                refine SafeOps.quiet0 E_good rfl rfl rfl (v := V.sl 1 (rws (fun l => [V.sl 3 (rws api_Instr.cells l)]) a0_761)) (.fn rfl) ?_
                refine SafeOps.quiet0 E_good rfl rfl rfl (v := V.ptr [11] 0 1) (.fn rfl) ?_
                refine SafeOps.quiet0 E_good rfl rfl rfl (v := V.int .i64 ((gt (gt a0_761 a1_762) v56_1005).A)) (.load rfl rfl (.box rfl rfl) rfl) ?_
                refine bindG h ?_
                rintro ⟨x_1011, x_1012⟩ he1013 h
                refine SafeOps.quiet0 E_good rfl rfl rfl (v := V.tup [V.int .i64 x_1011, V.int .i64 x_1012]) (.callP rfl rfl (go_code_Tasks_sc a0_761 ((gt (gt a0_761 a1_762) v56_1005).A) _ he1013) rfl) ?_
                refine SafeOps.quiet0 E_good rfl rfl rfl (v := V.tup [V.int .i64 x_1011, V.int .i64 x_1012]) (.fn rfl) ?_
                refine SafeOps.quiet0 E_good rfl rfl rfl (v := V.int .i64 x_1011) (.fn rfl) ?_
                refine SafeOps.quiet0 E_good rfl rfl rfl (v := V.int .i64 x_1012) (.fn rfl) ?_
                refine SafeOps.quiet0 E_good rfl rfl rfl (v := V.int .i64 x_1011) (.fn rfl) ?_
                refine SafeOps.quiet0 E_good rfl rfl rfl (v := V.int .i64 x_1012) (.fn rfl) ?_
                refine SafeOps.nil ?_
                repeat (first | refine Safe.seq ?_ | refine Safe.skip ?_ | with_reducible refine thenQ.n ?_ | with_reducible refine blockQ.n ?_)
                refine Safe.region ?_
                refine SafeOps.quiet0 E_good rfl rfl rfl (v := V.int .i64 x_1012) (.fn rfl) ?_
                refine SafeOps.quiet0 E_good rfl rfl rfl (v := V.bool (x_1012 == 9)) (.fn rfl) ?_
                refine SafeOps.quiet0 E_good rfl rfl rfl (v := V.bool (x_1012 == 9)) (.fn rfl) ?_
                refine SafeOps.bjoin 7 82 (b := ((x_1012 == 9) || ((x_1012 == 4) && (v9_1004 == 0)))) (b1 := true) (b0 := ((x_1012 == 4) && (v9_1004 == 0))) (fun hc1014 K => ?_) (fun hc1014 K => ?_) bj_or ?_
                · skip
                  refine SafeOps.skip (congrArg (fun b => some (!b)) hc1014) rfl rfl ?_
                  refine SafeOps.skip (congrArg (fun b => some (!b)) hc1014) rfl rfl ?_
                  refine SafeOps.skip (congrArg (fun b => some (!b)) hc1014) rfl rfl ?_
                  refine SafeOps.skip rfl rfl rfl ?_
                  refine SafeOps.skip rfl rfl rfl ?_
                  refine SafeOps.skip (congrArg (fun b => some (!b)) hc1014) rfl rfl ?_
                  refine SafeOps.quiet0 E_good rfl rfl rfl (v := V.bool true) (.pickK rfl hc1014 rfl) ?_
                  exact SafeOps.drop' 7 rfl rfl rfl K
                · skip
                  refine SafeOps.quiet0 E_good (congrArg (fun b => some (!b)) hc1014) rfl rfl (v := V.int .i64 x_1012) (.fn rfl) ?_
                  refine SafeOps.quiet0 E_good (congrArg (fun b => some (!b)) hc1014) rfl rfl (v := V.bool (x_1012 == 4)) (.fn rfl) ?_
                  refine SafeOps.quiet0 E_good (congrArg (fun b => some (!b)) hc1014) rfl rfl (v := V.bool (x_1012 == 4)) (.fn rfl) ?_
                  refine SafeOps.bjoin 3 81 (b := ((x_1012 == 4) && (v9_1004 == 0))) (b1 := (v9_1004 == 0)) (b0 := false) (fun hc1015 K => ?_) (fun hc1015 K => ?_) bj_and ?_
                  · skip
                    refine SafeOps.quiet0 E_good (congrArg some hc1015) rfl rfl (v := V.int .i64 v9_1004) (.fn rfl) ?_
                    refine SafeOps.quiet0 E_good (congrArg some hc1015) rfl rfl (v := V.bool (v9_1004 == 0)) (.fn rfl) ?_
                    refine SafeOps.quiet0 E_good (congrArg (fun b => some (!b)) hc1014) rfl rfl (v := V.bool (v9_1004 == 0)) (.pickK rfl hc1015 rfl) ?_
                    exact SafeOps.drop' 3 rfl rfl rfl K
                  · skip
                    refine SafeOps.skip (congrArg some hc1015) rfl rfl ?_
                    refine SafeOps.skip (congrArg some hc1015) rfl rfl ?_
                    refine SafeOps.quiet0 E_good (congrArg (fun b => some (!b)) hc1014) rfl rfl (v := V.bool false) (.pickK rfl hc1015 rfl) ?_
                    exact SafeOps.drop' 3 rfl rfl rfl K
                  refine SafeOps.quiet0 E_good rfl rfl rfl (v := V.bool ((x_1012 == 4) && (v9_1004 == 0))) (.pickK rfl hc1014 rfl) ?_
                  exact SafeOps.drop' 5 rfl rfl rfl K
                refine SafeOps.nil ?_
                repeat (first | refine Safe.seq ?_ | refine Safe.skip ?_ | with_reducible refine thenQ.n ?_ | with_reducible refine blockQ.n ?_)
                refine ifG h (fun hc1016 h => ?_) (fun hc1016 h => ?_)
                · skip
                  refine Safe.condK rfl hc1016 ?_
                  repeat (first | refine Safe.seq ?_ | refine Safe.skip ?_ | with_reducible refine thenQ.n ?_ | with_reducible refine blockQ.n ?_)
                  refine Safe.region ?_
                  refine SafeOps.quiet0 E_good rfl rfl rfl (v := V.int .i64 x_1012) (.fn rfl) ?_
                  refine SafeOps.quiet0 E_good rfl rfl rfl (v := V.int .i64 x_1012) (.fn rfl) ?_
                  refine SafeOps.nil ?_
                  repeat (first | refine Safe.seq ?_ | refine Safe.skip ?_ | with_reducible refine thenQ.n ?_ | with_reducible refine blockQ.n ?_)
                  refine Safe.region ?_
                  refine SafeOps.quiet0 E_good rfl rfl rfl (v := V.int .i64 v8_1003) (.fn rfl) ?_
                  refine SafeOps.quiet0 E_good rfl rfl rfl (v := V.int .i64 x_1011) (.fn rfl) ?_
                  refine SafeOps.quiet0 E_good rfl rfl rfl (v := V.int .i64 (IntKind.i64.wrap (v8_1003 + x_1011))) (.fn rfl) ?_
                  refine SafeOps.quiet0 E_good rfl rfl rfl (v := V.int .i64 (IntKind.i64.wrap (v8_1003 + x_1011))) (.fn rfl) ?_
                  refine SafeOps.nil ?_
                  repeat (first | refine Safe.seq ?_ | refine Safe.skip ?_ | with_reducible refine thenQ.n ?_ | with_reducible refine blockQ.n ?_)
                  refine Safe.region ?_
                  refine SafeOps.quiet0 E_good rfl rfl rfl (v := V.int .i64 (IntKind.i64.wrap (v56_1005 + 1))) (.fn rfl) ?_
                  refine SafeOps.quiet0 E_good rfl rfl rfl (v := V.int .i64 (IntKind.i64.wrap (v56_1005 + 1))) (.fn rfl) ?_
                  refine SafeOps.nil ?_
                  repeat (first | refine Safe.seq ?_ | refine Safe.skip ?_ | with_reducible refine thenQ.n ?_ | with_reducible refine blockQ.n ?_)
                  exact ⟨_, next_out h, (.cov ⟨rfl, rfl, (upT_cons (.refl _) (upT_cons (.refl _) (upT_cons (.refl _) (upT_cons (.refl _) (upT_cons (.refl _) (upT_cons (.refl _) (upT_cons (.refl _) (upT_cons (.refl _) (upT_cons (.refl _) upT_nil))))))))), upOb_nil, upOut_nil, rfl⟩)⟩
                · skip
                  refine Safe.condN rfl hc1016 ?_
                  repeat (first | refine Safe.seq ?_ | refine Safe.skip ?_ | with_reducible refine thenQ.n ?_ | with_reducible refine blockQ.n ?_)
                  refine Safe.region ?_
                  refine SafeOps.quiet0 E_good rfl rfl rfl (v := V.int .i64 v8_1003) (.fn rfl) ?_
                  refine SafeOps.quiet0 E_good rfl rfl rfl (v := V.int .i64 x_1011) (.fn rfl) ?_
                  refine SafeOps.quiet0 E_good rfl rfl rfl (v := V.int .i64 (IntKind.i64.wrap (v8_1003 + x_1011))) (.fn rfl) ?_
                  refine SafeOps.quiet0 E_good rfl rfl rfl (v := V.int .i64 (IntKind.i64.wrap (v8_1003 + x_1011))) (.fn rfl) ?_
                  refine SafeOps.nil ?_
                  repeat (first | refine Safe.seq ?_ | refine Safe.skip ?_ | with_reducible refine thenQ.n ?_ | with_reducible refine blockQ.n ?_)
                  refine Safe.region ?_
                  refine SafeOps.quiet0 E_good rfl rfl rfl (v := V.int .i64 (IntKind.i64.wrap (v56_1005 + 1))) (.fn rfl) ?_
                  refine SafeOps.quiet0 E_good rfl rfl rfl (v := V.int .i64 (IntKind.i64.wrap (v56_1005 + 1))) (.fn rfl) ?_
                  refine SafeOps.nil ?_
                  repeat (first | refine Safe.seq ?_ | refine Safe.skip ?_ | with_reducible refine thenQ.n ?_ | with_reducible refine blockQ.n ?_)
                  exact ⟨_, next_out h, (.cov ⟨rfl, rfl, (upT_cons (.refl _) (upT_cons (.refl _) (upT_cons (.refl _) (upT_cons (.refl _) (upT_cons (.refl _) (upT_cons (.refl _) (upT_cons (.refl _) (upT_cons (.refl _) (upT_cons (.refl _) upT_nil))))))))), upOb_nil, upOut_nil, rfl⟩)⟩
          · skip
            refine Safe.condN rfl hc1007 ?_
            repeat (first | refine Safe.seq ?_ | refine Safe.skip ?_ | with_reducible refine thenQ.n ?_ | with_reducible refine blockQ.n ?_)
            refine Safe.exit ?_
            repeat (first | with_reducible refine thenQ.e ?_ | with_reducible refine blockQ.x rfl ?_ | with_reducible refine blockQ.y rfl ?_)
            replace h := inr_out h hr1006
            repeat (first | refine Safe.skip ?_ | with_reducible refine thenQ.n ?_ | with_reducible refine blockQ.n ?_)
            exact Safe.got (HJ965 (v8_1003, v9_1004) h) (.cov ⟨rfl, rfl, (upT_cons (.refl _) (upT_cons (.refl _) (upT_cons (.refl _) (upT_cons (.refl _) (upT_cons (.refl _) upT_nil))))), upOb_nil, upOut_nil, rfl⟩)

def go_ravelref04_in (a0_1047 : Int) (a1_1048 : Int) (a2_1049 : Int) : Bool :=
  ((decide (a0_1047 ≥ a1_1048)) && (decide (a0_1047 ≤ a2_1049)))

theorem go_ravelref04_in_sc (a0_1047 : Int) (a1_1048 : Int) (a2_1049 : Int) (r : Bool) (h : go_ravelref04_in a0_1047 a1_1048 a2_1049 = r) : SC Try.prog gl 41 [V.int .i64 a0_1047, V.int .i64 a1_1048, V.int .i64 a2_1049] (V.bool r) := by
  rw [go_ravelref04_in] at h
  refine SC.of E_good Try.func41 rfl (fun _ _ => Try.call41 _ _) rfl ?_
  repeat (first | refine Safe.seq ?_ | refine Safe.skip ?_ | with_reducible refine thenQ.n ?_ | with_reducible refine blockQ.n ?_)
  refine Safe.region ?_
  refine SafeOps.quiet0 E_good rfl rfl rfl (v := V.bool false) (.fn rfl) ?_
  refine SafeOps.nil ?_
  repeat (first | refine Safe.seq ?_ | refine Safe.skip ?_ | with_reducible refine thenQ.n ?_ | with_reducible refine blockQ.n ?_)
  refine Safe.region ?_
  refine SafeOps.quiet0 E_good rfl rfl rfl (v := V.int .i64 a0_1047) (.fn rfl) ?_
  refine SafeOps.quiet0 E_good rfl rfl rfl (v := V.int .i64 a1_1048) (.fn rfl) ?_
  refine SafeOps.quiet0 E_good rfl rfl rfl (v := V.bool (decide (a0_1047 ≥ a1_1048))) (.fn rfl) ?_
  refine SafeOps.quiet0 E_good rfl rfl rfl (v := V.bool (decide (a0_1047 ≥ a1_1048))) (.fn rfl) ?_
  refine SafeOps.bjoin 4 14 (b := ((decide (a0_1047 ≥ a1_1048)) && (decide (a0_1047 ≤ a2_1049)))) (b1 := decide (a0_1047 ≤ a2_1049)) (b0 := false) (fun hc1051 K => ?_) (fun hc1051 K => ?_) bj_and ?_
  · skip
    refine SafeOps.quiet0 E_good (congrArg some hc1051) rfl rfl (v := V.int .i64 a0_1047) (.fn rfl) ?_
    refine SafeOps.quiet0 E_good (congrArg some hc1051) rfl rfl (v := V.int .i64 a2_1049) (.fn rfl) ?_
    refine SafeOps.quiet0 E_good (congrArg some hc1051) rfl rfl (v := V.bool (decide (a0_1047 ≤ a2_1049))) (.fn rfl) ?_
    refine SafeOps.quiet0 E_good rfl rfl rfl (v := V.bool (decide (a0_1047 ≤ a2_1049))) (.pickK rfl hc1051 rfl) ?_
    exact SafeOps.drop' 4 rfl rfl rfl K
  · skip
    refine SafeOps.skip (congrArg some hc1051) rfl rfl ?_
    refine SafeOps.skip (congrArg some hc1051) rfl rfl ?_
    refine SafeOps.skip (congrArg some hc1051) rfl rfl ?_
    refine SafeOps.quiet0 E_good rfl rfl rfl (v := V.bool false) (.pickK rfl hc1051 rfl) ?_
    exact SafeOps.drop' 4 rfl rfl rfl K
  refine SafeOps.quiet0 E_good rfl rfl rfl (v := V.bool ((decide (a0_1047 ≥ a1_1048)) && (decide (a0_1047 ≤ a2_1049)))) (.fn rfl) ?_
  refine SafeOps.nil ?_
  repeat (first | refine Safe.seq ?_ | refine Safe.skip ?_ | with_reducible refine thenQ.n ?_ | with_reducible refine blockQ.n ?_)
  refine Safe.ret ?_
  repeat (first | with_reducible refine thenQ.r ?_ | with_reducible refine blockQ.r ?_)
  obtain rfl := h
  exact retQ.gen (vs := [V.bool ((decide (a0_1047 ≥ a1_1048)) && (decide (a0_1047 ≤ a2_1049)))]) rfl (.tmp (v := V.bool ((decide (a0_1047 ≥ a1_1048)) && (decide (a0_1047 ≤ a2_1049)))) rfl .nil) (.free rfl) (by simp) (.inr rfl)

def go_ravelref04_may (a0_1046 : api_Instr) : Bool :=
  if (a0_1046.Op == 1) = true then
    ((go_ravelref04_in a0_1046.A 1 100) && (a0_1046.B == 0))
  else
    if (a0_1046.Op == 2) = true then
      ((go_ravelref04_in a0_1046.A 0 15) && (go_ravelref04_in a0_1046.B 0 3))
    else
      if ((a0_1046.Op == 3) || (a0_1046.Op == 9)) = true then
        ((a0_1046.A == 0) && (a0_1046.B == 0))
      else
        if (a0_1046.Op == 4) = true then
          ((go_ravelref04_in a0_1046.A 1 1000) && (a0_1046.B == 0))
        else
          if (a0_1046.Op == 5) = true then
            ((go_ravelref04_in a0_1046.A 0 15) && (a0_1046.B == 0))
          else
            if (a0_1046.Op == 6) = true then
              ((go_ravelref04_in a0_1046.A 0 3) && (a0_1046.B == 0))
            else
              ((((a0_1046.Op == 7) || (a0_1046.Op == 8)) && (go_ravelref04_in a0_1046.A 0 7)) && (a0_1046.B == 0))

theorem go_ravelref04_may_sc (a0_1046 : api_Instr) (r : Bool) (h : go_ravelref04_may a0_1046 = r) : SC Try.prog gl 33 [V.agg [V.int .i64 a0_1046.Op, V.int .i64 a0_1046.A, V.int .i64 a0_1046.B]] (V.bool r) := by
  rw [go_ravelref04_may] at h
  refine SC.of E_good Try.func33 rfl (fun _ _ => Try.call33 _ _) rfl ?_
  repeat (first | refine Safe.seq ?_ | refine Safe.skip ?_ | with_reducible refine thenQ.n ?_ | with_reducible refine blockQ.n ?_)
  refine Safe.region ?_
  refine SafeOps.quiet1 E_good rfl rfl rfl (.box rfl rfl) rfl ?_
  refine SafeOps.quiet0 E_good rfl rfl rfl (v := V.bool false) (.fn rfl) ?_
  refine SafeOps.nil ?_
  repeat (first | refine Safe.seq ?_ | refine Safe.skip ?_ | with_reducible refine thenQ.n ?_ | with_reducible refine blockQ.n ?_)
  refine Safe.region ?_
  refine SafeOps.quiet0 E_good rfl rfl rfl (v := V.ptr [1] 0 0) (.fn rfl) ?_
  refine SafeOps.quiet0 E_good rfl rfl rfl (v := V.int .i64 a0_1046.Op) (.load rfl rfl (.box rfl rfl) rfl) ?_
  refine SafeOps.quiet0 E_good rfl rfl rfl (v := V.bool (a0_1046.Op == 1)) (.fn rfl) ?_
  refine SafeOps.nil ?_
  repeat (first | refine Safe.seq ?_ | refine Safe.skip ?_ | with_reducible refine thenQ.n ?_ | with_reducible refine blockQ.n ?_)
  refine ifG h (fun hc1075 h => ?_) (fun hc1075 h => ?_)
  · skip
    refine Safe.condK rfl hc1075 ?_
    repeat (first | refine Safe.seq ?_ | refine Safe.skip ?_ | with_reducible refine thenQ.n ?_ | with_reducible refine blockQ.n ?_)
    refine Safe.region ?_
    refine SafeOps.quiet0 E_good rfl rfl rfl (v := V.ptr [1] 0 1) (.fn rfl) ?_
    refine SafeOps.quiet0 E_good rfl rfl rfl (v := V.int .i64 a0_1046.A) (.load rfl rfl (.box rfl rfl) rfl) ?_
    refine SafeOps.quiet0 E_good rfl rfl rfl (v := V.bool (go_ravelref04_in a0_1046.A 1 100)) (.callP rfl rfl (go_ravelref04_in_sc a0_1046.A 1 100 _ rfl) rfl) ?_
    refine SafeOps.quiet0 E_good rfl rfl rfl (v := V.bool (go_ravelref04_in a0_1046.A 1 100)) (.fn rfl) ?_
    refine SafeOps.bjoin 4 13 (b := ((go_ravelref04_in a0_1046.A 1 100) && (a0_1046.B == 0))) (b1 := (a0_1046.B == 0)) (b0 := false) (fun hc1076 K => ?_) (fun hc1076 K => ?_) bj_and ?_
    · skip
      refine SafeOps.quiet0 E_good (congrArg some hc1076) rfl rfl (v := V.ptr [1] 0 2) (.fn rfl) ?_
      refine SafeOps.quiet0 E_good (congrArg some hc1076) rfl rfl (v := V.int .i64 a0_1046.B) (.load rfl rfl (.box rfl rfl) rfl) ?_
      refine SafeOps.quiet0 E_good (congrArg some hc1076) rfl rfl (v := V.bool (a0_1046.B == 0)) (.fn rfl) ?_
      refine SafeOps.quiet0 E_good rfl rfl rfl (v := V.bool (a0_1046.B == 0)) (.pickK rfl hc1076 rfl) ?_
      exact SafeOps.drop' 4 rfl rfl rfl K
    · skip
      refine SafeOps.skip (congrArg some hc1076) rfl rfl ?_
      refine SafeOps.skip (congrArg some hc1076) rfl rfl ?_
      refine SafeOps.skip (congrArg some hc1076) rfl rfl ?_
      refine SafeOps.quiet0 E_good rfl rfl rfl (v := V.bool false) (.pickK rfl hc1076 rfl) ?_
      exact SafeOps.drop' 4 rfl rfl rfl K
    refine SafeOps.quiet0 E_good rfl rfl rfl (v := V.bool ((go_ravelref04_in a0_1046.A 1 100) && (a0_1046.B == 0))) (.fn rfl) ?_
    refine SafeOps.nil ?_
    repeat (first | refine Safe.seq ?_ | refine Safe.skip ?_ | with_reducible refine thenQ.n ?_ | with_reducible refine blockQ.n ?_)
    refine Safe.ret ?_
    repeat (first | with_reducible refine thenQ.r ?_ | with_reducible refine blockQ.r ?_)
    obtain rfl := h
    exact retQ.gen (vs := [V.bool ((go_ravelref04_in a0_1046.A 1 100) && (a0_1046.B == 0))]) rfl (.tmp (v := V.bool ((go_ravelref04_in a0_1046.A 1 100) && (a0_1046.B == 0))) rfl .nil) (.free rfl) (by simp) (.inr rfl)
  · skip
    refine Safe.condN rfl hc1075 ?_
    repeat (first | refine Safe.seq ?_ | refine Safe.skip ?_ | with_reducible refine thenQ.n ?_ | with_reducible refine blockQ.n ?_)
    refine Safe.region ?_
    refine SafeOps.quiet0 E_good rfl rfl rfl (v := V.ptr [1] 0 0) (.fn rfl) ?_
    refine SafeOps.quiet0 E_good rfl rfl rfl (v := V.int .i64 a0_1046.Op) (.load rfl rfl (.box rfl rfl) rfl) ?_
    refine SafeOps.quiet0 E_good rfl rfl rfl (v := V.bool (a0_1046.Op == 2)) (.fn rfl) ?_
    refine SafeOps.nil ?_
    repeat (first | refine Safe.seq ?_ | refine Safe.skip ?_ | with_reducible refine thenQ.n ?_ | with_reducible refine blockQ.n ?_)
    refine ifG h (fun hc1078 h => ?_) (fun hc1078 h => ?_)
    · skip
      refine Safe.condK rfl hc1078 ?_
      repeat (first | refine Safe.seq ?_ | refine Safe.skip ?_ | with_reducible refine thenQ.n ?_ | with_reducible refine blockQ.n ?_)
      refine Safe.region ?_
      refine SafeOps.quiet0 E_good rfl rfl rfl (v := V.ptr [1] 0 1) (.fn rfl) ?_
      refine SafeOps.quiet0 E_good rfl rfl rfl (v := V.int .i64 a0_1046.A) (.load rfl rfl (.box rfl rfl) rfl) ?_
      refine SafeOps.quiet0 E_good rfl rfl rfl (v := V.bool (go_ravelref04_in a0_1046.A 0 15)) (.callP rfl rfl (go_ravelref04_in_sc a0_1046.A 0 15 _ rfl) rfl) ?_
      refine SafeOps.quiet0 E_good rfl rfl rfl (v := V.bool (go_ravelref04_in a0_1046.A 0 15)) (.fn rfl) ?_
      refine SafeOps.bjoin 4 24 (b := ((go_ravelref04_in a0_1046.A 0 15) && (go_ravelref04_in a0_1046.B 0 3))) (b1 := go_ravelref04_in a0_1046.B 0 3) (b0 := false) (fun hc1079 K => ?_) (fun hc1079 K => ?_) bj_and ?_
      · skip
        refine SafeOps.quiet0 E_good (congrArg some hc1079) rfl rfl (v := V.ptr [1] 0 2) (.fn rfl) ?_
        refine SafeOps.quiet0 E_good (congrArg some hc1079) rfl rfl (v := V.int .i64 a0_1046.B) (.load rfl rfl (.box rfl rfl) rfl) ?_
        refine SafeOps.quiet0 E_good (congrArg some hc1079) rfl rfl (v := V.bool (go_ravelref04_in a0_1046.B 0 3)) (.callP rfl rfl (go_ravelref04_in_sc a0_1046.B 0 3 _ rfl) rfl) ?_
        refine SafeOps.quiet0 E_good rfl rfl rfl (v := V.bool (go_ravelref04_in a0_1046.B 0 3)) (.pickK rfl hc1079 rfl) ?_
        exact SafeOps.drop' 4 rfl rfl rfl K
      · skip
        refine SafeOps.skip (congrArg some hc1079) rfl rfl ?_
        refine SafeOps.skip (congrArg some hc1079) rfl rfl ?_
        refine SafeOps.skip (congrArg some hc1079) rfl rfl ?_
        refine SafeOps.quiet0 E_good rfl rfl rfl (v := V.bool false) (.pickK rfl hc1079 rfl) ?_
        exact SafeOps.drop' 4 rfl rfl rfl K
      refine SafeOps.quiet0 E_good rfl rfl rfl (v := V.bool ((go_ravelref04_in a0_1046.A 0 15) && (go_ravelref04_in a0_1046.B 0 3))) (.fn rfl) ?_
      refine SafeOps.nil ?_
      repeat (first | refine Safe.seq ?_ | refine Safe.skip ?_ | with_reducible refine thenQ.n ?_ | with_reducible refine blockQ.n ?_)
      refine Safe.ret ?_
      repeat (first | with_reducible refine thenQ.r ?_ | with_reducible refine blockQ.r ?_)
      obtain rfl := h
      exact retQ.gen (vs := [V.bool ((go_ravelref04_in a0_1046.A 0 15) && (go_ravelref04_in a0_1046.B 0 3))]) rfl (.tmp (v := V.bool ((go_ravelref04_in a0_1046.A 0 15) && (go_ravelref04_in a0_1046.B 0 3))) rfl .nil) (.free rfl) (by simp) (.inr rfl)
    · skip
      refine Safe.condN rfl hc1078 ?_
      repeat (first | refine Safe.seq ?_ | refine Safe.skip ?_ | with_reducible refine thenQ.n ?_ | with_reducible refine blockQ.n ?_)
      refine Safe.region ?_
      refine SafeOps.quiet0 E_good rfl rfl rfl (v := V.ptr [1] 0 0) (.fn rfl) ?_
      refine SafeOps.quiet0 E_good rfl rfl rfl (v := V.int .i64 a0_1046.Op) (.load rfl rfl (.box rfl rfl) rfl) ?_
      refine SafeOps.quiet0 E_good rfl rfl rfl (v := V.bool (a0_1046.Op == 3)) (.fn rfl) ?_
      refine SafeOps.quiet0 E_good rfl rfl rfl (v := V.bool (a0_1046.Op == 3)) (.fn rfl) ?_
      refine SafeOps.bjoin 4 32 (b := ((a0_1046.Op == 3) || (a0_1046.Op == 9))) (b1 := true) (b0 := (a0_1046.Op == 9)) (fun hc1080 K => ?_) (fun hc1080 K => ?_) bj_or ?_
      · skip
        refine SafeOps.skip (congrArg (fun b => some (!b)) hc1080) rfl rfl ?_
        refine SafeOps.skip (congrArg (fun b => some (!b)) hc1080) rfl rfl ?_
        refine SafeOps.skip (congrArg (fun b => some (!b)) hc1080) rfl rfl ?_
        refine SafeOps.quiet0 E_good rfl rfl rfl (v := V.bool true) (.pickK rfl hc1080 rfl) ?_
        exact SafeOps.drop' 4 rfl rfl rfl K
      · skip
        refine SafeOps.quiet0 E_good (congrArg (fun b => some (!b)) hc1080) rfl rfl (v := V.ptr [1] 0 0) (.fn rfl) ?_
        refine SafeOps.quiet0 E_good (congrArg (fun b => some (!b)) hc1080) rfl rfl (v := V.int .i64 a0_1046.Op) (.load rfl rfl (.box rfl rfl) rfl) ?_
        refine SafeOps.quiet0 E_good (congrArg (fun b => some (!b)) hc1080) rfl rfl (v := V.bool (a0_1046.Op == 9)) (.fn rfl) ?_
        refine SafeOps.quiet0 E_good rfl rfl rfl (v := V.bool (a0_1046.Op == 9)) (.pickK rfl hc1080 rfl) ?_
        exact SafeOps.drop' 4 rfl rfl rfl K
      refine SafeOps.nil ?_
      repeat (first | refine Safe.seq ?_ | refine Safe.skip ?_ | with_reducible refine thenQ.n ?_ | with_reducible refine blockQ.n ?_)
      refine ifG h (fun hc1082 h => ?_) (fun hc1082 h => ?_)
      · skip
        refine Safe.condK rfl hc1082 ?_
        repeat (first | refine Safe.seq ?_ | refine Safe.skip ?_ | with_reducible refine thenQ.n ?_ | with_reducible refine blockQ.n ?_)
        refine Safe.region ?_
        refine SafeOps.quiet0 E_good rfl rfl rfl (v := V.ptr [1] 0 1) (.fn rfl) ?_
        refine SafeOps.quiet0 E_good rfl rfl rfl (v := V.int .i64 a0_1046.A) (.load rfl rfl (.box rfl rfl) rfl) ?_
        refine SafeOps.quiet0 E_good rfl rfl rfl (v := V.bool (a0_1046.A == 0)) (.fn rfl) ?_
        refine SafeOps.quiet0 E_good rfl rfl rfl (v := V.bool (a0_1046.A == 0)) (.fn rfl) ?_
        refine SafeOps.bjoin 4 40 (b := ((a0_1046.A == 0) && (a0_1046.B == 0))) (b1 := (a0_1046.B == 0)) (b0 := false) (fun hc1083 K => ?_) (fun hc1083 K => ?_) bj_and ?_
        · skip
          refine SafeOps.quiet0 E_good (congrArg some hc1083) rfl rfl (v := V.ptr [1] 0 2) (.fn rfl) ?_
          refine SafeOps.quiet0 E_good (congrArg some hc1083) rfl rfl (v := V.int .i64 a0_1046.B) (.load rfl rfl (.box rfl rfl) rfl) ?_
          refine SafeOps.quiet0 E_good (congrArg some hc1083) rfl rfl (v := V.bool (a0_1046.B == 0)) (.fn rfl) ?_
          refine SafeOps.quiet0 E_good rfl rfl rfl (v := V.bool (a0_1046.B == 0)) (.pickK rfl hc1083 rfl) ?_
          exact SafeOps.drop' 4 rfl rfl rfl K
        · skip
          refine SafeOps.skip (congrArg some hc1083) rfl rfl ?_
          refine SafeOps.skip (congrArg some hc1083) rfl rfl ?_
          refine SafeOps.skip (congrArg some hc1083) rfl rfl ?_
          refine SafeOps.quiet0 E_good rfl rfl rfl (v := V.bool false) (.pickK rfl hc1083 rfl) ?_
          exact SafeOps.drop' 4 rfl rfl rfl K
        refine SafeOps.quiet0 E_good rfl rfl rfl (v := V.bool ((a0_1046.A == 0) && (a0_1046.B == 0))) (.fn rfl) ?_
        refine SafeOps.nil ?_
        repeat (first | refine Safe.seq ?_ | refine Safe.skip ?_ | with_reducible refine thenQ.n ?_ | with_reducible refine blockQ.n ?_)
        refine Safe.ret ?_
        repeat (first | with_reducible refine thenQ.r ?_ | with_reducible refine blockQ.r ?_)
        obtain rfl := h
        exact retQ.gen (vs := [V.bool ((a0_1046.A == 0) && (a0_1046.B == 0))]) rfl (.tmp (v := V.bool ((a0_1046.A == 0) && (a0_1046.B == 0))) rfl .nil) (.free rfl) (by simp) (.inr rfl)
      · skip
        refine Safe.condN rfl hc1082 ?_
        repeat (first | refine Safe.seq ?_ | refine Safe.skip ?_ | with_reducible refine thenQ.n ?_ | with_reducible refine blockQ.n ?_)
        refine Safe.region ?_
        refine SafeOps.quiet0 E_good rfl rfl rfl (v := V.ptr [1] 0 0) (.fn rfl) ?_
        refine SafeOps.quiet0 E_good rfl rfl rfl (v := V.int .i64 a0_1046.Op) (.load rfl rfl (.box rfl rfl) rfl) ?_
        refine SafeOps.quiet0 E_good rfl rfl rfl (v := V.bool (a0_1046.Op == 4)) (.fn rfl) ?_
        refine SafeOps.nil ?_
        repeat (first | refine Safe.seq ?_ | refine Safe.skip ?_ | with_reducible refine thenQ.n ?_ | with_reducible refine blockQ.n ?_)
        refine ifG h (fun hc1085 h => ?_) (fun hc1085 h => ?_)
        · skip
          refine Safe.condK rfl hc1085 ?_
          repeat (first | refine Safe.seq ?_ | refine Safe.skip ?_ | with_reducible refine thenQ.n ?_ | with_reducible refine blockQ.n ?_)
          refine Safe.region ?_
          refine SafeOps.quiet0 E_good rfl rfl rfl (v := V.ptr [1] 0 1) (.fn rfl) ?_
          refine SafeOps.quiet0 E_good rfl rfl rfl (v := V.int .i64 a0_1046.A) (.load rfl rfl (.box rfl rfl) rfl) ?_
          refine SafeOps.quiet0 E_good rfl rfl rfl (v := V.bool (go_ravelref04_in a0_1046.A 1 1000)) (.callP rfl rfl (go_ravelref04_in_sc a0_1046.A 1 1000 _ rfl) rfl) ?_
          refine SafeOps.quiet0 E_good rfl rfl rfl (v := V.bool (go_ravelref04_in a0_1046.A 1 1000)) (.fn rfl) ?_
          refine SafeOps.bjoin 4 51 (b := ((go_ravelref04_in a0_1046.A 1 1000) && (a0_1046.B == 0))) (b1 := (a0_1046.B == 0)) (b0 := false) (fun hc1086 K => ?_) (fun hc1086 K => ?_) bj_and ?_
          · skip
            refine SafeOps.quiet0 E_good (congrArg some hc1086) rfl rfl (v := V.ptr [1] 0 2) (.fn rfl) ?_
            refine SafeOps.quiet0 E_good (congrArg some hc1086) rfl rfl (v := V.int .i64 a0_1046.B) (.load rfl rfl (.box rfl rfl) rfl) ?_
            refine SafeOps.quiet0 E_good (congrArg some hc1086) rfl rfl (v := V.bool (a0_1046.B == 0)) (.fn rfl) ?_
            refine SafeOps.quiet0 E_good rfl rfl rfl (v := V.bool (a0_1046.B == 0)) (.pickK rfl hc1086 rfl) ?_
            exact SafeOps.drop' 4 rfl rfl rfl K
          · skip
            refine SafeOps.skip (congrArg some hc1086) rfl rfl ?_
            refine SafeOps.skip (congrArg some hc1086) rfl rfl ?_
            refine SafeOps.skip (congrArg some hc1086) rfl rfl ?_
            refine SafeOps.quiet0 E_good rfl rfl rfl (v := V.bool false) (.pickK rfl hc1086 rfl) ?_
            exact SafeOps.drop' 4 rfl rfl rfl K
          refine SafeOps.quiet0 E_good rfl rfl rfl (v := V.bool ((go_ravelref04_in a0_1046.A 1 1000) && (a0_1046.B == 0))) (.fn rfl) ?_
          refine SafeOps.nil ?_
          repeat (first | refine Safe.seq ?_ | refine Safe.skip ?_ | with_reducible refine thenQ.n ?_ | with_reducible refine blockQ.n ?_)
          refine Safe.ret ?_
          repeat (first | with_reducible refine thenQ.r ?_ | with_reducible refine blockQ.r ?_)
          obtain rfl := h
          exact retQ.gen (vs := [V.bool ((go_ravelref04_in a0_1046.A 1 1000) && (a0_1046.B == 0))]) rfl (.tmp (v := V.bool ((go_ravelref04_in a0_1046.A 1 1000) && (a0_1046.B == 0))) rfl .nil) (.free rfl) (by simp) (.inr rfl)
        · skip
          refine Safe.condN rfl hc1085 ?_
          repeat (first | refine Safe.seq ?_ | refine Safe.skip ?_ | with_reducible refine thenQ.n ?_ | with_reducible refine blockQ.n ?_)
          refine Safe.region ?_
          refine SafeOps.quiet0 E_good rfl rfl rfl (v := V.ptr [1] 0 0) (.fn rfl) ?_
          refine SafeOps.quiet0 E_good rfl rfl rfl (v := V.int .i64 a0_1046.Op) (.load rfl rfl (.box rfl rfl) rfl) ?_
          refine SafeOps.quiet0 E_good rfl rfl rfl (v := V.bool (a0_1046.Op == 5)) (.fn rfl) ?_
          refine SafeOps.nil ?_
          repeat (first | refine Safe.seq ?_ | refine Safe.skip ?_ | with_reducible refine thenQ.n ?_ | with_reducible refine blockQ.n ?_)
          refine ifG h (fun hc1088 h => ?_) (fun hc1088 h => ?_)
          · skip
            refine Safe.condK rfl hc1088 ?_
            repeat (first | refine Safe.seq ?_ | refine Safe.skip ?_ | with_reducible refine thenQ.n ?_ | with_reducible refine blockQ.n ?_)
            refine Safe.region ?_
            refine SafeOps.quiet0 E_good rfl rfl rfl (v := V.ptr [1] 0 1) (.fn rfl) ?_
            refine SafeOps.quiet0 E_good rfl rfl rfl (v := V.int .i64 a0_1046.A) (.load rfl rfl (.box rfl rfl) rfl) ?_
            refine SafeOps.quiet0 E_good rfl rfl rfl (v := V.bool (go_ravelref04_in a0_1046.A 0 15)) (.callP rfl rfl (go_ravelref04_in_sc a0_1046.A 0 15 _ rfl) rfl) ?_
            refine SafeOps.quiet0 E_good rfl rfl rfl (v := V.bool (go_ravelref04_in a0_1046.A 0 15)) (.fn rfl) ?_
            refine SafeOps.bjoin 4 62 (b := ((go_ravelref04_in a0_1046.A 0 15) && (a0_1046.B == 0))) (b1 := (a0_1046.B == 0)) (b0 := false) (fun hc1089 K => ?_) (fun hc1089 K => ?_) bj_and ?_
            · skip
              refine SafeOps.quiet0 E_good (congrArg some hc1089) rfl rfl (v := V.ptr [1] 0 2) (.fn rfl) ?_
              refine SafeOps.quiet0 E_good (congrArg some hc1089) rfl rfl (v := V.int .i64 a0_1046.B) (.load rfl rfl (.box rfl rfl) rfl) ?_
              refine SafeOps.quiet0 E_good (congrArg some hc1089) rfl rfl (v := V.bool (a0_1046.B == 0)) (.fn rfl) ?_
              refine SafeOps.quiet0 E_good rfl rfl rfl (v := V.bool (a0_1046.B == 0)) (.pickK rfl hc1089 rfl) ?_
              exact SafeOps.drop' 4 rfl rfl rfl K
            · skip
              refine SafeOps.skip (congrArg some hc1089) rfl rfl ?_
              refine SafeOps.skip (congrArg some hc1089) rfl rfl ?_
              refine SafeOps.skip (congrArg some hc1089) rfl rfl ?_
              refine SafeOps.quiet0 E_good rfl rfl rfl (v := V.bool false) (.pickK rfl hc1089 rfl) ?_
              exact SafeOps.drop' 4 rfl rfl rfl K
            refine SafeOps.quiet0 E_good rfl rfl rfl (v := V.bool ((go_ravelref04_in a0_1046.A 0 15) && (a0_1046.B == 0))) (.fn rfl) ?_
            refine SafeOps.nil ?_
            repeat (first | refine Safe.seq ?_ | refine Safe.skip ?_ | with_reducible refine thenQ.n ?_ | with_reducible refine blockQ.n ?_)
            refine Safe.ret ?_
            repeat (first | with_reducible refine thenQ.r ?_ | with_reducible refine blockQ.r ?_)
            obtain rfl := h
            exact retQ.gen (vs := [V.bool ((go_ravelref04_in a0_1046.A 0 15) && (a0_1046.B == 0))]) rfl (.tmp (v := V.bool ((go_ravelref04_in a0_1046.A 0 15) && (a0_1046.B == 0))) rfl .nil) (.free rfl) (by simp) (.inr rfl)
          · skip
            refine Safe.condN rfl hc1088 ?_
            repeat (first | refine Safe.seq ?_ | refine Safe.skip ?_ | with_reducible refine thenQ.n ?_ | with_reducible refine blockQ.n ?_)
            refine Safe.region ?_
            refine SafeOps.quiet0 E_good rfl rfl rfl (v := V.ptr [1] 0 0) (.fn rfl) ?_
            refine SafeOps.quiet0 E_good rfl rfl rfl (v := V.int .i64 a0_1046.Op) (.load rfl rfl (.box rfl rfl) rfl) ?_
            refine SafeOps.quiet0 E_good rfl rfl rfl (v := V.bool (a0_1046.Op == 6)) (.fn rfl) ?_
            refine SafeOps.nil ?_
            repeat (first | refine Safe.seq ?_ | refine Safe.skip ?_ | with_reducible refine thenQ.n ?_ | with_reducible refine blockQ.n ?_)
            refine ifG h (fun hc1091 h => ?_) (fun hc1091 h => ?_)
            · skip
              refine Safe.condK rfl hc1091 ?_
              repeat (first | refine Safe.seq ?_ | refine Safe.skip ?_ | with_reducible refine thenQ.n ?_ | with_reducible refine blockQ.n ?_)
              refine Safe.region ?_
              refine SafeOps.quiet0 E_good rfl rfl rfl (v := V.ptr [1] 0 1) (.fn rfl) ?_
              refine SafeOps.quiet0 E_good rfl rfl rfl (v := V.int .i64 a0_1046.A) (.load rfl rfl (.box rfl rfl) rfl) ?_
              refine SafeOps.quiet0 E_good rfl rfl rfl (v := V.bool (go_ravelref04_in a0_1046.A 0 3)) (.callP rfl rfl (go_ravelref04_in_sc a0_1046.A 0 3 _ rfl) rfl) ?_
              refine SafeOps.quiet0 E_good rfl rfl rfl (v := V.bool (go_ravelref04_in a0_1046.A 0 3)) (.fn rfl) ?_
              refine SafeOps.bjoin 4 73 (b := ((go_ravelref04_in a0_1046.A 0 3) && (a0_1046.B == 0))) (b1 := (a0_1046.B == 0)) (b0 := false) (fun hc1092 K => ?_) (fun hc1092 K => ?_) bj_and ?_
              · skip
                refine SafeOps.quiet0 E_good (congrArg some hc1092) rfl rfl (v := V.ptr [1] 0 2) (.fn rfl) ?_
                refine SafeOps.quiet0 E_good (congrArg some hc1092) rfl rfl (v := V.int .i64 a0_1046.B) (.load rfl rfl (.box rfl rfl) rfl) ?_
                refine SafeOps.quiet0 E_good (congrArg some hc1092) rfl rfl (v := V.bool (a0_1046.B == 0)) (.fn rfl) ?_
                refine SafeOps.quiet0 E_good rfl rfl rfl (v := V.bool (a0_1046.B == 0)) (.pickK rfl hc1092 rfl) ?_
                exact SafeOps.drop' 4 rfl rfl rfl K
              · skip
                refine SafeOps.skip (congrArg some hc1092) rfl rfl ?_
                refine SafeOps.skip (congrArg some hc1092) rfl rfl ?_
                refine SafeOps.skip (congrArg some hc1092) rfl rfl ?_
                refine SafeOps.quiet0 E_good rfl rfl rfl (v := V.bool false) (.pickK rfl hc1092 rfl) ?_
                exact SafeOps.drop' 4 rfl rfl rfl K
              refine SafeOps.quiet0 E_good rfl rfl rfl (v := V.bool ((go_ravelref04_in a0_1046.A 0 3) && (a0_1046.B == 0))) (.fn rfl) ?_
              refine SafeOps.nil ?_
              repeat (first | refine Safe.seq ?_ | refine Safe.skip ?_ | with_reducible refine thenQ.n ?_ | with_reducible refine blockQ.n ?_)
              refine Safe.ret ?_
              repeat (first | with_reducible refine thenQ.r ?_ | with_reducible refine blockQ.r ?_)
              obtain rfl := h
              exact retQ.gen (vs := [V.bool ((go_ravelref04_in a0_1046.A 0 3) && (a0_1046.B == 0))]) rfl (.tmp (v := V.bool ((go_ravelref04_in a0_1046.A 0 3) && (a0_1046.B == 0))) rfl .nil) (.free rfl) (by simp) (.inr rfl)
            · skip
              refine Safe.condN rfl hc1091 ?_
              repeat (first | refine Safe.seq ?_ | refine Safe.skip ?_ | with_reducible refine thenQ.n ?_ | with_reducible refine blockQ.n ?_)
              refine Safe.region ?_
              refine SafeOps.quiet0 E_good rfl rfl rfl (v := V.ptr [1] 0 0) (.fn rfl) ?_
              refine SafeOps.quiet0 E_good rfl rfl rfl (v := V.int .i64 a0_1046.Op) (.load rfl rfl (.box rfl rfl) rfl) ?_
              refine SafeOps.quiet0 E_good rfl rfl rfl (v := V.bool (a0_1046.Op == 7)) (.fn rfl) ?_
              refine SafeOps.quiet0 E_good rfl rfl rfl (v := V.bool (a0_1046.Op == 7)) (.fn rfl) ?_
              refine SafeOps.bjoin 4 81 (b := ((a0_1046.Op == 7) || (a0_1046.Op == 8))) (b1 := true) (b0 := (a0_1046.Op == 8)) (fun hc1093 K => ?_) (fun hc1093 K => ?_) bj_or ?_
              · skip
                refine SafeOps.skip (congrArg (fun b => some (!b)) hc1093) rfl rfl ?_
                refine SafeOps.skip (congrArg (fun b => some (!b)) hc1093) rfl rfl ?_
                refine SafeOps.skip (congrArg (fun b => some (!b)) hc1093) rfl rfl ?_
                refine SafeOps.quiet0 E_good rfl rfl rfl (v := V.bool true) (.pickK rfl hc1093 rfl) ?_
                exact SafeOps.drop' 4 rfl rfl rfl K
              · skip
                refine SafeOps.quiet0 E_good (congrArg (fun b => some (!b)) hc1093) rfl rfl (v := V.ptr [1] 0 0) (.fn rfl) ?_
                refine SafeOps.quiet0 E_good (congrArg (fun b => some (!b)) hc1093) rfl rfl (v := V.int .i64 a0_1046.Op) (.load rfl rfl (.box rfl rfl) rfl) ?_
                refine SafeOps.quiet0 E_good (congrArg (fun b => some (!b)) hc1093) rfl rfl (v := V.bool (a0_1046.Op == 8)) (.fn rfl) ?_
                refine SafeOps.quiet0 E_good rfl rfl rfl (v := V.bool (a0_1046.Op == 8)) (.pickK rfl hc1093 rfl) ?_
                exact SafeOps.drop' 4 rfl rfl rfl K
              refine SafeOps.quiet0 E_good rfl rfl rfl (v := V.bool ((a0_1046.Op == 7) || (a0_1046.Op == 8))) (.fn rfl) ?_
              refine SafeOps.bjoin 4 86 (b := (((a0_1046.Op == 7) || (a0_1046.Op == 8)) && (go_ravelref04_in a0_1046.A 0 7))) (b1 := go_ravelref04_in a0_1046.A 0 7) (b0 := false) (fun hc1094 K => ?_) (fun hc1094 K => ?_) bj_and ?_
              · skip
                refine SafeOps.quiet0 E_good (congrArg some hc1094) rfl rfl (v := V.ptr [1] 0 1) (.fn rfl) ?_
                refine SafeOps.quiet0 E_good (congrArg some hc1094) rfl rfl (v := V.int .i64 a0_1046.A) (.load rfl rfl (.box rfl rfl) rfl) ?_
                refine SafeOps.quiet0 E_good (congrArg some hc1094) rfl rfl (v := V.bool (go_ravelref04_in a0_1046.A 0 7)) (.callP rfl rfl (go_ravelref04_in_sc a0_1046.A 0 7 _ rfl) rfl) ?_
                refine SafeOps.quiet0 E_good rfl rfl rfl (v := V.bool (go_ravelref04_in a0_1046.A 0 7)) (.pickK rfl hc1094 rfl) ?_
                exact SafeOps.drop' 4 rfl rfl rfl K
              · skip
                refine SafeOps.skip (congrArg some hc1094) rfl rfl ?_
                refine SafeOps.skip (congrArg some hc1094) rfl rfl ?_
                refine SafeOps.skip (congrArg some hc1094) rfl rfl ?_
                refine SafeOps.quiet0 E_good rfl rfl rfl (v := V.bool false) (.pickK rfl hc1094 rfl) ?_
                exact SafeOps.drop' 4 rfl rfl rfl K
              refine SafeOps.quiet0 E_good rfl rfl rfl (v := V.bool (((a0_1046.Op == 7) || (a0_1046.Op == 8)) && (go_ravelref04_in a0_1046.A 0 7))) (.fn rfl) ?_
              refine SafeOps.bjoin 4 91 (b := ((((a0_1046.Op == 7) || (a0_1046.Op == 8)) && (go_ravelref04_in a0_1046.A 0 7)) && (a0_1046.B == 0))) (b1 := (a0_1046.B == 0)) (b0 := false) (fun hc1095 K => ?_) (fun hc1095 K => ?_) bj_and ?_
              · skip
                refine SafeOps.quiet0 E_good (congrArg some hc1095) rfl rfl (v := V.ptr [1] 0 2) (.fn rfl) ?_
                refine SafeOps.quiet0 E_good (congrArg some hc1095) rfl rfl (v := V.int .i64 a0_1046.B) (.load rfl rfl (.box rfl rfl) rfl) ?_
                refine SafeOps.quiet0 E_good (congrArg some hc1095) rfl rfl (v := V.bool (a0_1046.B == 0)) (.fn rfl) ?_
                refine SafeOps.quiet0 E_good rfl rfl rfl (v := V.bool (a0_1046.B == 0)) (.pickK rfl hc1095 rfl) ?_
                exact SafeOps.drop' 4 rfl rfl rfl K
              · skip
                refine SafeOps.skip (congrArg some hc1095) rfl rfl ?_
                refine SafeOps.skip (congrArg some hc1095) rfl rfl ?_
                refine SafeOps.skip (congrArg some hc1095) rfl rfl ?_
                refine SafeOps.quiet0 E_good rfl rfl rfl (v := V.bool false) (.pickK rfl hc1095 rfl) ?_
                exact SafeOps.drop' 4 rfl rfl rfl K
              refine SafeOps.quiet0 E_good rfl rfl rfl (v := V.bool ((((a0_1046.Op == 7) || (a0_1046.Op == 8)) && (go_ravelref04_in a0_1046.A 0 7)) && (a0_1046.B == 0))) (.fn rfl) ?_
              refine SafeOps.nil ?_
              repeat (first | refine Safe.seq ?_ | refine Safe.skip ?_ | with_reducible refine thenQ.n ?_ | with_reducible refine blockQ.n ?_)
              refine Safe.ret ?_
              repeat (first | with_reducible refine thenQ.r ?_ | with_reducible refine blockQ.r ?_)
              obtain rfl := h
              exact retQ.gen (vs := [V.bool ((((a0_1046.Op == 7) || (a0_1046.Op == 8)) && (go_ravelref04_in a0_1046.A 0 7)) && (a0_1046.B == 0))]) rfl (.tmp (v := V.bool ((((a0_1046.Op == 7) || (a0_1046.Op == 8)) && (go_ravelref04_in a0_1046.A 0 7)) && (a0_1046.B == 0))) rfl .nil) (.free rfl) (by simp) (.inr rfl)

noncomputable def go_ravelref04_Check_s1 (a0_1036 : List api_Instr) : (Int) → Option ((Int) ⊕ (Int))
  | v15_1115 =>
    if (decide (v15_1115 < (a0_1036.length : Int))) = true then
      if 0 ≤ v15_1115 ∧ v15_1115 < (a0_1036.length : Int) then
        if (!(go_ravelref04_may (gt a0_1036 v15_1115))) = true then
          inrO (
            some 1)
        else
          nextO (IntKind.i64.wrap (v15_1115 + 1))
      else none
    else
      inrO (
        some 0)

noncomputable def go_ravelref04_Check (a0_1036 : List api_Instr) : Option Int :=
  if ((decide ((a0_1036.length : Int) < 1)) || (decide ((a0_1036.length : Int) > 32))) = true then
    some 1
  else
    whileO (go_ravelref04_Check_s1 a0_1036) 0

theorem go_ravelref04_Check_sc (a0_1036 : List api_Instr) (r : Int) (h : go_ravelref04_Check a0_1036 = some r) : SC Try.prog gl 17 [V.sl 3 (rws api_Instr.cells a0_1036)] (V.int .i64 r) := by
  rw [go_ravelref04_Check] at h
  refine SC.of E_good Try.func17 rfl (fun _ _ => Try.call17 _ _) rfl ?_
  repeat (first | refine Safe.seq ?_ | refine Safe.skip ?_ | with_reducible refine thenQ.n ?_ | with_reducible refine blockQ.n ?_)
  refine Safe.region ?_
  refine SafeOps.quiet0 E_good rfl rfl rfl (v := V.int .i64 0) (.fn rfl) ?_
  refine SafeOps.nil ?_
  repeat (first | refine Safe.seq ?_ | refine Safe.skip ?_ | with_reducible refine thenQ.n ?_ | with_reducible refine blockQ.n ?_)
  refine Safe.region ?_
  refine SafeOps.quiet0 E_good rfl rfl rfl (v := V.sl 3 (rws api_Instr.cells a0_1036)) (.fn rfl) ?_
  refine SafeOps.quiet0 E_good rfl rfl rfl (v := V.int .i64 (a0_1036.length : Int)) (.fnE rfl lenE) ?_
  refine SafeOps.quiet0 E_good rfl rfl rfl (v := V.bool (decide ((a0_1036.length : Int) < 1))) (.fn rfl) ?_
  refine SafeOps.quiet0 E_good rfl rfl rfl (v := V.bool (decide ((a0_1036.length : Int) < 1))) (.fn rfl) ?_
  refine SafeOps.bjoin 4 12 (b := ((decide ((a0_1036.length : Int) < 1)) || (decide ((a0_1036.length : Int) > 32)))) (b1 := true) (b0 := decide ((a0_1036.length : Int) > 32)) (fun hc1106 K => ?_) (fun hc1106 K => ?_) bj_or ?_
  · skip
    refine SafeOps.skip (congrArg (fun b => some (!b)) hc1106) rfl rfl ?_
    refine SafeOps.skip (congrArg (fun b => some (!b)) hc1106) rfl rfl ?_
    refine SafeOps.skip (congrArg (fun b => some (!b)) hc1106) rfl rfl ?_
    refine SafeOps.quiet0 E_good rfl rfl rfl (v := V.bool true) (.pickK rfl hc1106 rfl) ?_
    exact SafeOps.drop' 4 rfl rfl rfl K
  · skip
    refine SafeOps.quiet0 E_good (congrArg (fun b => some (!b)) hc1106) rfl rfl (v := V.sl 3 (rws api_Instr.cells a0_1036)) (.fn rfl) ?_
    refine SafeOps.quiet0 E_good (congrArg (fun b => some (!b)) hc1106) rfl rfl (v := V.int .i64 (a0_1036.length : Int)) (.fnE rfl lenE) ?_
    refine SafeOps.quiet0 E_good (congrArg (fun b => some (!b)) hc1106) rfl rfl (v := V.bool (decide ((a0_1036.length : Int) > 32))) (.fn rfl) ?_
    refine SafeOps.quiet0 E_good rfl rfl rfl (v := V.bool (decide ((a0_1036.length : Int) > 32))) (.pickK rfl hc1106 rfl) ?_
    exact SafeOps.drop' 4 rfl rfl rfl K
  refine SafeOps.nil ?_
  repeat (first | refine Safe.seq ?_ | refine Safe.skip ?_ | with_reducible refine thenQ.n ?_ | with_reducible refine blockQ.n ?_)
  refine ifG h (fun hc1107 h => ?_) (fun hc1107 h => ?_)
  · skip
    refine Safe.condK rfl hc1107 ?_
    repeat (first | refine Safe.seq ?_ | refine Safe.skip ?_ | with_reducible refine thenQ.n ?_ | with_reducible refine blockQ.n ?_)
    refine Safe.region ?_
    refine SafeOps.quiet0 E_good rfl rfl rfl (v := V.int .i64 1) (.fn rfl) ?_
    refine SafeOps.nil ?_
    repeat (first | refine Safe.seq ?_ | refine Safe.skip ?_ | with_reducible refine thenQ.n ?_ | with_reducible refine blockQ.n ?_)
    refine Safe.ret ?_
    repeat (first | with_reducible refine thenQ.r ?_ | with_reducible refine blockQ.r ?_)
    obtain rfl := Option.some.inj h
    exact retQ.gen (vs := [V.int .i64 1]) rfl (.tmp (v := V.int .i64 1) rfl .nil) (.free rfl) (by simp) (.inr rfl)
  · skip
    refine Safe.condN rfl hc1107 ?_
    repeat (first | refine Safe.seq ?_ | refine Safe.skip ?_ | with_reducible refine thenQ.n ?_ | with_reducible refine blockQ.n ?_)
    refine Safe.region ?_
    refine SafeOps.quiet0 E_good rfl rfl rfl (v := V.sl 3 (rws api_Instr.cells a0_1036)) (.fn rfl) ?_
    refine SafeOps.quiet0 E_good rfl rfl rfl (v := V.int .i64 (a0_1036.length : Int)) (.fnE rfl lenE) ?_
    refine SafeOps.quiet0 E_good rfl rfl rfl (v := V.int .i64 0) (.fn rfl) ?_
    refine SafeOps.nil ?_
    repeat (first | refine Safe.seq ?_ | refine Safe.skip ?_ | with_reducible refine thenQ.n ?_ | with_reducible refine blockQ.n ?_)
    refine Safe.block ?_
    repeat (first | refine Safe.seq ?_ | refine Safe.skip ?_ | with_reducible refine thenQ.n ?_ | with_reducible refine blockQ.n ?_)
    refine Safe.loopW (fun (v15_1115 : Int) => ⟨Try.f17.ntmps, [(13, V.sl 3 (rws api_Instr.cells a0_1036)), (14, V.int .i64 (a0_1036.length : Int)), (15, V.int .i64 v15_1115)], [], [], []⟩) h (.cov ⟨rfl, rfl, (upT_cons (.refl _) (upT_cons (.refl _) (upT_cons (.refl _) upT_nil))), upOb_nil, upOut_nil, rfl⟩) ?_
    intro v15_1115 ohr1116 h hr1116
    replace h : go_ravelref04_Check_s1 a0_1036 v15_1115 = some ohr1116 := h
    rw [go_ravelref04_Check_s1] at h
    repeat (first | refine Safe.seq ?_ | refine Safe.skip ?_ | with_reducible refine thenQ.n ?_ | with_reducible refine blockQ.n ?_)
    refine Safe.region ?_
    refine SafeOps.quiet0 E_good rfl rfl rfl (v := V.bool (decide (v15_1115 < (a0_1036.length : Int)))) (.fn rfl) ?_
    refine SafeOps.nil ?_
    repeat (first | refine Safe.seq ?_ | refine Safe.skip ?_ | with_reducible refine thenQ.n ?_ | with_reducible refine blockQ.n ?_)
    refine ifG h (fun hc1117 h => ?_) (fun hc1117 h => ?_)
    · skip
      refine Safe.condK rfl hc1117 ?_
      repeat (first | refine Safe.seq ?_ | refine Safe.skip ?_ | with_reducible refine thenQ.n ?_ | with_reducible refine blockQ.n ?_)
      refine Safe.block ?_
      repeat (first | refine Safe.seq ?_ | refine Safe.skip ?_ | with_reducible refine thenQ.n ?_ | with_reducible refine blockQ.n ?_)
      refine Safe.region ?_
      refine okG h (fun hb1118 h => ?_)
      refine SafeOps.quiet0 E_good rfl rfl rfl (v := V.spt 3 (rws api_Instr.cells a0_1036) (Int.toNat v15_1115) 0) (.idxSlM (f := api_Instr.cells) rfl rfl rfl rfl rfl hb1118) ?_
      refine SafeOps.quiet0 E_good rfl rfl rfl (v := V.agg [V.int .i64 ((gt a0_1036 v15_1115).Op), V.int .i64 ((gt a0_1036 v15_1115).A), V.int .i64 ((gt a0_1036 v15_1115).B)]) (.load rfl rfl (.sptM (f := api_Instr.cells) hb1118 rfl) rfl) ?_
      refine SafeOps.quiet1 E_good rfl rfl rfl (.alloc rfl rfl) rfl ?_
      refine SafeOps.store (z := Obj.box [V.int .i64 ((gt a0_1036 v15_1115).Op), V.int .i64 ((gt a0_1036 v15_1115).A), V.int .i64 ((gt a0_1036 v15_1115).B)]) E_good rfl rfl rfl rfl rfl rfl rfl (.boxM (c := 3) rfl rfl (Nat.le_of_ble_eq_true rfl) rfl) ?_
      refine SafeOps.nil ?_
      repeat (first | refine Safe.seq ?_ | refine Safe.skip ?_ | with_reducible refine thenQ.n ?_ | with_reducible refine blockQ.n ?_)
      refine Safe.region ?_
      refine SafeOps.quiet0 E_good rfl rfl rfl (v := V.agg [V.int .i64 ((gt a0_1036 v15_1115).Op), V.int .i64 ((gt a0_1036 v15_1115).A), V.int .i64 ((gt a0_1036 v15_1115).B)]) (.load rfl rfl (.box rfl rfl) rfl) ?_
      refine SafeOps.quiet0 E_good rfl rfl rfl (v := V.bool (go_ravelref04_may (gt a0_1036 v15_1115))) (.callP rfl rfl (go_ravelref04_may_sc (gt a0_1036 v15_1115) _ rfl) rfl) ?_
      refine SafeOps.quiet0 E_good rfl rfl rfl (v := V.bool (!(go_ravelref04_may (gt a0_1036 v15_1115)))) (.fn rfl) ?_
      refine SafeOps.nil ?_
      repeat (first | refine Safe.seq ?_ | refine Safe.skip ?_ | with_reducible refine thenQ.n ?_ | with_reducible refine blockQ.n ?_)
      refine ifG h (fun hc1119 h => ?_) (fun hc1119 h => ?_)
      · skip
        refine Safe.condK rfl hc1119 ?_
        repeat (first | refine Safe.seq ?_ | refine Safe.skip ?_ | with_reducible refine thenQ.n ?_ | with_reducible refine blockQ.n ?_)
        refine Safe.region ?_
        refine SafeOps.quiet0 E_good rfl rfl rfl (v := V.int .i64 1) (.fn rfl) ?_
        refine SafeOps.nil ?_
        repeat (first | refine Safe.seq ?_ | refine Safe.skip ?_ | with_reducible refine thenQ.n ?_ | with_reducible refine blockQ.n ?_)
        refine Safe.ret ?_
        repeat (first | with_reducible refine thenQ.r ?_ | with_reducible refine blockQ.r ?_)
        replace h := inr_out h hr1116
        obtain rfl := Option.some.inj h
        exact retQ.gen (vs := [V.int .i64 1]) rfl (.tmp (v := V.int .i64 1) rfl .nil) (.free rfl) (by simp) (.inr rfl)
      · skip
        refine Safe.condN rfl hc1119 ?_
        repeat (first | refine Safe.seq ?_ | refine Safe.skip ?_ | with_reducible refine thenQ.n ?_ | with_reducible refine blockQ.n ?_)
        refine Safe.region ?_
        refine SafeOps.quiet0 E_good rfl rfl rfl (v := V.int .i64 (IntKind.i64.wrap (v15_1115 + 1))) (.fn rfl) ?_
        refine SafeOps.quiet0 E_good rfl rfl rfl (v := V.int .i64 (IntKind.i64.wrap (v15_1115 + 1))) (.fn rfl) ?_
        refine SafeOps.nil ?_
        repeat (first | refine Safe.seq ?_ | refine Safe.skip ?_ | with_reducible refine thenQ.n ?_ | with_reducible refine blockQ.n ?_)
        exact ⟨_, next_out h, (.cov ⟨rfl, rfl, (upT_cons (.refl _) (upT_cons (.refl _) (upT_cons (.refl _) upT_nil))), upOb_nil, upOut_nil, rfl⟩)⟩
    · skip
      refine Safe.condN rfl hc1117 ?_
      repeat (first | refine Safe.seq ?_ | refine Safe.skip ?_ | with_reducible refine thenQ.n ?_ | with_reducible refine blockQ.n ?_)
      refine Safe.exit ?_
      repeat (first | with_reducible refine thenQ.e ?_ | with_reducible refine blockQ.x rfl ?_ | with_reducible refine blockQ.y rfl ?_)
      replace h := inr_out h hr1116
      repeat (first | refine Safe.seq ?_ | refine Safe.skip ?_ | with_reducible refine thenQ.n ?_ | with_reducible refine blockQ.n ?_)
      refine Safe.region ?_
      refine SafeOps.quiet0 E_good rfl rfl rfl (v := V.int .i64 0) (.fn rfl) ?_
      refine SafeOps.nil ?_
      repeat (first | refine Safe.seq ?_ | refine Safe.skip ?_ | with_reducible refine thenQ.n ?_ | with_reducible refine blockQ.n ?_)
      refine Safe.ret ?_
      repeat (first | with_reducible refine thenQ.r ?_ | with_reducible refine blockQ.r ?_)
      obtain rfl := Option.some.inj h
      exact retQ.gen (vs := [V.int .i64 0]) rfl (.tmp (v := V.int .i64 0) rfl .nil) (.free rfl) (by simp) (.inr rfl)

noncomputable def go_ravelref04_Run_s1 (a0_1123 : List api_Instr) : (Int) → Option ((Int) ⊕ (List api_Instr))
  | v7_1149 =>
    if (decide (v7_1149 < (a0_1123.length : Int))) = true then
      if 0 ≤ v7_1149 ∧ v7_1149 < (a0_1123.length : Int) then
        if (((gt a0_1123 v7_1149).Op) == 9) = true then
          if 0 ≤ (IntKind.i64.wrap (v7_1149 + 1)) ∧ (IntKind.i64.wrap (v7_1149 + 1)) ≤ (a0_1123.length : Int) then
            inrO (
              some (sub a0_1123 0 (IntKind.i64.wrap (v7_1149 + 1))))
          else none
        else
          nextO (IntKind.i64.wrap (v7_1149 + 1))
      else none
    else
      inrO (
        some a0_1123)

noncomputable def go_ravelref04_Run (a0_1123 : List api_Instr) : Option (List api_Instr) :=
  whileO (go_ravelref04_Run_s1 a0_1123) 0

theorem go_ravelref04_Run_sc (a0_1123 : List api_Instr) (r : List api_Instr) (h : go_ravelref04_Run a0_1123 = some r) : SC Try.prog gl 32 [V.sl 3 (rws api_Instr.cells a0_1123)] (V.sl 3 (rws api_Instr.cells r)) := by
  rw [go_ravelref04_Run] at h
  refine SC.of E_good Try.func32 rfl (fun _ _ => Try.call32 _ _) rfl ?_
  repeat (first | refine Safe.seq ?_ | refine Safe.skip ?_ | with_reducible refine thenQ.n ?_ | with_reducible refine blockQ.n ?_)
  refine Safe.region ?_
  refine SafeOps.quiet0 E_good rfl rfl rfl (v := V.nils) (.fn rfl) ?_
  refine SafeOps.nil ?_
  repeat (first | refine Safe.seq ?_ | refine Safe.skip ?_ | with_reducible refine thenQ.n ?_ | with_reducible refine blockQ.n ?_)
  refine Safe.region ?_
  refine SafeOps.quiet0 E_good rfl rfl rfl (v := V.sl 3 (rws api_Instr.cells a0_1123)) (.fn rfl) ?_
  refine SafeOps.quiet0 E_good rfl rfl rfl (v := V.int .i64 (a0_1123.length : Int)) (.fnE rfl lenE) ?_
  refine SafeOps.quiet0 E_good rfl rfl rfl (v := V.int .i64 0) (.fn rfl) ?_
  refine SafeOps.nil ?_
  repeat (first | refine Safe.seq ?_ | refine Safe.skip ?_ | with_reducible refine thenQ.n ?_ | with_reducible refine blockQ.n ?_)
  refine Safe.block ?_
  repeat (first | refine Safe.seq ?_ | refine Safe.skip ?_ | with_reducible refine thenQ.n ?_ | with_reducible refine blockQ.n ?_)
  refine Safe.loopW (fun (v7_1149 : Int) => ⟨Try.f32.ntmps, [(0, V.sl 3 (rws api_Instr.cells a0_1123)), (5, V.sl 3 (rws api_Instr.cells a0_1123)), (6, V.int .i64 (a0_1123.length : Int)), (7, V.int .i64 v7_1149)], [], [], []⟩) h (.cov ⟨rfl, rfl, (upT_cons (.refl _) (upT_cons (.refl _) (upT_cons (.refl _) (upT_cons (.refl _) upT_nil)))), upOb_nil, upOut_nil, rfl⟩) ?_
  intro v7_1149 ohr1150 h hr1150
  replace h : go_ravelref04_Run_s1 a0_1123 v7_1149 = some ohr1150 := h
  rw [go_ravelref04_Run_s1] at h
  repeat (first | refine Safe.seq ?_ | refine Safe.skip ?_ | with_reducible refine thenQ.n ?_ | with_reducible refine blockQ.n ?_)
  refine Safe.region ?_
  refine SafeOps.quiet0 E_good rfl rfl rfl (v := V.bool (decide (v7_1149 < (a0_1123.length : Int)))) (.fn rfl) ?_
  refine SafeOps.nil ?_
  repeat (first | refine Safe.seq ?_ | refine Safe.skip ?_ | with_reducible refine thenQ.n ?_ | with_reducible refine blockQ.n ?_)
  refine ifG h (fun hc1151 h => ?_) (fun hc1151 h => ?_)
  · skip
    refine Safe.condK rfl hc1151 ?_
    repeat (first | refine Safe.seq ?_ | refine Safe.skip ?_ | with_reducible refine thenQ.n ?_ | with_reducible refine blockQ.n ?_)
    refine Safe.block ?_
    repeat (first | refine Safe.seq ?_ | refine Safe.skip ?_ | with_reducible refine thenQ.n ?_ | with_reducible refine blockQ.n ?_)
    refine Safe.region ?_
    refine SafeOps.quiet0 E_good rfl rfl rfl (v := V.int .i64 v7_1149) (.fn rfl) ?_
    refine okG h (fun hb1152 h => ?_)
    refine SafeOps.quiet0 E_good rfl rfl rfl (v := V.spt 3 (rws api_Instr.cells a0_1123) (Int.toNat v7_1149) 0) (.idxSlM (f := api_Instr.cells) rfl rfl rfl rfl rfl hb1152) ?_
    refine SafeOps.quiet0 E_good rfl rfl rfl (v := V.agg [V.int .i64 ((gt a0_1123 v7_1149).Op), V.int .i64 ((gt a0_1123 v7_1149).A), V.int .i64 ((gt a0_1123 v7_1149).B)]) (.load rfl rfl (.sptM (f := api_Instr.cells) hb1152 rfl) rfl) ?_
    refine SafeOps.quiet1 E_good rfl rfl rfl (.alloc rfl rfl) rfl ?_
    refine SafeOps.quiet0 E_good rfl rfl rfl (v := V.int .i64 v7_1149) (.fn rfl) ?_
    refine SafeOps.store (z := Obj.box [V.int .i64 ((gt a0_1123 v7_1149).Op), V.int .i64 ((gt a0_1123 v7_1149).A), V.int .i64 ((gt a0_1123 v7_1149).B)]) E_good rfl rfl rfl rfl rfl rfl rfl (.boxM (c := 3) rfl rfl (Nat.le_of_ble_eq_true rfl) rfl) ?_
    refine SafeOps.nil ?_
    repeat (first | refine Safe.seq ?_ | refine Safe.skip ?_ | with_reducible refine thenQ.n ?_ | with_reducible refine blockQ.n ?_)
    refine Safe.region ?_
    refine SafeOps.quiet0 E_good rfl rfl rfl (v := V.ptr [4] 0 0) (.fn rfl) ?_
    refine SafeOps.quiet0 E_good rfl rfl rfl (v := V.int .i64 ((gt a0_1123 v7_1149).Op)) (.load rfl rfl (.box rfl rfl) rfl) ?_
    refine SafeOps.quiet0 E_good rfl rfl rfl (v := V.bool (((gt a0_1123 v7_1149).Op) == 9)) (.fn rfl) ?_
    refine SafeOps.nil ?_
    repeat (first | refine Safe.seq ?_ | refine Safe.skip ?_ | with_reducible refine thenQ.n ?_ | with_reducible refine blockQ.n ?_)
    refine ifG h (fun hc1153 h => ?_) (fun hc1153 h => ?_)
    · skip
      refine Safe.condK rfl hc1153 ?_
      repeat (first | refine Safe.seq ?_ | refine Safe.skip ?_ | with_reducible refine thenQ.n ?_ | with_reducible refine blockQ.n ?_)
      refine Safe.region ?_
      refine SafeOps.quiet0 E_good rfl rfl rfl (v := V.sl 3 (rws api_Instr.cells a0_1123)) (.fn rfl) ?_
      refine SafeOps.quiet0 E_good rfl rfl rfl (v := V.int .i64 v7_1149) (.fn rfl) ?_
      refine SafeOps.quiet0 E_good rfl rfl rfl (v := V.int .i64 (IntKind.i64.wrap (v7_1149 + 1))) (.fn rfl) ?_
      refine okG h (fun hb1154 h => ?_)
      refine SafeOps.quiet0 E_good rfl rfl rfl (v := V.sl 3 (rws api_Instr.cells (sub a0_1123 0 (IntKind.i64.wrap (v7_1149 + 1))))) (.slH (f := api_Instr.cells) rfl rfl rfl rfl rfl hb1154) ?_
      refine SafeOps.quiet0 E_good rfl rfl rfl (v := V.sl 3 (rws api_Instr.cells (sub a0_1123 0 (IntKind.i64.wrap (v7_1149 + 1))))) (.fn rfl) ?_
      refine SafeOps.nil ?_
      repeat (first | refine Safe.seq ?_ | refine Safe.skip ?_ | with_reducible refine thenQ.n ?_ | with_reducible refine blockQ.n ?_)
      refine Safe.ret ?_
      repeat (first | with_reducible refine thenQ.r ?_ | with_reducible refine blockQ.r ?_)
      replace h := inr_out h hr1150
      obtain rfl := Option.some.inj h
      exact retQ.gen (vs := [V.sl 3 (rws api_Instr.cells (sub a0_1123 0 (IntKind.i64.wrap (v7_1149 + 1))))]) rfl (.tmp (v := V.sl 3 (rws api_Instr.cells (sub a0_1123 0 (IntKind.i64.wrap (v7_1149 + 1))))) rfl .nil) (.free rfl) (by simp) (.inr rfl)
    · skip
      refine Safe.condN rfl hc1153 ?_
      repeat (first | refine Safe.seq ?_ | refine Safe.skip ?_ | with_reducible refine thenQ.n ?_ | with_reducible refine blockQ.n ?_)
      refine Safe.region ?_
      refine SafeOps.quiet0 E_good rfl rfl rfl (v := V.int .i64 (IntKind.i64.wrap (v7_1149 + 1))) (.fn rfl) ?_
      refine SafeOps.quiet0 E_good rfl rfl rfl (v := V.int .i64 (IntKind.i64.wrap (v7_1149 + 1))) (.fn rfl) ?_
      refine SafeOps.nil ?_
      repeat (first | refine Safe.seq ?_ | refine Safe.skip ?_ | with_reducible refine thenQ.n ?_ | with_reducible refine blockQ.n ?_)
      exact ⟨_, next_out h, (.cov ⟨rfl, rfl, (upT_cons (.refl _) (upT_cons (.refl _) (upT_cons (.refl _) (upT_cons (.refl _) upT_nil)))), upOb_nil, upOut_nil, rfl⟩)⟩
  · skip
    refine Safe.condN rfl hc1151 ?_
    repeat (first | refine Safe.seq ?_ | refine Safe.skip ?_ | with_reducible refine thenQ.n ?_ | with_reducible refine blockQ.n ?_)
    refine Safe.exit ?_
    repeat (first | with_reducible refine thenQ.e ?_ | with_reducible refine blockQ.x rfl ?_ | with_reducible refine blockQ.y rfl ?_)
    replace h := inr_out h hr1150
    repeat (first | refine Safe.seq ?_ | refine Safe.skip ?_ | with_reducible refine thenQ.n ?_ | with_reducible refine blockQ.n ?_)
    refine Safe.region ?_
    refine SafeOps.quiet0 E_good rfl rfl rfl (v := V.sl 3 (rws api_Instr.cells a0_1123)) (.fn rfl) ?_
    refine SafeOps.quiet0 E_good rfl rfl rfl (v := V.sl 3 (rws api_Instr.cells a0_1123)) (.fn rfl) ?_
    refine SafeOps.nil ?_
    repeat (first | refine Safe.seq ?_ | refine Safe.skip ?_ | with_reducible refine thenQ.n ?_ | with_reducible refine blockQ.n ?_)
    refine Safe.ret ?_
    repeat (first | with_reducible refine thenQ.r ?_ | with_reducible refine blockQ.r ?_)
    obtain rfl := Option.some.inj h
    exact retQ.gen (vs := [V.sl 3 (rws api_Instr.cells a0_1123)]) rfl (.tmp (v := V.sl 3 (rws api_Instr.cells a0_1123)) rfl .nil) (.free rfl) (by simp) (.inr rfl)

noncomputable def go_ravelref04_Units_s1 (x_1174 : List api_Instr) : (Int × Int) → Option ((Int × Int) ⊕ (Int × Int))
  | (v4_1184, v13_1185) =>
    if (decide (v13_1185 < (x_1174.length : Int))) = true then
      if 0 ≤ v13_1185 ∧ v13_1185 < (x_1174.length : Int) then
        if (((gt x_1174 v13_1185).Op) == 1) = true then
          nextO (IntKind.i64.wrap (v4_1184 + ((gt x_1174 v13_1185).A)), IntKind.i64.wrap (v13_1185 + 1))
        else
          nextO (IntKind.i64.wrap (v4_1184 + 1), IntKind.i64.wrap (v13_1185 + 1))
      else none
    else
      inrO (
        some (v4_1184, 0))

noncomputable def go_ravelref04_Units (a0_1035 : List api_Instr) : Option (Int × Int) :=
  (go_ravelref04_Check a0_1035).bind fun x_1171 =>
  if (x_1171 != 0) = true then
    some (0, 1)
  else
    (go_ravelref04_Run a0_1035).bind fun x_1174 =>
    whileO (go_ravelref04_Units_s1 x_1174) (0, 0)

theorem go_ravelref04_Units_sc (a0_1035 : List api_Instr) (r : Int × Int) (h : go_ravelref04_Units a0_1035 = some r) : SC Try.prog gl 16 [V.sl 3 (rws api_Instr.cells a0_1035)] (V.tup [V.int .i64 r.1, V.int .i64 r.2]) := by
  rw [go_ravelref04_Units] at h
  refine SC.of E_good Try.func16 rfl (fun _ _ => Try.call16 _ _) rfl ?_
  repeat (first | refine Safe.seq ?_ | refine Safe.skip ?_ | with_reducible refine thenQ.n ?_ | with_reducible refine blockQ.n ?_)
  refine Safe.region ?_
  refine SafeOps.quiet0 E_good rfl rfl rfl (v := V.int .i64 0) (.fn rfl) ?_
  refine SafeOps.quiet0 E_good rfl rfl rfl (v := V.int .i64 0) (.fn rfl) ?_
  refine SafeOps.nil ?_
  repeat (first | refine Safe.seq ?_ | refine Safe.skip ?_ | with_reducible refine thenQ.n ?_ | with_reducible refine blockQ.n ?_)
  refine Safe.region ?_
  refine SafeOps.quiet0 E_good rfl rfl rfl (v := V.sl 3 (rws api_Instr.cells a0_1035)) (.fn rfl) ?_
  refine bindG h ?_
  intro x_1171 he1172 h
  refine SafeOps.quiet0 E_good rfl rfl rfl (v := V.int .i64 x_1171) (.callP rfl rfl (go_ravelref04_Check_sc a0_1035 _ he1172) rfl) ?_
  refine SafeOps.quiet0 E_good rfl rfl rfl (v := V.bool (x_1171 != 0)) (.fn rfl) ?_
  refine SafeOps.nil ?_
  repeat (first | refine Safe.seq ?_ | refine Safe.skip ?_ | with_reducible refine thenQ.n ?_ | with_reducible refine blockQ.n ?_)
  refine ifG h (fun hc1173 h => ?_) (fun hc1173 h => ?_)
  · skip
    refine Safe.condK rfl hc1173 ?_
    repeat (first | refine Safe.seq ?_ | refine Safe.skip ?_ | with_reducible refine thenQ.n ?_ | with_reducible refine blockQ.n ?_)
    refine Safe.region ?_
    refine SafeOps.quiet0 E_good rfl rfl rfl (v := V.int .i64 0) (.fn rfl) ?_
    refine SafeOps.quiet0 E_good rfl rfl rfl (v := V.int .i64 1) (.fn rfl) ?_
    refine SafeOps.nil ?_
    repeat (first | refine Safe.seq ?_ | refine Safe.skip ?_ | with_reducible refine thenQ.n ?_ | with_reducible refine blockQ.n ?_)
    refine Safe.ret ?_
    repeat (first | with_reducible refine thenQ.r ?_ | with_reducible refine blockQ.r ?_)
    obtain rfl := Option.some.inj h
    exact retQ.gen (vs := [V.int .i64 0, V.int .i64 1]) rfl (.tmp (v := V.int .i64 0) rfl (.tmp (v := V.int .i64 1) rfl .nil)) (.free rfl) (by simp) (.inr rfl)
  · skip
    refine Safe.condN rfl hc1173 ?_
    repeat (first | refine Safe.seq ?_ | refine Safe.skip ?_ | with_reducible refine thenQ.n ?_ | with_reducible refine blockQ.n ?_)
    refine Safe.region ?_
    refine SafeOps.quiet0 E_good rfl rfl rfl (v := V.int .i64 0) (.fn rfl) ?_
    refine SafeOps.nil ?_
    repeat (first | refine Safe.seq ?_ | refine Safe.skip ?_ | with_reducible refine thenQ.n ?_ | with_reducible refine blockQ.n ?_)
    refine Safe.region ?_
    refine SafeOps.quiet0 E_good rfl rfl rfl (v := V.sl 3 (rws api_Instr.cells a0_1035)) (.fn rfl) ?_
    refine bindG h ?_
    intro x_1174 he1175 h
    refine SafeOps.quiet0 E_good rfl rfl rfl (v := V.sl 3 (rws api_Instr.cells x_1174)) (.callP rfl rfl (go_ravelref04_Run_sc a0_1035 _ he1175) rfl) ?_
    refine SafeOps.quiet0 E_good rfl rfl rfl (v := V.int .i64 (x_1174.length : Int)) (.fnE rfl lenE) ?_
    refine SafeOps.quiet0 E_good rfl rfl rfl (v := V.int .i64 0) (.fn rfl) ?_
    refine SafeOps.nil ?_
    repeat (first | refine Safe.seq ?_ | refine Safe.skip ?_ | with_reducible refine thenQ.n ?_ | with_reducible refine blockQ.n ?_)
    refine Safe.block ?_
    repeat (first | refine Safe.seq ?_ | refine Safe.skip ?_ | with_reducible refine thenQ.n ?_ | with_reducible refine blockQ.n ?_)
    refine Safe.loopW (fun ((v4_1184, v13_1185) : Int × Int) => ⟨Try.f16.ntmps, [(4, V.int .i64 v4_1184), (11, V.sl 3 (rws api_Instr.cells x_1174)), (12, V.int .i64 (x_1174.length : Int)), (13, V.int .i64 v13_1185)], [], [], []⟩) h (.cov ⟨rfl, rfl, (upT_cons (.refl _) (upT_cons (.refl _) (upT_cons (.refl _) (upT_cons (.refl _) upT_nil)))), upOb_nil, upOut_nil, rfl⟩) ?_
    rintro ⟨v4_1184, v13_1185⟩ ohr1186 h hr1186
    replace h : go_ravelref04_Units_s1 x_1174 (v4_1184, v13_1185) = some ohr1186 := h
    rw [go_ravelref04_Units_s1] at h
    repeat (first | refine Safe.seq ?_ | refine Safe.skip ?_ | with_reducible refine thenQ.n ?_ | with_reducible refine blockQ.n ?_)
    refine Safe.region ?_
    refine SafeOps.quiet0 E_good rfl rfl rfl (v := V.bool (decide (v13_1185 < (x_1174.length : Int)))) (.fn rfl) ?_
    refine SafeOps.nil ?_
    repeat (first | refine Safe.seq ?_ | refine Safe.skip ?_ | with_reducible refine thenQ.n ?_ | with_reducible refine blockQ.n ?_)
    refine ifG h (fun hc1187 h => ?_) (fun hc1187 h => ?_)
    · skip
      refine Safe.condK rfl hc1187 ?_
      repeat (first | refine Safe.seq ?_ | refine Safe.skip ?_ | with_reducible refine thenQ.n ?_ | with_reducible refine blockQ.n ?_)
      refine Safe.block ?_
      repeat (first | refine Safe.seq ?_ | refine Safe.skip ?_ | with_reducible refine thenQ.n ?_ | with_reducible refine blockQ.n ?_)
      refine Safe.region ?_
      refine okG h (fun hb1188 h => ?_)
      refine SafeOps.quiet0 E_good rfl rfl rfl (v := V.spt 3 (rws api_Instr.cells x_1174) (Int.toNat v13_1185) 0) (.idxSlM (f := api_Instr.cells) rfl rfl rfl rfl rfl hb1188) ?_
      refine SafeOps.quiet0 E_good rfl rfl rfl (v := V.agg [V.int .i64 ((gt x_1174 v13_1185).Op), V.int .i64 ((gt x_1174 v13_1185).A), V.int .i64 ((gt x_1174 v13_1185).B)]) (.load rfl rfl (.sptM (f := api_Instr.cells) hb1188 rfl) rfl) ?_
      refine SafeOps.quiet1 E_good rfl rfl rfl (.alloc rfl rfl) rfl ?_
      refine SafeOps.store (z := Obj.box [V.int .i64 ((gt x_1174 v13_1185).Op), V.int .i64 ((gt x_1174 v13_1185).A), V.int .i64 ((gt x_1174 v13_1185).B)]) E_good rfl rfl rfl rfl rfl rfl rfl (.boxM (c := 3) rfl rfl (Nat.le_of_ble_eq_true rfl) rfl) ?_
      refine SafeOps.nil ?_
      repeat (first | refine Safe.seq ?_ | refine Safe.skip ?_ | with_reducible refine thenQ.n ?_ | with_reducible refine blockQ.n ?_)
      refine Safe.region ?_
      refine SafeOps.quiet0 E_good rfl rfl rfl (v := V.ptr [6] 0 0) (.fn rfl) ?_
      refine SafeOps.quiet0 E_good rfl rfl rfl (v := V.int .i64 ((gt x_1174 v13_1185).Op)) (.load rfl rfl (.box rfl rfl) rfl) ?_
      refine SafeOps.quiet0 E_good rfl rfl rfl (v := V.bool (((gt x_1174 v13_1185).Op) == 1)) (.fn rfl) ?_
      refine SafeOps.nil ?_
      repeat (first | refine Safe.seq ?_ | refine Safe.skip ?_ | with_reducible refine thenQ.n ?_ | with_reducible refine blockQ.n ?_)
      refine ifG h (fun hc1189 h => ?_) (fun hc1189 h => ?_)
      · skip
        refine Safe.condK rfl hc1189 ?_
        repeat (first | refine Safe.seq ?_ | refine Safe.skip ?_ | with_reducible refine thenQ.n ?_ | with_reducible refine blockQ.n ?_)
        refine Safe.region ?_
        refine SafeOps.quiet0 E_good rfl rfl rfl (v := V.int .i64 v4_1184) (.fn rfl) ?_
        refine SafeOps.quiet0 E_good rfl rfl rfl (v := V.ptr [6] 0 1) (.fn rfl) ?_
        refine SafeOps.quiet0 E_good rfl rfl rfl (v := V.int .i64 ((gt x_1174 v13_1185).A)) (.load rfl rfl (.box rfl rfl) rfl) ?_
        refine SafeOps.quiet0 E_good rfl rfl rfl (v := V.int .i64 (IntKind.i64.wrap (v4_1184 + ((gt x_1174 v13_1185).A)))) (.fn rfl) ?_
        refine SafeOps.quiet0 E_good rfl rfl rfl (v := V.int .i64 (IntKind.i64.wrap (v4_1184 + ((gt x_1174 v13_1185).A)))) (.fn rfl) ?_
        refine SafeOps.nil ?_
        repeat (first | refine Safe.seq ?_ | refine Safe.skip ?_ | with_reducible refine thenQ.n ?_ | with_reducible refine blockQ.n ?_)
        refine Safe.region ?_
        refine SafeOps.quiet0 E_good rfl rfl rfl (v := V.int .i64 (IntKind.i64.wrap (v13_1185 + 1))) (.fn rfl) ?_
        refine SafeOps.quiet0 E_good rfl rfl rfl (v := V.int .i64 (IntKind.i64.wrap (v13_1185 + 1))) (.fn rfl) ?_
        refine SafeOps.nil ?_
        repeat (first | refine Safe.seq ?_ | refine Safe.skip ?_ | with_reducible refine thenQ.n ?_ | with_reducible refine blockQ.n ?_)
        exact ⟨_, next_out h, (.cov ⟨rfl, rfl, (upT_cons (.refl _) (upT_cons (.refl _) (upT_cons (.refl _) (upT_cons (.refl _) upT_nil)))), upOb_nil, upOut_nil, rfl⟩)⟩
      · skip
        refine Safe.condN rfl hc1189 ?_
        repeat (first | refine Safe.seq ?_ | refine Safe.skip ?_ | with_reducible refine thenQ.n ?_ | with_reducible refine blockQ.n ?_)
        refine Safe.region ?_
        refine SafeOps.quiet0 E_good rfl rfl rfl (v := V.int .i64 v4_1184) (.fn rfl) ?_
        refine SafeOps.quiet0 E_good rfl rfl rfl (v := V.int .i64 (IntKind.i64.wrap (v4_1184 + 1))) (.fn rfl) ?_
        refine SafeOps.quiet0 E_good rfl rfl rfl (v := V.int .i64 (IntKind.i64.wrap (v4_1184 + 1))) (.fn rfl) ?_
        refine SafeOps.nil ?_
        repeat (first | refine Safe.seq ?_ | refine Safe.skip ?_ | with_reducible refine thenQ.n ?_ | with_reducible refine blockQ.n ?_)
        refine Safe.region ?_
        refine SafeOps.quiet0 E_good rfl rfl rfl (v := V.int .i64 (IntKind.i64.wrap (v13_1185 + 1))) (.fn rfl) ?_
        refine SafeOps.quiet0 E_good rfl rfl rfl (v := V.int .i64 (IntKind.i64.wrap (v13_1185 + 1))) (.fn rfl) ?_
        refine SafeOps.nil ?_
        repeat (first | refine Safe.seq ?_ | refine Safe.skip ?_ | with_reducible refine thenQ.n ?_ | with_reducible refine blockQ.n ?_)
        exact ⟨_, next_out h, (.cov ⟨rfl, rfl, (upT_cons (.refl _) (upT_cons (.refl _) (upT_cons (.refl _) (upT_cons (.refl _) upT_nil)))), upOb_nil, upOut_nil, rfl⟩)⟩
    · skip
      refine Safe.condN rfl hc1187 ?_
      repeat (first | refine Safe.seq ?_ | refine Safe.skip ?_ | with_reducible refine thenQ.n ?_ | with_reducible refine blockQ.n ?_)
      refine Safe.exit ?_
      repeat (first | with_reducible refine thenQ.e ?_ | with_reducible refine blockQ.x rfl ?_ | with_reducible refine blockQ.y rfl ?_)
      replace h := inr_out h hr1186
      repeat (first | refine Safe.seq ?_ | refine Safe.skip ?_ | with_reducible refine thenQ.n ?_ | with_reducible refine blockQ.n ?_)
      refine Safe.region ?_
      refine SafeOps.quiet0 E_good rfl rfl rfl (v := V.int .i64 v4_1184) (.fn rfl) ?_
      refine SafeOps.quiet0 E_good rfl rfl rfl (v := V.int .i64 v4_1184) (.fn rfl) ?_
      refine SafeOps.quiet0 E_good rfl rfl rfl (v := V.int .i64 0) (.fn rfl) ?_
      refine SafeOps.nil ?_
      repeat (first | refine Safe.seq ?_ | refine Safe.skip ?_ | with_reducible refine thenQ.n ?_ | with_reducible refine blockQ.n ?_)
      refine Safe.ret ?_
      repeat (first | with_reducible refine thenQ.r ?_ | with_reducible refine blockQ.r ?_)
      obtain rfl := Option.some.inj h
      exact retQ.gen (vs := [V.int .i64 v4_1184, V.int .i64 0]) rfl (.tmp (v := V.int .i64 v4_1184) rfl (.tmp (v := V.int .i64 0) rfl .nil)) (.free rfl) (by simp) (.inr rfl)

noncomputable def go_ravelref04_CheckAll_s4 (a0_1310 : List (List api_Instr)) (v17_1424 : Int) : (Int) → Option ((Int) ⊕ ((Int) ⊕ (Int)))
  | v26_1440 =>
    if (decide (v26_1440 < ((gt a0_1310 v17_1424).length : Int))) = true then
      if 0 ≤ v26_1440 ∧ v26_1440 < ((gt a0_1310 v17_1424).length : Int) then
        if ((((gt (gt a0_1310 v17_1424) v26_1440).Op) == 2) && (decide (((gt (gt a0_1310 v17_1424) v26_1440).A) ≥ (a0_1310.length : Int)))) = true then
          inrO (
            inrO (
              some 1))
        else
          nextO (IntKind.i64.wrap (v26_1440 + 1))
      else none
    else
      inrO (
        nextO (IntKind.i64.wrap (v17_1424 + 1)))

noncomputable def go_ravelref04_CheckAll_s3 (a0_1310 : List (List api_Instr)) : (Int) → Option ((Int) ⊕ (Int))
  | v17_1424 =>
    if (decide (v17_1424 < (a0_1310.length : Int))) = true then
      if 0 ≤ v17_1424 ∧ v17_1424 < (a0_1310.length : Int) then
        (go_ravelref04_Check (gt a0_1310 v17_1424)).bind fun x_1428 =>
        if (x_1428 != 0) = true then
          inrO (
            some 1)
        else
          whileO (go_ravelref04_CheckAll_s4 a0_1310 v17_1424) 0
      else none
    else
      inrO (
        some 0)

noncomputable def go_ravelref04_CheckAll (a0_1310 : List (List api_Instr)) : Option Int :=
  if ((decide ((a0_1310.length : Int) < 1)) || (decide ((a0_1310.length : Int) > 16))) = true then
    some 1
  else
    whileO (go_ravelref04_CheckAll_s3 a0_1310) 0

theorem go_ravelref04_CheckAll_sc (a0_1310 : List (List api_Instr)) (r : Int) (h : go_ravelref04_CheckAll a0_1310 = some r) : SC Try.prog gl 19 [V.sl 1 (rws (fun l => [V.sl 3 (rws api_Instr.cells l)]) a0_1310)] (V.int .i64 r) := by
  rw [go_ravelref04_CheckAll] at h
  refine SC.of E_good Try.func19 rfl (fun _ _ => Try.call19 _ _) rfl ?_
  repeat (first | refine Safe.seq ?_ | refine Safe.skip ?_ | with_reducible refine thenQ.n ?_ | with_reducible refine blockQ.n ?_)
  refine Safe.region ?_
  refine SafeOps.quiet0 E_good rfl rfl rfl (v := V.int .i64 0) (.fn rfl) ?_
  refine SafeOps.nil ?_
  repeat (first | refine Safe.seq ?_ | refine Safe.skip ?_ | with_reducible refine thenQ.n ?_ | with_reducible refine blockQ.n ?_)
  refine Safe.region ?_
  refine SafeOps.quiet0 E_good rfl rfl rfl (v := V.sl 1 (rws (fun l => [V.sl 3 (rws api_Instr.cells l)]) a0_1310)) (.fn rfl) ?_
  refine SafeOps.quiet0 E_good rfl rfl rfl (v := V.int .i64 (a0_1310.length : Int)) (.fnE rfl lenE) ?_
  refine SafeOps.quiet0 E_good rfl rfl rfl (v := V.bool (decide ((a0_1310.length : Int) < 1))) (.fn rfl) ?_
  refine SafeOps.quiet0 E_good rfl rfl rfl (v := V.bool (decide ((a0_1310.length : Int) < 1))) (.fn rfl) ?_
  refine SafeOps.bjoin 4 14 (b := ((decide ((a0_1310.length : Int) < 1)) || (decide ((a0_1310.length : Int) > 16)))) (b1 := true) (b0 := decide ((a0_1310.length : Int) > 16)) (fun hc1381 K => ?_) (fun hc1381 K => ?_) bj_or ?_
  · skip
    refine SafeOps.skip (congrArg (fun b => some (!b)) hc1381) rfl rfl ?_
    refine SafeOps.skip (congrArg (fun b => some (!b)) hc1381) rfl rfl ?_
    refine SafeOps.skip (congrArg (fun b => some (!b)) hc1381) rfl rfl ?_
    refine SafeOps.quiet0 E_good rfl rfl rfl (v := V.bool true) (.pickK rfl hc1381 rfl) ?_
    exact SafeOps.drop' 4 rfl rfl rfl K
  · skip
    refine SafeOps.quiet0 E_good (congrArg (fun b => some (!b)) hc1381) rfl rfl (v := V.sl 1 (rws (fun l => [V.sl 3 (rws api_Instr.cells l)]) a0_1310)) (.fn rfl) ?_
    refine SafeOps.quiet0 E_good (congrArg (fun b => some (!b)) hc1381) rfl rfl (v := V.int .i64 (a0_1310.length : Int)) (.fnE rfl lenE) ?_
    refine SafeOps.quiet0 E_good (congrArg (fun b => some (!b)) hc1381) rfl rfl (v := V.bool (decide ((a0_1310.length : Int) > 16))) (.fn rfl) ?_
    refine SafeOps.quiet0 E_good rfl rfl rfl (v := V.bool (decide ((a0_1310.length : Int) > 16))) (.pickK rfl hc1381 rfl) ?_
    exact SafeOps.drop' 4 rfl rfl rfl K
  refine SafeOps.nil ?_
  repeat (first | refine Safe.seq ?_ | refine Safe.skip ?_ | with_reducible refine thenQ.n ?_ | with_reducible refine blockQ.n ?_)
  refine ifG h (fun hc1382 h => ?_) (fun hc1382 h => ?_)
  · skip
    refine Safe.condK rfl hc1382 ?_
    repeat (first | refine Safe.seq ?_ | refine Safe.skip ?_ | with_reducible refine thenQ.n ?_ | with_reducible refine blockQ.n ?_)
    refine Safe.region ?_
    refine SafeOps.quiet0 E_good rfl rfl rfl (v := V.int .i64 1) (.fn rfl) ?_
    refine SafeOps.nil ?_
    repeat (first | refine Safe.seq ?_ | refine Safe.skip ?_ | with_reducible refine thenQ.n ?_ | with_reducible refine blockQ.n ?_)
    refine Safe.ret ?_
    repeat (first | with_reducible refine thenQ.r ?_ | with_reducible refine blockQ.r ?_)
    obtain rfl := Option.some.inj h
    exact retQ.gen (vs := [V.int .i64 1]) rfl (.tmp (v := V.int .i64 1) rfl .nil) (.free rfl) (by simp) (.inr rfl)
  · skip
    refine Safe.condN rfl hc1382 ?_
    repeat (first | refine Safe.seq ?_ | refine Safe.skip ?_ | with_reducible refine thenQ.n ?_ | with_reducible refine blockQ.n ?_)
    refine Safe.region ?_
    refine SafeOps.quiet0 E_good rfl rfl rfl (v := V.sl 1 (rws (fun l => [V.sl 3 (rws api_Instr.cells l)]) a0_1310)) (.fn rfl) ?_
    refine SafeOps.quiet0 E_good rfl rfl rfl (v := V.int .i64 (a0_1310.length : Int)) (.fnE rfl lenE) ?_
    refine SafeOps.quiet0 E_good rfl rfl rfl (v := V.int .i64 0) (.fn rfl) ?_
    refine SafeOps.nil ?_
    repeat (first | refine Safe.seq ?_ | refine Safe.skip ?_ | with_reducible refine thenQ.n ?_ | with_reducible refine blockQ.n ?_)
    refine Safe.block ?_
    repeat (first | refine Safe.seq ?_ | refine Safe.skip ?_ | with_reducible refine thenQ.n ?_ | with_reducible refine blockQ.n ?_)
    refine Safe.loopW (fun (v17_1424 : Int) => ⟨Try.f19.ntmps, [(0, V.sl 1 (rws (fun l => [V.sl 3 (rws api_Instr.cells l)]) a0_1310)), (15, V.sl 1 (rws (fun l => [V.sl 3 (rws api_Instr.cells l)]) a0_1310)), (16, V.int .i64 (a0_1310.length : Int)), (17, V.int .i64 v17_1424)], [], [], []⟩) h (.cov ⟨rfl, rfl, (upT_cons (.refl _) (upT_cons (.refl _) (upT_cons (.refl _) (upT_cons (.refl _) upT_nil)))), upOb_nil, upOut_nil, rfl⟩) ?_
    intro v17_1424 ohr1425 h hr1425
    replace h : go_ravelref04_CheckAll_s3 a0_1310 v17_1424 = some ohr1425 := h
    rw [go_ravelref04_CheckAll_s3] at h
    repeat (first | refine Safe.seq ?_ | refine Safe.skip ?_ | with_reducible refine thenQ.n ?_ | with_reducible refine blockQ.n ?_)
    refine Safe.region ?_
    refine SafeOps.quiet0 E_good rfl rfl rfl (v := V.bool (decide (v17_1424 < (a0_1310.length : Int)))) (.fn rfl) ?_
    refine SafeOps.nil ?_
    repeat (first | refine Safe.seq ?_ | refine Safe.skip ?_ | with_reducible refine thenQ.n ?_ | with_reducible refine blockQ.n ?_)
    refine ifG h (fun hc1426 h => ?_) (fun hc1426 h => ?_)
    · skip
      refine Safe.condK rfl hc1426 ?_
      repeat (first | refine Safe.seq ?_ | refine Safe.skip ?_ | with_reducible refine thenQ.n ?_ | with_reducible refine blockQ.n ?_)
      refine Safe.block ?_
      repeat (first | refine Safe.seq ?_ | refine Safe.skip ?_ | with_reducible refine thenQ.n ?_ | with_reducible refine blockQ.n ?_)
      refine Safe.region ?_
      refine okG h (fun hb1427 h => ?_)
      refine SafeOps.quiet0 E_good rfl rfl rfl (v := V.spt 1 (rws (fun l => [V.sl 3 (rws api_Instr.cells l)]) a0_1310) (Int.toNat v17_1424) 0) (.idxSlM (f := (fun l => [V.sl 3 (rws api_Instr.cells l)])) rfl rfl rfl rfl rfl hb1427) ?_
      refine SafeOps.quiet0 E_good rfl rfl rfl (v := V.sl 3 (rws api_Instr.cells (gt a0_1310 v17_1424))) (.load rfl rfl (.sptM (f := (fun l => [V.sl 3 (rws api_Instr.cells l)])) hb1427 rfl) rfl) ?_
      refine SafeOps.quiet0 E_good rfl rfl rfl (v := V.sl 3 (rws api_Instr.cells (gt a0_1310 v17_1424))) (.fn rfl) ?_
      refine SafeOps.nil ?_
      repeat (first | refine Safe.seq ?_ | refine Safe.skip ?_ | with_reducible refine thenQ.n ?_ | with_reducible refine blockQ.n ?_)
      refine Safe.region ?_
      refine SafeOps.quiet0 E_good rfl rfl rfl (v := V.sl 3 (rws api_Instr.cells (gt a0_1310 v17_1424))) (.fn rfl) ?_
      refine bindG h ?_
      intro x_1428 he1429 h
      refine SafeOps.quiet0 E_good rfl rfl rfl (v := V.int .i64 x_1428) (.callP rfl rfl (go_ravelref04_Check_sc (gt a0_1310 v17_1424) _ he1429) rfl) ?_
      refine SafeOps.quiet0 E_good rfl rfl rfl (v := V.bool (x_1428 != 0)) (.fn rfl) ?_
      refine SafeOps.nil ?_
      repeat (first | refine Safe.seq ?_ | refine Safe.skip ?_ | with_reducible refine thenQ.n ?_ | with_reducible refine blockQ.n ?_)
      refine ifG h (fun hc1430 h => ?_) (fun hc1430 h => ?_)
      · skip
        refine Safe.condK rfl hc1430 ?_
        repeat (first | refine Safe.seq ?_ | refine Safe.skip ?_ | with_reducible refine thenQ.n ?_ | with_reducible refine blockQ.n ?_)
        refine Safe.region ?_
        refine SafeOps.quiet0 E_good rfl rfl rfl (v := V.int .i64 1) (.fn rfl) ?_
        refine SafeOps.nil ?_
        repeat (first | refine Safe.seq ?_ | refine Safe.skip ?_ | with_reducible refine thenQ.n ?_ | with_reducible refine blockQ.n ?_)
        refine Safe.ret ?_
        repeat (first | with_reducible refine thenQ.r ?_ | with_reducible refine blockQ.r ?_)
        replace h := inr_out h hr1425
        obtain rfl := Option.some.inj h
        exact retQ.gen (vs := [V.int .i64 1]) rfl (.tmp (v := V.int .i64 1) rfl .nil) (.free rfl) (by simp) (.inr rfl)
      · skip
        refine Safe.condN rfl hc1430 ?_
        repeat (first | refine Safe.seq ?_ | refine Safe.skip ?_ | with_reducible refine thenQ.n ?_ | with_reducible refine blockQ.n ?_)
        refine Safe.region ?_
        refine SafeOps.quiet0 E_good rfl rfl rfl (v := V.sl 3 (rws api_Instr.cells (gt a0_1310 v17_1424))) (.fn rfl) ?_
        refine SafeOps.quiet0 E_good rfl rfl rfl (v := V.int .i64 ((gt a0_1310 v17_1424).length : Int)) (.fnE rfl lenE) ?_
        refine SafeOps.quiet0 E_good rfl rfl rfl (v := V.int .i64 0) (.fn rfl) ?_
        refine SafeOps.nil ?_
        repeat (first | refine Safe.seq ?_ | refine Safe.skip ?_ | with_reducible refine thenQ.n ?_ | with_reducible refine blockQ.n ?_)
        refine Safe.block ?_
        repeat (first | refine Safe.seq ?_ | refine Safe.skip ?_ | with_reducible refine thenQ.n ?_ | with_reducible refine blockQ.n ?_)
        refine Safe.loopW (fun (v26_1440 : Int) => ⟨Try.f19.ntmps, [(0, V.sl 1 (rws (fun l => [V.sl 3 (rws api_Instr.cells l)]) a0_1310)), (15, V.sl 1 (rws (fun l => [V.sl 3 (rws api_Instr.cells l)]) a0_1310)), (16, V.int .i64 (a0_1310.length : Int)), (17, V.int .i64 v17_1424), (24, V.sl 3 (rws api_Instr.cells (gt a0_1310 v17_1424))), (25, V.int .i64 ((gt a0_1310 v17_1424).length : Int)), (26, V.int .i64 v26_1440)], [], [], []⟩) h (.cov ⟨rfl, rfl, (upT_cons (.refl _) (upT_cons (.refl _) (upT_cons (.refl _) (upT_cons (.refl _) (upT_cons (.refl _) (upT_cons (.refl _) (upT_cons (.refl _) upT_nil))))))), upOb_nil, upOut_nil, rfl⟩) ?_
        intro v26_1440 ohr1441 h hr1441
        replace h : go_ravelref04_CheckAll_s4 a0_1310 v17_1424 v26_1440 = some ohr1441 := h
        rw [go_ravelref04_CheckAll_s4] at h
        repeat (first | refine Safe.seq ?_ | refine Safe.skip ?_ | with_reducible refine thenQ.n ?_ | with_reducible refine blockQ.n ?_)
        refine Safe.region ?_
        refine SafeOps.quiet0 E_good rfl rfl rfl (v := V.bool (decide (v26_1440 < ((gt a0_1310 v17_1424).length : Int)))) (.fn rfl) ?_
        refine SafeOps.nil ?_
        repeat (first | refine Safe.seq ?_ | refine Safe.skip ?_ | with_reducible refine thenQ.n ?_ | with_reducible refine blockQ.n ?_)
        refine ifG h (fun hc1442 h => ?_) (fun hc1442 h => ?_)
        · skip
          refine Safe.condK rfl hc1442 ?_
          repeat (first | refine Safe.seq ?_ | refine Safe.skip ?_ | with_reducible refine thenQ.n ?_ | with_reducible refine blockQ.n ?_)
          refine Safe.block ?_
          repeat (first | refine Safe.seq ?_ | refine Safe.skip ?_ | with_reducible refine thenQ.n ?_ | with_reducible refine blockQ.n ?_)
          refine Safe.region ?_
          refine okG h (fun hb1443 h => ?_)
          refine SafeOps.quiet0 E_good rfl rfl rfl (v := V.spt 3 (rws api_Instr.cells (gt a0_1310 v17_1424)) (Int.toNat v26_1440) 0) (.idxSlM (f := api_Instr.cells) rfl rfl rfl rfl rfl hb1443) ?_
          refine SafeOps.quiet0 E_good rfl rfl rfl (v := V.agg [V.int .i64 ((gt (gt a0_1310 v17_1424) v26_1440).Op), V.int .i64 ((gt (gt a0_1310 v17_1424) v26_1440).A), V.int .i64 ((gt (gt a0_1310 v17_1424) v26_1440).B)]) (.load rfl rfl (.sptM (f := api_Instr.cells) hb1443 rfl) rfl) ?_
          refine SafeOps.quiet1 E_good rfl rfl rfl (.alloc rfl rfl) rfl ?_
          refine SafeOps.store (z := Obj.box [V.int .i64 ((gt (gt a0_1310 v17_1424) v26_1440).Op), V.int .i64 ((gt (gt a0_1310 v17_1424) v26_1440).A), V.int .i64 ((gt (gt a0_1310 v17_1424) v26_1440).B)]) E_good rfl rfl rfl rfl rfl rfl rfl (.boxM (c := 3) rfl rfl (Nat.le_of_ble_eq_true rfl) rfl) ?_
          refine SafeOps.nil ?_
          repeat (first | refine Safe.seq ?_ | refine Safe.skip ?_ | with_reducible refine thenQ.n ?_ | with_reducible refine blockQ.n ?_)
          refine Safe.region ?_
          refine SafeOps.quiet0 E_good rfl rfl rfl (v := V.ptr [6] 0 0) (.fn rfl) ?_
          refine SafeOps.quiet0 E_good rfl rfl rfl (v := V.int .i64 ((gt (gt a0_1310 v17_1424) v26_1440).Op)) (.load rfl rfl (.box rfl rfl) rfl) ?_
          refine SafeOps.quiet0 E_good rfl rfl rfl (v := V.bool (((gt (gt a0_1310 v17_1424) v26_1440).Op) == 2)) (.fn rfl) ?_
          refine SafeOps.quiet0 E_good rfl rfl rfl (v := V.bool (((gt (gt a0_1310 v17_1424) v26_1440).Op) == 2)) (.fn rfl) ?_
          refine SafeOps.bjoin 6 39 (b := ((((gt (gt a0_1310 v17_1424) v26_1440).Op) == 2) && (decide (((gt (gt a0_1310 v17_1424) v26_1440).A) ≥ (a0_1310.length : Int))))) (b1 := decide (((gt (gt a0_1310 v17_1424) v26_1440).A) ≥ (a0_1310.length : Int))) (b0 := false) (fun hc1444 K => ?_) (fun hc1444 K => ?_) bj_and ?_
          · skip
            refine SafeOps.quiet0 E_good (congrArg some hc1444) rfl rfl (v := V.ptr [6] 0 1) (.fn rfl) ?_
            refine SafeOps.quiet0 E_good (congrArg some hc1444) rfl rfl (v := V.int .i64 ((gt (gt a0_1310 v17_1424) v26_1440).A)) (.load rfl rfl (.box rfl rfl) rfl) ?_
            refine SafeOps.quiet0 E_good (congrArg some hc1444) rfl rfl (v := V.sl 1 (rws (fun l => [V.sl 3 (rws api_Instr.cells l)]) a0_1310)) (.fn rfl) ?_
            refine SafeOps.quiet0 E_good (congrArg some hc1444) rfl rfl (v := V.int .i64 (a0_1310.length : Int)) (.fnE rfl lenE) ?_
            refine SafeOps.quiet0 E_good (congrArg some hc1444) rfl rfl (v := V.bool (decide (((gt (gt a0_1310 v17_1424) v26_1440).A) ≥ (a0_1310.length : Int)))) (.fn rfl) ?_
            refine SafeOps.quiet0 E_good rfl rfl rfl (v := V.bool (decide (((gt (gt a0_1310 v17_1424) v26_1440).A) ≥ (a0_1310.length : Int)))) (.pickK rfl hc1444 rfl) ?_
            exact SafeOps.drop' 6 rfl rfl rfl K
          · skip
            refine SafeOps.skip (congrArg some hc1444) rfl rfl ?_
            refine SafeOps.skip (congrArg some hc1444) rfl rfl ?_
            refine SafeOps.skip (congrArg some hc1444) rfl rfl ?_
            refine SafeOps.skip (congrArg some hc1444) rfl rfl ?_
            refine SafeOps.skip (congrArg some hc1444) rfl rfl ?_
            refine SafeOps.quiet0 E_good rfl rfl rfl (v := V.bool false) (.pickK rfl hc1444 rfl) ?_
            exact SafeOps.drop' 6 rfl rfl rfl K
          refine SafeOps.nil ?_
          repeat (first | refine Safe.seq ?_ | refine Safe.skip ?_ | with_reducible refine thenQ.n ?_ | with_reducible refine blockQ.n ?_)
          refine ifG h (fun hc1445 h => ?_) (fun hc1445 h => ?_)
          · skip
            refine Safe.condK rfl hc1445 ?_
            repeat (first | refine Safe.seq ?_ | refine Safe.skip ?_ | with_reducible refine thenQ.n ?_ | with_reducible refine blockQ.n ?_)
            refine Safe.region ?_
            refine SafeOps.quiet0 E_good rfl rfl rfl (v := V.int .i64 1) (.fn rfl) ?_
            refine SafeOps.nil ?_
            repeat (first | refine Safe.seq ?_ | refine Safe.skip ?_ | with_reducible refine thenQ.n ?_ | with_reducible refine blockQ.n ?_)
            refine Safe.ret ?_
            repeat (first | with_reducible refine thenQ.r ?_ | with_reducible refine blockQ.r ?_)
            replace h := inr_out h hr1441
            replace h := inr_out h hr1425
            obtain rfl := Option.some.inj h
            exact retQ.gen (vs := [V.int .i64 1]) rfl (.tmp (v := V.int .i64 1) rfl .nil) (.free rfl) (by simp) (.inr rfl)
          · skip
            refine Safe.condN rfl hc1445 ?_
            repeat (first | refine Safe.seq ?_ | refine Safe.skip ?_ | with_reducible refine thenQ.n ?_ | with_reducible refine blockQ.n ?_)
            refine Safe.region ?_
            refine SafeOps.quiet0 E_good rfl rfl rfl (v := V.int .i64 (IntKind.i64.wrap (v26_1440 + 1))) (.fn rfl) ?_
            refine SafeOps.quiet0 E_good rfl rfl rfl (v := V.int .i64 (IntKind.i64.wrap (v26_1440 + 1))) (.fn rfl) ?_
            refine SafeOps.nil ?_
            repeat (first | refine Safe.seq ?_ | refine Safe.skip ?_ | with_reducible refine thenQ.n ?_ | with_reducible refine blockQ.n ?_)
            exact ⟨_, next_out h, (.cov ⟨rfl, rfl, (upT_cons (.refl _) (upT_cons (.refl _) (upT_cons (.refl _) (upT_cons (.refl _) (upT_cons (.refl _) (upT_cons (.refl _) (upT_cons (.refl _) upT_nil))))))), upOb_nil, upOut_nil, rfl⟩)⟩
        · skip
          refine Safe.condN rfl hc1442 ?_
          repeat (first | refine Safe.seq ?_ | refine Safe.skip ?_ | with_reducible refine thenQ.n ?_ | with_reducible refine blockQ.n ?_)
          refine Safe.exit ?_
          repeat (first | with_reducible refine thenQ.e ?_ | with_reducible refine blockQ.x rfl ?_ | with_reducible refine blockQ.y rfl ?_)
          replace h := inr_out h hr1441
          repeat (first | refine Safe.seq ?_ | refine Safe.skip ?_ | with_reducible refine thenQ.n ?_ | with_reducible refine blockQ.n ?_)
          refine Safe.region ?_
          refine SafeOps.quiet0 E_good rfl rfl rfl (v := V.int .i64 (IntKind.i64.wrap (v17_1424 + 1))) (.fn rfl) ?_
          refine SafeOps.quiet0 E_good rfl rfl rfl (v := V.int .i64 (IntKind.i64.wrap (v17_1424 + 1))) (.fn rfl) ?_
          refine SafeOps.nil ?_
          repeat (first | refine Safe.seq ?_ | refine Safe.skip ?_ | with_reducible refine thenQ.n ?_ | with_reducible refine blockQ.n ?_)
          exact ⟨_, next_out h, (.cov ⟨rfl, rfl, (upT_cons (.refl _) (upT_cons (.refl _) (upT_cons (.refl _) (upT_cons (.refl _) upT_nil)))), upOb_nil, upOut_nil, rfl⟩)⟩
    · skip
      refine Safe.condN rfl hc1426 ?_
      repeat (first | refine Safe.seq ?_ | refine Safe.skip ?_ | with_reducible refine thenQ.n ?_ | with_reducible refine blockQ.n ?_)
      refine Safe.exit ?_
      repeat (first | with_reducible refine thenQ.e ?_ | with_reducible refine blockQ.x rfl ?_ | with_reducible refine blockQ.y rfl ?_)
      replace h := inr_out h hr1425
      repeat (first | refine Safe.seq ?_ | refine Safe.skip ?_ | with_reducible refine thenQ.n ?_ | with_reducible refine blockQ.n ?_)
      refine Safe.region ?_
      refine SafeOps.quiet0 E_good rfl rfl rfl (v := V.int .i64 0) (.fn rfl) ?_
      refine SafeOps.nil ?_
      repeat (first | refine Safe.seq ?_ | refine Safe.skip ?_ | with_reducible refine thenQ.n ?_ | with_reducible refine blockQ.n ?_)
      refine Safe.ret ?_
      repeat (first | with_reducible refine thenQ.r ?_ | with_reducible refine blockQ.r ?_)
      obtain rfl := Option.some.inj h
      exact retQ.gen (vs := [V.int .i64 0]) rfl (.tmp (v := V.int .i64 0) rfl .nil) (.free rfl) (by simp) (.inr rfl)

noncomputable def go_ravelref04_table_s24 (v3_2508 : List Int) (v22_2509 : Int) (x_2513 : List api_Instr) : (Int × Int) → Option ((Int × Int) ⊕ (((List Int) × Int) ⊕ (((List Int) × Int) ⊕ (List Int))))
  | (v5_2557, v31_2558) =>
    if (decide (v31_2558 < (x_2513.length : Int))) = true then
      if 0 ≤ v31_2558 ∧ v31_2558 < (x_2513.length : Int) then
        if ((((gt x_2513 v31_2558).Op) == 2) && (decide (v5_2557 > 0))) = true then
          if 0 ≤ ((gt x_2513 v31_2558).A) ∧ ((gt x_2513 v31_2558).A) < (v3_2508.length : Int) then
            if ((gt v3_2508 ((gt x_2513 v31_2558).A)) == 0) = true then
              nextO (0, IntKind.i64.wrap (v31_2558 + 1))
            else
              if 0 ≤ ((gt x_2513 v31_2558).A) ∧ ((gt x_2513 v31_2558).A) < (v3_2508.length : Int) then
                nextO ((if 2199023255552 < (IntKind.i64.wrap (v5_2557 + (gt v3_2508 ((gt x_2513 v31_2558).A)))) then 2199023255552 else IntKind.i64.wrap (v5_2557 + (gt v3_2508 ((gt x_2513 v31_2558).A)))), IntKind.i64.wrap (v31_2558 + 1))
              else none
          else none
        else
          nextO (v5_2557, IntKind.i64.wrap (v31_2558 + 1))
      else none
    else
      inrO (
        if 0 ≤ v22_2509 ∧ v22_2509 < (v3_2508.length : Int) then
          nextO (st v3_2508 v22_2509 v5_2557, IntKind.i64.wrap (v22_2509 + 1))
        else none)

noncomputable def go_ravelref04_table_s22 (a0_1451 : List (List api_Instr)) (v18_2389 : Int) : ((List Int) × Int) → Option (((List Int) × Int) ⊕ (((List Int) × Int) ⊕ (List Int)))
  | (v3_2508, v22_2509) =>
    if (decide (v22_2509 < (a0_1451.length : Int))) = true then
      if 0 ≤ v22_2509 ∧ v22_2509 < (a0_1451.length : Int) then
        (go_ravelref04_Run (gt a0_1451 v22_2509)).bind fun x_2513 =>
        whileO (go_ravelref04_table_s24 v3_2508 v22_2509 x_2513) (1, 0)
      else none
    else
      inrO (
        nextO (v3_2508, IntKind.i64.wrap (v18_2389 + 1)))

noncomputable def go_ravelref04_table_s17 (a0_1451 : List (List api_Instr)) : ((List Int) × Int) → Option (((List Int) × Int) ⊕ (List Int))
  | (v3_2388, v18_2389) =>
    if (decide (v18_2389 < (a0_1451.length : Int))) = true then
      whileO (go_ravelref04_table_s22 a0_1451 v18_2389) (v3_2388, 0)
    else
      inrO (
        some v3_2388)

noncomputable def go_ravelref04_table_s2 (a0_1451 : List (List api_Instr)) : ((List Int) × Int) → Option (((List Int) × Int) ⊕ (List Int))
  | (v3_2028, v10_2029) =>
    if (decide (v10_2029 < (a0_1451.length : Int))) = true then
      if few (v3_2028 ++ [0]).length then
        nextO (v3_2028 ++ [0], IntKind.i64.wrap (v10_2029 + 1))
      else none
    else
      inrO (
        whileO (go_ravelref04_table_s17 a0_1451) (v3_2028, 0))

noncomputable def go_ravelref04_table (a0_1451 : List (List api_Instr)) : Option (List Int) :=
  whileO (go_ravelref04_table_s2 a0_1451) ([], 0)

theorem go_ravelref04_table_sc (a0_1451 : List (List api_Instr)) (r : List Int) (h : go_ravelref04_table a0_1451 = some r) : SC Try.prog gl 34 [V.sl 1 (rws (fun l => [V.sl 3 (rws api_Instr.cells l)]) a0_1451)] (V.own 1 (rws (fun n => [V.int .i64 n]) r)) := by
  rw [go_ravelref04_table] at h
  refine SC.of E_good Try.func34 rfl (fun _ _ => Try.call34 _ _) rfl ?_
  repeat (first | refine Safe.seq ?_ | refine Safe.skip ?_ | with_reducible refine thenQ.n ?_ | with_reducible refine blockQ.n ?_)
  refine Safe.region ?_
  refine SafeOps.quiet0 E_good rfl rfl rfl (v := V.nils) (.fn rfl) ?_
  refine SafeOps.nil ?_
  repeat (first | refine Safe.seq ?_ | refine Safe.skip ?_ | with_reducible refine thenQ.n ?_ | with_reducible refine blockQ.n ?_)
  refine Safe.region ?_
  refine SafeOps.quiet0 E_good rfl rfl rfl (v := V.nils) (.fn rfl) ?_
  refine SafeOps.nil ?_
  repeat (first | refine Safe.seq ?_ | refine Safe.skip ?_ | with_reducible refine thenQ.n ?_ | with_reducible refine blockQ.n ?_)
  refine Safe.region ?_
  refine SafeOps.quiet0 E_good rfl rfl rfl (v := V.sl 1 (rws (fun l => [V.sl 3 (rws api_Instr.cells l)]) a0_1451)) (.fn rfl) ?_
  refine SafeOps.quiet0 E_good rfl rfl rfl (v := V.int .i64 (a0_1451.length : Int)) (.fnE rfl lenE) ?_
  refine SafeOps.quiet0 E_good rfl rfl rfl (v := V.int .i64 0) (.fn rfl) ?_
  refine SafeOps.nil ?_
  repeat (first | refine Safe.seq ?_ | refine Safe.skip ?_ | with_reducible refine thenQ.n ?_ | with_reducible refine blockQ.n ?_)
  refine Safe.block ?_
  repeat (first | refine Safe.seq ?_ | refine Safe.skip ?_ | with_reducible refine thenQ.n ?_ | with_reducible refine blockQ.n ?_)
  refine Safe.loopW (fun ((v3_2028, v10_2029) : (List Int) × Int) => ⟨Try.f34.ntmps, [(0, V.sl 1 (rws (fun l => [V.sl 3 (rws api_Instr.cells l)]) a0_1451)), (3, V.ref [7000, 118, 3] 0 (rws (fun n => [V.int .i64 n]) v3_2028).length), (9, V.int .i64 (a0_1451.length : Int)), (10, V.int .i64 v10_2029)], [([7000, 118, 3], Obj.rows 1 (rws (fun n => [V.int .i64 n]) v3_2028) false)], [], []⟩) h (.empty [7000, 118, 3] 1 rfl (.cov ⟨rfl, rfl, (upT_cons (.refl _) (upT_cons (.nilref _) (upT_cons (.refl _) (upT_cons (.refl _) upT_nil)))), (upOb_cons rfl (.refl _) upOb_nil), upOut_nil, rfl⟩)) ?_
  rintro ⟨v3_2028, v10_2029⟩ ohr2030 h hr2030
  replace h : go_ravelref04_table_s2 a0_1451 (v3_2028, v10_2029) = some ohr2030 := h
  rw [go_ravelref04_table_s2] at h
  repeat (first | refine Safe.seq ?_ | refine Safe.skip ?_ | with_reducible refine thenQ.n ?_ | with_reducible refine blockQ.n ?_)
  refine Safe.region ?_
  refine SafeOps.quiet0 E_good rfl rfl rfl (v := V.bool (decide (v10_2029 < (a0_1451.length : Int)))) (.fn rfl) ?_
  refine SafeOps.nil ?_
  repeat (first | refine Safe.seq ?_ | refine Safe.skip ?_ | with_reducible refine thenQ.n ?_ | with_reducible refine blockQ.n ?_)
  refine ifG h (fun hc2031 h => ?_) (fun hc2031 h => ?_)
  · skip
    refine Safe.condK rfl hc2031 ?_
    repeat (first | refine Safe.seq ?_ | refine Safe.skip ?_ | with_reducible refine thenQ.n ?_ | with_reducible refine blockQ.n ?_)
    refine Safe.block ?_
    repeat (first | refine Safe.seq ?_ | refine Safe.skip ?_ | with_reducible refine thenQ.n ?_ | with_reducible refine blockQ.n ?_)
    refine Safe.region ?_
    refine SafeOps.quiet0 E_good rfl rfl rfl (v := V.ref [7000, 118, 3] 0 (rws (fun n => [V.int .i64 n]) v3_2028).length) (.fn rfl) ?_
    refine SafeOps.quiet1 E_good rfl rfl rfl (.litM (f := (fun n => [V.int .i64 n])) (xs := [0]) rfl rfl (by decide) rfl rfl rfl rfl rfl) rfl ?_
    refine okG h (fun hb2032 h => ?_)
    refine SafeOps.appendM (fun n => [V.int .i64 n]) (xs := v3_2028) (ys := [0]) E_good rfl rfl rfl rfl rfl rfl rfl rfl rfl (.own rfl) (.own rfl) (fun _ => rfl) hb2032 ?_
    refine SafeOps.quiet0 E_good rfl rfl rfl (v := V.ref [14] 0 (rws (fun n => [V.int .i64 n]) (v3_2028 ++ [0])).length) (.fn rfl) ?_
    refine SafeOps.nil ?_
    repeat (first | refine Safe.seq ?_ | refine Safe.skip ?_ | with_reducible refine thenQ.n ?_ | with_reducible refine blockQ.n ?_)
    refine Safe.region ?_
    refine SafeOps.quiet0 E_good rfl rfl rfl (v := V.int .i64 (IntKind.i64.wrap (v10_2029 + 1))) (.fn rfl) ?_
    refine SafeOps.quiet0 E_good rfl rfl rfl (v := V.int .i64 (IntKind.i64.wrap (v10_2029 + 1))) (.fn rfl) ?_
    refine SafeOps.nil ?_
    repeat (first | refine Safe.seq ?_ | refine Safe.skip ?_ | with_reducible refine thenQ.n ?_ | with_reducible refine blockQ.n ?_)
    exact ⟨_, next_out h, (.ren [14] [7000, 118, 3] (.cov ⟨rfl, rfl, (upT_cons (.refl _) (upT_cons (.refl _) (upT_cons (.refl _) (upT_cons (.refl _) upT_nil)))), (upOb_cons rfl (.refl _) upOb_nil), upOut_nil, rfl⟩))⟩
  · skip
    refine Safe.condN rfl hc2031 ?_
    repeat (first | refine Safe.seq ?_ | refine Safe.skip ?_ | with_reducible refine thenQ.n ?_ | with_reducible refine blockQ.n ?_)
    refine Safe.exit ?_
    repeat (first | with_reducible refine thenQ.e ?_ | with_reducible refine blockQ.x rfl ?_ | with_reducible refine blockQ.y rfl ?_)
    replace h := inr_out h hr2030
    repeat (first | refine Safe.seq ?_ | refine Safe.skip ?_ | with_reducible refine thenQ.n ?_ | with_reducible refine blockQ.n ?_)
    refine Safe.region ?_
    refine SafeOps.quiet0 E_good rfl rfl rfl (v := V.sl 1 (rws (fun l => [V.sl 3 (rws api_Instr.cells l)]) a0_1451)) (.fn rfl) ?_
    refine SafeOps.quiet0 E_good rfl rfl rfl (v := V.int .i64 (a0_1451.length : Int)) (.fnE rfl lenE) ?_
    refine SafeOps.quiet0 E_good rfl rfl rfl (v := V.int .i64 0) (.fn rfl) ?_
    refine SafeOps.nil ?_
    repeat (first | refine Safe.seq ?_ | refine Safe.skip ?_ | with_reducible refine thenQ.n ?_ | with_reducible refine blockQ.n ?_)
    refine Safe.block ?_
    repeat (first | refine Safe.seq ?_ | refine Safe.skip ?_ | with_reducible refine thenQ.n ?_ | with_reducible refine blockQ.n ?_)
    refine Safe.loopW (fun ((v3_2388, v18_2389) : (List Int) × Int) => ⟨Try.f34.ntmps, [(0, V.sl 1 (rws (fun l => [V.sl 3 (rws api_Instr.cells l)]) a0_1451)), (3, V.ref [7000, 118, 3] 0 (rws (fun n => [V.int .i64 n]) v3_2388).length), (17, V.int .i64 (a0_1451.length : Int)), (18, V.int .i64 v18_2389)], [([7000, 118, 3], Obj.rows 1 (rws (fun n => [V.int .i64 n]) v3_2388) false)], [], []⟩) h (.cov ⟨rfl, rfl, (upT_cons (.refl _) (upT_cons (.refl _) (upT_cons (.refl _) (upT_cons (.refl _) upT_nil)))), (upOb_cons rfl (.refl _) upOb_nil), upOut_nil, rfl⟩) ?_
    rintro ⟨v3_2388, v18_2389⟩ ohr2390 h hr2390
    replace h : go_ravelref04_table_s17 a0_1451 (v3_2388, v18_2389) = some ohr2390 := h
    rw [go_ravelref04_table_s17] at h
    repeat (first | refine Safe.seq ?_ | refine Safe.skip ?_ | with_reducible refine thenQ.n ?_ | with_reducible refine blockQ.n ?_)
    refine Safe.region ?_
    refine SafeOps.quiet0 E_good rfl rfl rfl (v := V.bool (decide (v18_2389 < (a0_1451.length : Int)))) (.fn rfl) ?_
    refine SafeOps.nil ?_
    repeat (first | refine Safe.seq ?_ | refine Safe.skip ?_ | with_reducible refine thenQ.n ?_ | with_reducible refine blockQ.n ?_)
    refine ifG h (fun hc2391 h => ?_) (fun hc2391 h => ?_)
    · skip
      refine Safe.condK rfl hc2391 ?_
      repeat (first | refine Safe.seq ?_ | refine Safe.skip ?_ | with_reducible refine thenQ.n ?_ | with_reducible refine blockQ.n ?_)
      refine Safe.block ?_
      repeat (first | refine Safe.seq ?_ | refine Safe.skip ?_ | with_reducible refine thenQ.n ?_ | with_reducible refine blockQ.n ?_)
      refine Safe.region ?_
      refine SafeOps.quiet0 E_good rfl rfl rfl (v := V.sl 1 (rws (fun l => [V.sl 3 (rws api_Instr.cells l)]) a0_1451)) (.fn rfl) ?_
      refine SafeOps.quiet0 E_good rfl rfl rfl (v := V.int .i64 (a0_1451.length : Int)) (.fnE rfl lenE) ?_
      refine SafeOps.quiet0 E_good rfl rfl rfl (v := V.int .i64 0) (.fn rfl) ?_
      refine SafeOps.nil ?_
      repeat (first | refine Safe.seq ?_ | refine Safe.skip ?_ | with_reducible refine thenQ.n ?_ | with_reducible refine blockQ.n ?_)
      refine Safe.block ?_
      repeat (first | refine Safe.seq ?_ | refine Safe.skip ?_ | with_reducible refine thenQ.n ?_ | with_reducible refine blockQ.n ?_)
      refine Safe.loopW (fun ((v3_2508, v22_2509) : (List Int) × Int) => ⟨Try.f34.ntmps, [(0, V.sl 1 (rws (fun l => [V.sl 3 (rws api_Instr.cells l)]) a0_1451)), (3, V.ref [7000, 118, 3] 0 (rws (fun n => [V.int .i64 n]) v3_2508).length), (17, V.int .i64 (a0_1451.length : Int)), (18, V.int .i64 v18_2389), (21, V.int .i64 (a0_1451.length : Int)), (22, V.int .i64 v22_2509)], [([7000, 118, 3], Obj.rows 1 (rws (fun n => [V.int .i64 n]) v3_2508) false)], [], []⟩) h (.cov ⟨rfl, rfl, (upT_cons (.refl _) (upT_cons (.refl _) (upT_cons (.refl _) (upT_cons (.refl _) (upT_cons (.refl _) (upT_cons (.refl _) upT_nil)))))), (upOb_cons rfl (.refl _) upOb_nil), upOut_nil, rfl⟩) ?_
      rintro ⟨v3_2508, v22_2509⟩ ohr2510 h hr2510
      replace h : go_ravelref04_table_s22 a0_1451 v18_2389 (v3_2508, v22_2509) = some ohr2510 := h
      rw [go_ravelref04_table_s22] at h
      repeat (first | refine Safe.seq ?_ | refine Safe.skip ?_ | with_reducible refine thenQ.n ?_ | with_reducible refine blockQ.n ?_)
      refine Safe.region ?_
      refine SafeOps.quiet0 E_good rfl rfl rfl (v := V.bool (decide (v22_2509 < (a0_1451.length : Int)))) (.fn rfl) ?_
      refine SafeOps.nil ?_
      repeat (first | refine Safe.seq ?_ | refine Safe.skip ?_ | with_reducible refine thenQ.n ?_ | with_reducible refine blockQ.n ?_)
      refine ifG h (fun hc2511 h => ?_) (fun hc2511 h => ?_)
      · skip
        refine Safe.condK rfl hc2511 ?_
        repeat (first | refine Safe.seq ?_ | refine Safe.skip ?_ | with_reducible refine thenQ.n ?_ | with_reducible refine blockQ.n ?_)
        refine Safe.block ?_
        repeat (first | refine Safe.seq ?_ | refine Safe.skip ?_ | with_reducible refine thenQ.n ?_ | with_reducible refine blockQ.n ?_)
        refine Safe.region ?_
        refine SafeOps.quiet0 E_good rfl rfl rfl (v := V.int .i64 v22_2509) (.fn rfl) ?_
        refine SafeOps.quiet0 E_good rfl rfl rfl (v := V.int .i64 v22_2509) (.fn rfl) ?_
        refine SafeOps.nil ?_
        repeat (first | refine Safe.seq ?_ | refine Safe.skip ?_ | with_reducible refine thenQ.n ?_ | with_reducible refine blockQ.n ?_)
        refine Safe.region ?_
        refine SafeOps.quiet0 E_good rfl rfl rfl (v := V.int .i64 1) (.fn rfl) ?_
        refine SafeOps.nil ?_
        repeat (first | refine Safe.seq ?_ | refine Safe.skip ?_ | with_reducible refine thenQ.n ?_ | with_reducible refine blockQ.n ?_)
        refine Safe.region ?_
        refine SafeOps.quiet0 E_good rfl rfl rfl (v := V.sl 1 (rws (fun l => [V.sl 3 (rws api_Instr.cells l)]) a0_1451)) (.fn rfl) ?_
        refine SafeOps.quiet0 E_good rfl rfl rfl (v := V.int .i64 v22_2509) (.fn rfl) ?_
        refine okG h (fun hb2512 h => ?_)
        refine SafeOps.quiet0 E_good rfl rfl rfl (v := V.spt 1 (rws (fun l => [V.sl 3 (rws api_Instr.cells l)]) a0_1451) (Int.toNat v22_2509) 0) (.idxSlM (f := (fun l => [V.sl 3 (rws api_Instr.cells l)])) rfl rfl rfl rfl rfl hb2512) ?_
        refine SafeOps.quiet0 E_good rfl rfl rfl (v := V.sl 3 (rws api_Instr.cells (gt a0_1451 v22_2509))) (.load rfl rfl (.sptM (f := (fun l => [V.sl 3 (rws api_Instr.cells l)])) hb2512 rfl) rfl) ?_
        refine bindG h ?_
        intro x_2513 he2514 h
        refine SafeOps.quiet0 E_good rfl rfl rfl (v := V.sl 3 (rws api_Instr.cells x_2513)) (.callP rfl rfl (go_ravelref04_Run_sc (gt a0_1451 v22_2509) _ he2514) rfl) ?_
        refine SafeOps.quiet0 E_good rfl rfl rfl (v := V.int .i64 (x_2513.length : Int)) (.fnE rfl lenE) ?_
        refine SafeOps.quiet0 E_good rfl rfl rfl (v := V.int .i64 0) (.fn rfl) ?_
        refine SafeOps.nil ?_
        repeat (first | refine Safe.seq ?_ | refine Safe.skip ?_ | with_reducible refine thenQ.n ?_ | with_reducible refine blockQ.n ?_)
        refine Safe.block ?_
        repeat (first | refine Safe.seq ?_ | refine Safe.skip ?_ | with_reducible refine thenQ.n ?_ | with_reducible refine blockQ.n ?_)
        refine Safe.loopW (fun ((v5_2557, v31_2558) : Int × Int) => ⟨Try.f34.ntmps, [(0, V.sl 1 (rws (fun l => [V.sl 3 (rws api_Instr.cells l)]) a0_1451)), (3, V.ref [7000, 118, 3] 0 (rws (fun n => [V.int .i64 n]) v3_2508).length), (4, V.int .i64 v22_2509), (5, V.int .i64 v5_2557), (17, V.int .i64 (a0_1451.length : Int)), (18, V.int .i64 v18_2389), (21, V.int .i64 (a0_1451.length : Int)), (22, V.int .i64 v22_2509), (29, V.sl 3 (rws api_Instr.cells x_2513)), (30, V.int .i64 (x_2513.length : Int)), (31, V.int .i64 v31_2558)], [([7000, 118, 3], Obj.rows 1 (rws (fun n => [V.int .i64 n]) v3_2508) false)], [], []⟩) h (.cov ⟨rfl, rfl, (upT_cons (.refl _) (upT_cons (.refl _) (upT_cons (.refl _) (upT_cons (.refl _) (upT_cons (.refl _) (upT_cons (.refl _) (upT_cons (.refl _) (upT_cons (.refl _) (upT_cons (.refl _) (upT_cons (.refl _) (upT_cons (.refl _) upT_nil))))))))))), (upOb_cons rfl (.refl _) upOb_nil), upOut_nil, rfl⟩) ?_
        rintro ⟨v5_2557, v31_2558⟩ ohr2559 h hr2559
        replace h : go_ravelref04_table_s24 v3_2508 v22_2509 x_2513 (v5_2557, v31_2558) = some ohr2559 := h
        rw [go_ravelref04_table_s24] at h
        repeat (first | refine Safe.seq ?_ | refine Safe.skip ?_ | with_reducible refine thenQ.n ?_ | with_reducible refine blockQ.n ?_)
        refine Safe.region ?_
        refine SafeOps.quiet0 E_good rfl rfl rfl (v := V.bool (decide (v31_2558 < (x_2513.length : Int)))) (.fn rfl) ?_
        refine SafeOps.nil ?_
        repeat (first | refine Safe.seq ?_ | refine Safe.skip ?_ | with_reducible refine thenQ.n ?_ | with_reducible refine blockQ.n ?_)
        refine ifG h (fun hc2560 h => ?_) (fun hc2560 h => ?_)
        · skip
          refine Safe.condK rfl hc2560 ?_
          repeat (first | refine Safe.seq ?_ | refine Safe.skip ?_ | with_reducible refine thenQ.n ?_ | with_reducible refine blockQ.n ?_)
          refine Safe.block ?_
          repeat (first | refine Safe.seq ?_ | refine Safe.skip ?_ | with_reducible refine thenQ.n ?_ | with_reducible refine blockQ.n ?_)
          refine Safe.region ?_
          refine okG h (fun hb2561 h => ?_)
          refine SafeOps.quiet0 E_good rfl rfl rfl (v := V.spt 3 (rws api_Instr.cells x_2513) (Int.toNat v31_2558) 0) (.idxSlM (f := api_Instr.cells) rfl rfl rfl rfl rfl hb2561) ?_
          refine SafeOps.quiet0 E_good rfl rfl rfl (v := V.agg [V.int .i64 ((gt x_2513 v31_2558).Op), V.int .i64 ((gt x_2513 v31_2558).A), V.int .i64 ((gt x_2513 v31_2558).B)]) (.load rfl rfl (.sptM (f := api_Instr.cells) hb2561 rfl) rfl) ?_
          refine SafeOps.quiet1 E_good rfl rfl rfl (.alloc rfl rfl) rfl ?_
          refine SafeOps.store (z := Obj.box [V.int .i64 ((gt x_2513 v31_2558).Op), V.int .i64 ((gt x_2513 v31_2558).A), V.int .i64 ((gt x_2513 v31_2558).B)]) E_good rfl rfl rfl rfl rfl rfl rfl (.boxM (c := 3) rfl rfl (Nat.le_of_ble_eq_true rfl) rfl) ?_
          refine SafeOps.nil ?_
          repeat (first | refine Safe.seq ?_ | refine Safe.skip ?_ | with_reducible refine thenQ.n ?_ | with_reducible refine blockQ.n ?_)
          refine Safe.region ?_
          refine SafeOps.quiet0 E_good rfl rfl rfl (v := V.ptr [7] 0 0) (.fn rfl) ?_
          refine SafeOps.quiet0 E_good rfl rfl rfl (v := V.int .i64 ((gt x_2513 v31_2558).Op)) (.load rfl rfl (.box rfl rfl) rfl) ?_
          refine SafeOps.quiet0 E_good rfl rfl rfl (v := V.bool (((gt x_2513 v31_2558).Op) == 2)) (.fn rfl) ?_
          refine SafeOps.quiet0 E_good rfl rfl rfl (v := V.bool (((gt x_2513 v31_2558).Op) == 2)) (.fn rfl) ?_
          refine SafeOps.bjoin 3 41 (b := ((((gt x_2513 v31_2558).Op) == 2) && (decide (v5_2557 > 0)))) (b1 := decide (v5_2557 > 0)) (b0 := false) (fun hc2562 K => ?_) (fun hc2562 K => ?_) bj_and ?_
          · skip
            refine SafeOps.quiet0 E_good (congrArg some hc2562) rfl rfl (v := V.int .i64 v5_2557) (.fn rfl) ?_
            refine SafeOps.quiet0 E_good (congrArg some hc2562) rfl rfl (v := V.bool (decide (v5_2557 > 0))) (.fn rfl) ?_
            refine SafeOps.quiet0 E_good rfl rfl rfl (v := V.bool (decide (v5_2557 > 0))) (.pickK rfl hc2562 rfl) ?_
            exact SafeOps.drop' 3 rfl rfl rfl K
          · skip
            refine SafeOps.skip (congrArg some hc2562) rfl rfl ?_
            refine SafeOps.skip (congrArg some hc2562) rfl rfl ?_
            refine SafeOps.quiet0 E_good rfl rfl rfl (v := V.bool false) (.pickK rfl hc2562 rfl) ?_
            exact SafeOps.drop' 3 rfl rfl rfl K
          refine SafeOps.nil ?_
          repeat (first | refine Safe.seq ?_ | refine Safe.skip ?_ | with_reducible refine thenQ.n ?_ | with_reducible refine blockQ.n ?_)
          refine ifG h (fun hc2563 h => ?_) (fun hc2563 h => ?_)
          · skip
            refine Safe.condK rfl hc2563 ?_
            repeat (first | refine Safe.seq ?_ | refine Safe.skip ?_ | with_reducible refine thenQ.n ?_ | with_reducible refine blockQ.n ?_)
            refine Safe.region ?_
            refine SafeOps.quiet0 E_good rfl rfl rfl (v := V.ref [7000, 118, 3] 0 (rws (fun n => [V.int .i64 n]) v3_2508).length) (.fn rfl) ?_
            refine SafeOps.quiet0 E_good rfl rfl rfl (v := V.ptr [7] 0 1) (.fn rfl) ?_
            refine SafeOps.quiet0 E_good rfl rfl rfl (v := V.int .i64 ((gt x_2513 v31_2558).A)) (.load rfl rfl (.box rfl rfl) rfl) ?_
            refine okG h (fun hb2564 h => ?_)
            refine SafeOps.quiet0 E_good rfl rfl rfl (v := V.ptr [7000, 118, 3] (0 + Int.toNat ((gt x_2513 v31_2558).A)) 0) (.idxRefM (f := (fun n => [V.int .i64 n])) (xs := v3_2508) rfl rfl rfl rfl rfl rfl hb2564) ?_
            refine SafeOps.quiet0 E_good rfl rfl rfl (v := V.int .i64 (gt v3_2508 ((gt x_2513 v31_2558).A))) (.load rfl rfl (.rowsM (f := (fun n => [V.int .i64 n])) (xs := v3_2508) hb2564 rfl rfl) rfl) ?_
            refine SafeOps.quiet0 E_good rfl rfl rfl (v := V.bool ((gt v3_2508 ((gt x_2513 v31_2558).A)) == 0)) (.fn rfl) ?_
            refine SafeOps.nil ?_
            repeat (first | refine Safe.seq ?_ | refine Safe.skip ?_ | with_reducible refine thenQ.n ?_ | with_reducible refine blockQ.n ?_)
            refine ifG h (fun hc2565 h => ?_) (fun hc2565 h => ?_)
            · skip
              refine Safe.condK rfl hc2565 ?_
              repeat (first | refine Safe.seq ?_ | refine Safe.skip ?_ | with_reducible refine thenQ.n ?_ | with_reducible refine blockQ.n ?_)
              refine Safe.region ?_
              refine SafeOps.quiet0 E_good rfl rfl rfl (v := V.int .i64 0) (.fn rfl) ?_
              refine SafeOps.nil ?_
              repeat (first | refine Safe.seq ?_ | refine Safe.skip ?_ | with_reducible refine thenQ.n ?_ | with_reducible refine blockQ.n ?_)
              refine Safe.region ?_
              refine SafeOps.quiet0 E_good rfl rfl rfl (v := V.int .i64 (IntKind.i64.wrap (v31_2558 + 1))) (.fn rfl) ?_
              refine SafeOps.quiet0 E_good rfl rfl rfl (v := V.int .i64 (IntKind.i64.wrap (v31_2558 + 1))) (.fn rfl) ?_
              refine SafeOps.nil ?_
              repeat (first | refine Safe.seq ?_ | refine Safe.skip ?_ | with_reducible refine thenQ.n ?_ | with_reducible refine blockQ.n ?_)
              exact ⟨_, next_out h, (.cov ⟨rfl, rfl, (upT_cons (.refl _) (upT_cons (.refl _) (upT_cons (.refl _) (upT_cons (.refl _) (upT_cons (.refl _) (upT_cons (.refl _) (upT_cons (.refl _) (upT_cons (.refl _) (upT_cons (.refl _) (upT_cons (.refl _) (upT_cons (.refl _) upT_nil))))))))))), (upOb_cons rfl (.refl _) upOb_nil), upOut_nil, rfl⟩)⟩
            · skip
              refine Safe.condN rfl hc2565 ?_
              repeat (first | refine Safe.seq ?_ | refine Safe.skip ?_ | with_reducible refine thenQ.n ?_ | with_reducible refine blockQ.n ?_)
              refine Safe.region ?_
              refine SafeOps.quiet0 E_good rfl rfl rfl (v := V.int .i64 v5_2557) (.fn rfl) ?_
              refine SafeOps.quiet0 E_good rfl rfl rfl (v := V.ref [7000, 118, 3] 0 (rws (fun n => [V.int .i64 n]) v3_2508).length) (.fn rfl) ?_
              refine SafeOps.quiet0 E_good rfl rfl rfl (v := V.ptr [7] 0 1) (.fn rfl) ?_
              refine SafeOps.quiet0 E_good rfl rfl rfl (v := V.int .i64 ((gt x_2513 v31_2558).A)) (.load rfl rfl (.box rfl rfl) rfl) ?_
              refine okG h (fun hb2566 h => ?_)
              refine SafeOps.quiet0 E_good rfl rfl rfl (v := V.ptr [7000, 118, 3] (0 + Int.toNat ((gt x_2513 v31_2558).A)) 0) (.idxRefM (f := (fun n => [V.int .i64 n])) (xs := v3_2508) rfl rfl rfl rfl rfl rfl hb2566) ?_
              refine SafeOps.quiet0 E_good rfl rfl rfl (v := V.int .i64 (gt v3_2508 ((gt x_2513 v31_2558).A))) (.load rfl rfl (.rowsM (f := (fun n => [V.int .i64 n])) (xs := v3_2508) hb2566 rfl rfl) rfl) ?_
              refine SafeOps.quiet0 E_good rfl rfl rfl (v := V.int .i64 (IntKind.i64.wrap (v5_2557 + (gt v3_2508 ((gt x_2513 v31_2558).A))))) (.fn rfl) ?_
              refine SafeOps.quiet0 E_good rfl rfl rfl (v := V.int .i64 (if 2199023255552 < (IntKind.i64.wrap (v5_2557 + (gt v3_2508 ((gt x_2513 v31_2558).A)))) then 2199023255552 else IntKind.i64.wrap (v5_2557 + (gt v3_2508 ((gt x_2513 v31_2558).A))))) (.fn rfl) ?_
              refine SafeOps.quiet0 E_good rfl rfl rfl (v := V.int .i64 (if 2199023255552 < (IntKind.i64.wrap (v5_2557 + (gt v3_2508 ((gt x_2513 v31_2558).A)))) then 2199023255552 else IntKind.i64.wrap (v5_2557 + (gt v3_2508 ((gt x_2513 v31_2558).A))))) (.fn rfl) ?_
              refine SafeOps.nil ?_
              repeat (first | refine Safe.seq ?_ | refine Safe.skip ?_ | with_reducible refine thenQ.n ?_ | with_reducible refine blockQ.n ?_)
              refine Safe.region ?_
              refine SafeOps.quiet0 E_good rfl rfl rfl (v := V.int .i64 (IntKind.i64.wrap (v31_2558 + 1))) (.fn rfl) ?_
              refine SafeOps.quiet0 E_good rfl rfl rfl (v := V.int .i64 (IntKind.i64.wrap (v31_2558 + 1))) (.fn rfl) ?_
              refine SafeOps.nil ?_
              repeat (first | refine Safe.seq ?_ | refine Safe.skip ?_ | with_reducible refine thenQ.n ?_ | with_reducible refine blockQ.n ?_)
              exact ⟨_, next_out h, (.cov ⟨rfl, rfl, (upT_cons (.refl _) (upT_cons (.refl _) (upT_cons (.refl _) (upT_cons (.refl _) (upT_cons (.refl _) (upT_cons (.refl _) (upT_cons (.refl _) (upT_cons (.refl _) (upT_cons (.refl _) (upT_cons (.refl _) (upT_cons (.refl _) upT_nil))))))))))), (upOb_cons rfl (.refl _) upOb_nil), upOut_nil, rfl⟩)⟩
          · skip
            refine Safe.condN rfl hc2563 ?_
            repeat (first | refine Safe.seq ?_ | refine Safe.skip ?_ | with_reducible refine thenQ.n ?_ | with_reducible refine blockQ.n ?_)
            refine Safe.region ?_
            refine SafeOps.quiet0 E_good rfl rfl rfl (v := V.int .i64 (IntKind.i64.wrap (v31_2558 + 1))) (.fn rfl) ?_
            refine SafeOps.quiet0 E_good rfl rfl rfl (v := V.int .i64 (IntKind.i64.wrap (v31_2558 + 1))) (.fn rfl) ?_
            refine SafeOps.nil ?_
            repeat (first | refine Safe.seq ?_ | refine Safe.skip ?_ | with_reducible refine thenQ.n ?_ | with_reducible refine blockQ.n ?_)
            exact ⟨_, next_out h, (.cov ⟨rfl, rfl, (upT_cons (.refl _) (upT_cons (.refl _) (upT_cons (.refl _) (upT_cons (.refl _) (upT_cons (.refl _) (upT_cons (.refl _) (upT_cons (.refl _) (upT_cons (.refl _) (upT_cons (.refl _) (upT_cons (.refl _) (upT_cons (.refl _) upT_nil))))))))))), (upOb_cons rfl (.refl _) upOb_nil), upOut_nil, rfl⟩)⟩
        · skip
          refine Safe.condN rfl hc2560 ?_
          repeat (first | refine Safe.seq ?_ | refine Safe.skip ?_ | with_reducible refine thenQ.n ?_ | with_reducible refine blockQ.n ?_)
          refine Safe.exit ?_
          repeat (first | with_reducible refine thenQ.e ?_ | with_reducible refine blockQ.x rfl ?_ | with_reducible refine blockQ.y rfl ?_)
          replace h := inr_out h hr2559
          repeat (first | refine Safe.seq ?_ | refine Safe.skip ?_ | with_reducible refine thenQ.n ?_ | with_reducible refine blockQ.n ?_)
          refine Safe.region ?_
          refine SafeOps.quiet0 E_good rfl rfl rfl (v := V.ref [7000, 118, 3] 0 (rws (fun n => [V.int .i64 n]) v3_2508).length) (.fn rfl) ?_
          refine SafeOps.quiet0 E_good rfl rfl rfl (v := V.int .i64 v22_2509) (.fn rfl) ?_
          refine SafeOps.quiet0 E_good rfl rfl rfl (v := V.int .i64 v5_2557) (.fn rfl) ?_
          refine okG h (fun hb2567 h => ?_)
          refine SafeOps.quiet0 E_good rfl rfl rfl (v := V.ptr [7000, 118, 3] (0 + Int.toNat v22_2509) 0) (.idxRefM (f := (fun n => [V.int .i64 n])) (xs := v3_2508) rfl rfl rfl rfl rfl rfl hb2567) ?_
          refine SafeOps.store (z := Obj.rows 1 (rws (fun n => [V.int .i64 n]) (st v3_2508 v22_2509 v5_2557)) false) E_good rfl rfl rfl rfl rfl rfl rfl (.rowsM (f := (fun n => [V.int .i64 n])) (xs := v3_2508) (y := v5_2557) hb2567 rfl rfl rfl rfl) ?_
          refine SafeOps.see 3 (u := V.ref [7000, 118, 3] 0 (rws (fun n => [V.int .i64 n]) (st v3_2508 v22_2509 v5_2557)).length) rfl (.len (by simp [rws, st])) ?_
          refine SafeOps.see 57 (u := V.ref [7000, 118, 3] 0 (rws (fun n => [V.int .i64 n]) (st v3_2508 v22_2509 v5_2557)).length) rfl (.len (by simp [rws, st])) ?_
          refine SafeOps.nil ?_
          repeat (first | refine Safe.seq ?_ | refine Safe.skip ?_ | with_reducible refine thenQ.n ?_ | with_reducible refine blockQ.n ?_)
          refine Safe.region ?_
          refine SafeOps.quiet0 E_good rfl rfl rfl (v := V.int .i64 (IntKind.i64.wrap (v22_2509 + 1))) (.fn rfl) ?_
          refine SafeOps.quiet0 E_good rfl rfl rfl (v := V.int .i64 (IntKind.i64.wrap (v22_2509 + 1))) (.fn rfl) ?_
          refine SafeOps.nil ?_
          repeat (first | refine Safe.seq ?_ | refine Safe.skip ?_ | with_reducible refine thenQ.n ?_ | with_reducible refine blockQ.n ?_)
          exact ⟨_, next_out h, (.cov ⟨rfl, rfl, (upT_cons (.refl _) (upT_cons (.refl _) (upT_cons (.refl _) (upT_cons (.refl _) (upT_cons (.refl _) (upT_cons (.refl _) upT_nil)))))), (upOb_cons rfl (.refl _) upOb_nil), upOut_nil, rfl⟩)⟩
      · skip
        refine Safe.condN rfl hc2511 ?_
        repeat (first | refine Safe.seq ?_ | refine Safe.skip ?_ | with_reducible refine thenQ.n ?_ | with_reducible refine blockQ.n ?_)
        refine Safe.exit ?_
        repeat (first | with_reducible refine thenQ.e ?_ | with_reducible refine blockQ.x rfl ?_ | with_reducible refine blockQ.y rfl ?_)
        replace h := inr_out h hr2510
        repeat (first | refine Safe.seq ?_ | refine Safe.skip ?_ | with_reducible refine thenQ.n ?_ | with_reducible refine blockQ.n ?_)
        refine Safe.region ?_
        refine SafeOps.quiet0 E_good rfl rfl rfl (v := V.int .i64 (IntKind.i64.wrap (v18_2389 + 1))) (.fn rfl) ?_
        refine SafeOps.quiet0 E_good rfl rfl rfl (v := V.int .i64 (IntKind.i64.wrap (v18_2389 + 1))) (.fn rfl) ?_
        refine SafeOps.nil ?_
        repeat (first | refine Safe.seq ?_ | refine Safe.skip ?_ | with_reducible refine thenQ.n ?_ | with_reducible refine blockQ.n ?_)
        exact ⟨_, next_out h, (.cov ⟨rfl, rfl, (upT_cons (.refl _) (upT_cons (.refl _) (upT_cons (.refl _) (upT_cons (.refl _) upT_nil)))), (upOb_cons rfl (.refl _) upOb_nil), upOut_nil, rfl⟩)⟩
    · skip
      refine Safe.condN rfl hc2391 ?_
      repeat (first | refine Safe.seq ?_ | refine Safe.skip ?_ | with_reducible refine thenQ.n ?_ | with_reducible refine blockQ.n ?_)
      refine Safe.exit ?_
      repeat (first | with_reducible refine thenQ.e ?_ | with_reducible refine blockQ.x rfl ?_ | with_reducible refine blockQ.y rfl ?_)
      replace h := inr_out h hr2390
      repeat (first | refine Safe.seq ?_ | refine Safe.skip ?_ | with_reducible refine thenQ.n ?_ | with_reducible refine blockQ.n ?_)
      refine Safe.region ?_
      refine SafeOps.quiet0 E_good rfl rfl rfl (v := V.ref [7000, 118, 3] 0 (rws (fun n => [V.int .i64 n]) v3_2388).length) (.fn rfl) ?_
      refine SafeOps.quiet0 E_good rfl rfl rfl (v := V.ref [7000, 118, 3] 0 (rws (fun n => [V.int .i64 n]) v3_2388).length) (.fn rfl) ?_
      refine SafeOps.nil ?_
      repeat (first | refine Safe.seq ?_ | refine Safe.skip ?_ | with_reducible refine thenQ.n ?_ | with_reducible refine blockQ.n ?_)
      refine Safe.ret ?_
      repeat (first | with_reducible refine thenQ.r ?_ | with_reducible refine blockQ.r ?_)
      obtain rfl := Option.some.inj h
      exact retQ.gen (vs := [V.ref [7000, 118, 3] 0 (rws (fun n => [V.int .i64 n]) v3_2388).length]) rfl (.tmp (v := V.ref [7000, 118, 3] 0 (rws (fun n => [V.int .i64 n]) v3_2388).length) rfl .nil) (by exact (.own rfl rfl)) (by simp) (.inr rfl)

noncomputable def go_ravelref04_Tasks (a0_1308 : List (List api_Instr)) (a1_1309 : Int) : Option (Int × Int) :=
  (go_ravelref04_CheckAll a0_1308).bind fun x_2573 =>
  if (((x_2573 != 0) || (decide (a1_1309 < 0))) || (decide (a1_1309 ≥ (a0_1308.length : Int)))) = true then
    some (0, 1)
  else
    (go_ravelref04_table a0_1308).bind fun x_2578 =>
    if 0 ≤ a1_1309 ∧ a1_1309 < (x_2578.length : Int) then
      if ((gt x_2578 a1_1309) == 0) = true then
        some (0, 9)
      else
        if (decide ((gt x_2578 a1_1309) > 1099511627776)) = true then
          some (0, 4)
        else
          some ((gt x_2578 a1_1309), 0)
    else none

theorem go_ravelref04_Tasks_sc (a0_1308 : List (List api_Instr)) (a1_1309 : Int) (r : Int × Int) (h : go_ravelref04_Tasks a0_1308 a1_1309 = some r) : SC Try.prog gl 18 [V.sl 1 (rws (fun l => [V.sl 3 (rws api_Instr.cells l)]) a0_1308), V.int .i64 a1_1309] (V.tup [V.int .i64 r.1, V.int .i64 r.2]) := by
  rw [go_ravelref04_Tasks] at h
  refine SC.of E_good Try.func18 rfl (fun _ _ => Try.call18 _ _) rfl ?_
  repeat (first | refine Safe.seq ?_ | refine Safe.skip ?_ | with_reducible refine thenQ.n ?_ | with_reducible refine blockQ.n ?_)
  refine Safe.region ?_
  refine SafeOps.quiet0 E_good rfl rfl rfl (v := V.int .i64 0) (.fn rfl) ?_
  refine SafeOps.quiet0 E_good rfl rfl rfl (v := V.int .i64 0) (.fn rfl) ?_
  refine SafeOps.nil ?_
  repeat (first | refine Safe.seq ?_ | refine Safe.skip ?_ | with_reducible refine thenQ.n ?_ | with_reducible refine blockQ.n ?_)
  refine Safe.region ?_
  refine SafeOps.quiet0 E_good rfl rfl rfl (v := V.sl 1 (rws (fun l => [V.sl 3 (rws api_Instr.cells l)]) a0_1308)) (.fn rfl) ?_
  refine bindG h ?_
  intro x_2573 he2574 h
  refine SafeOps.quiet0 E_good rfl rfl rfl (v := V.int .i64 x_2573) (.callP rfl rfl (go_ravelref04_CheckAll_sc a0_1308 _ he2574) rfl) ?_
  refine SafeOps.quiet0 E_good rfl rfl rfl (v := V.bool (x_2573 != 0)) (.fn rfl) ?_
  refine SafeOps.quiet0 E_good rfl rfl rfl (v := V.bool (x_2573 != 0)) (.fn rfl) ?_
  refine SafeOps.bjoin 3 13 (b := ((x_2573 != 0) || (decide (a1_1309 < 0)))) (b1 := true) (b0 := decide (a1_1309 < 0)) (fun hc2575 K => ?_) (fun hc2575 K => ?_) bj_or ?_
  · skip
    refine SafeOps.skip (congrArg (fun b => some (!b)) hc2575) rfl rfl ?_
    refine SafeOps.skip (congrArg (fun b => some (!b)) hc2575) rfl rfl ?_
    refine SafeOps.quiet0 E_good rfl rfl rfl (v := V.bool true) (.pickK rfl hc2575 rfl) ?_
    exact SafeOps.drop' 3 rfl rfl rfl K
  · skip
    refine SafeOps.quiet0 E_good (congrArg (fun b => some (!b)) hc2575) rfl rfl (v := V.int .i64 a1_1309) (.fn rfl) ?_
    refine SafeOps.quiet0 E_good (congrArg (fun b => some (!b)) hc2575) rfl rfl (v := V.bool (decide (a1_1309 < 0))) (.fn rfl) ?_
    refine SafeOps.quiet0 E_good rfl rfl rfl (v := V.bool (decide (a1_1309 < 0))) (.pickK rfl hc2575 rfl) ?_
    exact SafeOps.drop' 3 rfl rfl rfl K
  refine SafeOps.quiet0 E_good rfl rfl rfl (v := V.bool ((x_2573 != 0) || (decide (a1_1309 < 0)))) (.fn rfl) ?_
  refine SafeOps.bjoin 5 19 (b := (((x_2573 != 0) || (decide (a1_1309 < 0))) || (decide (a1_1309 ≥ (a0_1308.length : Int))))) (b1 := true) (b0 := decide (a1_1309 ≥ (a0_1308.length : Int))) (fun hc2576 K => ?_) (fun hc2576 K => ?_) bj_or ?_
  · skip
    refine SafeOps.skip (congrArg (fun b => some (!b)) hc2576) rfl rfl ?_
    refine SafeOps.skip (congrArg (fun b => some (!b)) hc2576) rfl rfl ?_
    refine SafeOps.skip (congrArg (fun b => some (!b)) hc2576) rfl rfl ?_
    refine SafeOps.skip (congrArg (fun b => some (!b)) hc2576) rfl rfl ?_
    refine SafeOps.quiet0 E_good rfl rfl rfl (v := V.bool true) (.pickK rfl hc2576 rfl) ?_
    exact SafeOps.drop' 5 rfl rfl rfl K
  · skip
    refine SafeOps.quiet0 E_good (congrArg (fun b => some (!b)) hc2576) rfl rfl (v := V.int .i64 a1_1309) (.fn rfl) ?_
    refine SafeOps.quiet0 E_good (congrArg (fun b => some (!b)) hc2576) rfl rfl (v := V.sl 1 (rws (fun l => [V.sl 3 (rws api_Instr.cells l)]) a0_1308)) (.fn rfl) ?_
    refine SafeOps.quiet0 E_good (congrArg (fun b => some (!b)) hc2576) rfl rfl (v := V.int .i64 (a0_1308.length : Int)) (.fnE rfl lenE) ?_
    refine SafeOps.quiet0 E_good (congrArg (fun b => some (!b)) hc2576) rfl rfl (v := V.bool (decide (a1_1309 ≥ (a0_1308.length : Int)))) (.fn rfl) ?_
    refine SafeOps.quiet0 E_good rfl rfl rfl (v := V.bool (decide (a1_1309 ≥ (a0_1308.length : Int)))) (.pickK rfl hc2576 rfl) ?_
    exact SafeOps.drop' 5 rfl rfl rfl K
  refine SafeOps.nil ?_
  repeat (first | refine Safe.seq ?_ | refine Safe.skip ?_ | with_reducible refine thenQ.n ?_ | with_reducible refine blockQ.n ?_)
  refine ifG h (fun hc2577 h => ?_) (fun hc2577 h => ?_)
  · skip
    refine Safe.condK rfl hc2577 ?_
    repeat (first | refine Safe.seq ?_ | refine Safe.skip ?_ | with_reducible refine thenQ.n ?_ | with_reducible refine blockQ.n ?_)
    refine Safe.region ?_
    refine SafeOps.quiet0 E_good rfl rfl rfl (v := V.int .i64 0) (.fn rfl) ?_
    refine SafeOps.quiet0 E_good rfl rfl rfl (v := V.int .i64 1) (.fn rfl) ?_
    refine SafeOps.nil ?_
    repeat (first | refine Safe.seq ?_ | refine Safe.skip ?_ | with_reducible refine thenQ.n ?_ | with_reducible refine blockQ.n ?_)
    refine Safe.ret ?_
    repeat (first | with_reducible refine thenQ.r ?_ | with_reducible refine blockQ.r ?_)
    obtain rfl := Option.some.inj h
    exact retQ.gen (vs := [V.int .i64 0, V.int .i64 1]) rfl (.tmp (v := V.int .i64 0) rfl (.tmp (v := V.int .i64 1) rfl .nil)) (.free rfl) (by simp) (.inr rfl)
  · skip
    refine Safe.condN rfl hc2577 ?_
    repeat (first | refine Safe.seq ?_ | refine Safe.skip ?_ | with_reducible refine thenQ.n ?_ | with_reducible refine blockQ.n ?_)
    refine Safe.region ?_
    refine SafeOps.quiet0 E_good rfl rfl rfl (v := V.sl 1 (rws (fun l => [V.sl 3 (rws api_Instr.cells l)]) a0_1308)) (.fn rfl) ?_
    refine bindG h ?_
    intro x_2578 he2579 h
    refine SafeOps.quiet E_good rfl rfl rfl (v := V.ref [21, 0] 0 (rws (fun n => [V.int .i64 n]) x_2578).length) (.callP rfl rfl (go_ravelref04_table_sc a0_1308 _ he2579) rfl) rfl ?_
    refine SafeOps.quiet0 E_good rfl rfl rfl (v := V.int .i64 a1_1309) (.fn rfl) ?_
    refine okG h (fun hb2580 h => ?_)
    refine SafeOps.quiet0 E_good rfl rfl rfl (v := V.ptr [21, 0] (0 + Int.toNat a1_1309) 0) (.idxRefM (f := (fun n => [V.int .i64 n])) (xs := x_2578) rfl rfl rfl rfl rfl rfl hb2580) ?_
    refine SafeOps.quiet0 E_good rfl rfl rfl (v := V.int .i64 (gt x_2578 a1_1309)) (.load rfl rfl (.rowsM (f := (fun n => [V.int .i64 n])) (xs := x_2578) hb2580 rfl rfl) rfl) ?_
    refine SafeOps.quiet0 E_good rfl rfl rfl (v := V.int .i64 (gt x_2578 a1_1309)) (.fn rfl) ?_
    refine SafeOps.nil ?_
    repeat (first | refine Safe.seq ?_ | refine Safe.skip ?_ | with_reducible refine thenQ.n ?_ | with_reducible refine blockQ.n ?_)
    refine Safe.region ?_
    refine SafeOps.quiet0 E_good rfl rfl rfl (v := V.int .i64 (gt x_2578 a1_1309)) (.fn rfl) ?_
    refine SafeOps.quiet0 E_good rfl rfl rfl (v := V.bool ((gt x_2578 a1_1309) == 0)) (.fn rfl) ?_
    refine SafeOps.nil ?_
    repeat (first | refine Safe.seq ?_ | refine Safe.skip ?_ | with_reducible refine thenQ.n ?_ | with_reducible refine blockQ.n ?_)
    refine ifG h (fun hc2581 h => ?_) (fun hc2581 h => ?_)
    · skip
      refine Safe.condK rfl hc2581 ?_
      repeat (first | refine Safe.seq ?_ | refine Safe.skip ?_ | with_reducible refine thenQ.n ?_ | with_reducible refine blockQ.n ?_)
      refine Safe.region ?_
      refine SafeOps.quiet0 E_good rfl rfl rfl (v := V.int .i64 0) (.fn rfl) ?_
      refine SafeOps.quiet0 E_good rfl rfl rfl (v := V.int .i64 9) (.fn rfl) ?_
      refine SafeOps.nil ?_
      repeat (first | refine Safe.seq ?_ | refine Safe.skip ?_ | with_reducible refine thenQ.n ?_ | with_reducible refine blockQ.n ?_)
      refine Safe.ret ?_
      repeat (first | with_reducible refine thenQ.r ?_ | with_reducible refine blockQ.r ?_)
      obtain rfl := Option.some.inj h
      exact retQ.gen (vs := [V.int .i64 0, V.int .i64 9]) rfl (.tmp (v := V.int .i64 0) rfl (.tmp (v := V.int .i64 9) rfl .nil)) (.free rfl) (by simp) (.inr rfl)
    · skip
      refine Safe.condN rfl hc2581 ?_
      repeat (first | refine Safe.seq ?_ | refine Safe.skip ?_ | with_reducible refine thenQ.n ?_ | with_reducible refine blockQ.n ?_)
      refine Safe.region ?_
      refine SafeOps.quiet0 E_good rfl rfl rfl (v := V.int .i64 (gt x_2578 a1_1309)) (.fn rfl) ?_
      refine SafeOps.quiet0 E_good rfl rfl rfl (v := V.bool (decide ((gt x_2578 a1_1309) > 1099511627776))) (.fn rfl) ?_
      refine SafeOps.nil ?_
      repeat (first | refine Safe.seq ?_ | refine Safe.skip ?_ | with_reducible refine thenQ.n ?_ | with_reducible refine blockQ.n ?_)
      refine ifG h (fun hc2582 h => ?_) (fun hc2582 h => ?_)
      · skip
        refine Safe.condK rfl hc2582 ?_
        repeat (first | refine Safe.seq ?_ | refine Safe.skip ?_ | with_reducible refine thenQ.n ?_ | with_reducible refine blockQ.n ?_)
        refine Safe.region ?_
        refine SafeOps.quiet0 E_good rfl rfl rfl (v := V.int .i64 0) (.fn rfl) ?_
        refine SafeOps.quiet0 E_good rfl rfl rfl (v := V.int .i64 4) (.fn rfl) ?_
        refine SafeOps.nil ?_
        repeat (first | refine Safe.seq ?_ | refine Safe.skip ?_ | with_reducible refine thenQ.n ?_ | with_reducible refine blockQ.n ?_)
        refine Safe.ret ?_
        repeat (first | with_reducible refine thenQ.r ?_ | with_reducible refine blockQ.r ?_)
        obtain rfl := Option.some.inj h
        exact retQ.gen (vs := [V.int .i64 0, V.int .i64 4]) rfl (.tmp (v := V.int .i64 0) rfl (.tmp (v := V.int .i64 4) rfl .nil)) (.free rfl) (by simp) (.inr rfl)
      · skip
        refine Safe.condN rfl hc2582 ?_
        repeat (first | refine Safe.seq ?_ | refine Safe.skip ?_ | with_reducible refine thenQ.n ?_ | with_reducible refine blockQ.n ?_)
        refine Safe.region ?_
        refine SafeOps.quiet0 E_good rfl rfl rfl (v := V.int .i64 (gt x_2578 a1_1309)) (.fn rfl) ?_
        refine SafeOps.quiet0 E_good rfl rfl rfl (v := V.int .i64 (gt x_2578 a1_1309)) (.fn rfl) ?_
        refine SafeOps.quiet0 E_good rfl rfl rfl (v := V.int .i64 0) (.fn rfl) ?_
        refine SafeOps.nil ?_
        repeat (first | refine Safe.seq ?_ | refine Safe.skip ?_ | with_reducible refine thenQ.n ?_ | with_reducible refine blockQ.n ?_)
        refine Safe.ret ?_
        repeat (first | with_reducible refine thenQ.r ?_ | with_reducible refine blockQ.r ?_)
        obtain rfl := Option.some.inj h
        exact retQ.gen (vs := [V.int .i64 (gt x_2578 a1_1309), V.int .i64 0]) rfl (.tmp (v := V.int .i64 (gt x_2578 a1_1309)) rfl (.tmp (v := V.int .i64 0) rfl .nil)) (.free rfl) (by simp) (.inr rfl)

theorem okT31 : (eqOk Try.prog E 20 31 && !Try.prog.eqGuardType Try.prog.depth 31) = true := by kernel_rfl

noncomputable def go_slices_Equal_api_Instr_api_Instr_s1 (a0_2606 : List api_Instr) (a1_2607 : List api_Instr) : (Int) → Option ((Int) ⊕ (Bool))
  | v13_2636 =>
    if (decide (v13_2636 < (a0_2606.length : Int))) = true then
      if 0 ≤ v13_2636 ∧ v13_2636 < (a0_2606.length : Int) then
        if 0 ≤ v13_2636 ∧ v13_2636 < (a1_2607.length : Int) then
          if (!(api_Instr.beq (gt a0_2606 v13_2636) (gt a1_2607 v13_2636))) = true then
            inrO (
              some false)
          else
            nextO (IntKind.i64.wrap (v13_2636 + 1))
        else none
      else none
    else
      inrO (
        some true)

noncomputable def go_slices_Equal_api_Instr_api_Instr (a0_2606 : List api_Instr) (a1_2607 : List api_Instr) : Option Bool :=
  if ((a0_2606.length : Int) != (a1_2607.length : Int)) = true then
    some false
  else
    whileO (go_slices_Equal_api_Instr_api_Instr_s1 a0_2606 a1_2607) 0

theorem go_slices_Equal_api_Instr_api_Instr_sc (a0_2606 : List api_Instr) (a1_2607 : List api_Instr) (r : Bool) (h : go_slices_Equal_api_Instr_api_Instr a0_2606 a1_2607 = some r) : SC Try.prog gl 36 [V.sl 3 (rws api_Instr.cells a0_2606), V.sl 3 (rws api_Instr.cells a1_2607)] (V.bool r) := by
  rw [go_slices_Equal_api_Instr_api_Instr] at h
  refine SC.of E_good Try.func36 rfl (fun _ _ => Try.call36 _ _) rfl ?_
  repeat (first | refine Safe.seq ?_ | refine Safe.skip ?_ | with_reducible refine thenQ.n ?_ | with_reducible refine blockQ.n ?_)
  refine Safe.region ?_
  refine SafeOps.quiet0 E_good rfl rfl rfl (v := V.bool false) (.fn rfl) ?_
  refine SafeOps.nil ?_
  repeat (first | refine Safe.seq ?_ | refine Safe.skip ?_ | with_reducible refine thenQ.n ?_ | with_reducible refine blockQ.n ?_)
  refine Safe.region ?_
  refine SafeOps.quiet0 E_good rfl rfl rfl (v := V.sl 3 (rws api_Instr.cells a0_2606)) (.fn rfl) ?_
  refine SafeOps.quiet0 E_good rfl rfl rfl (v := V.int .i64 (a0_2606.length : Int)) (.fnE rfl lenE) ?_
  refine SafeOps.quiet0 E_good rfl rfl rfl (v := V.sl 3 (rws api_Instr.cells a1_2607)) (.fn rfl) ?_
  refine SafeOps.quiet0 E_good rfl rfl rfl (v := V.int .i64 (a1_2607.length : Int)) (.fnE rfl lenE) ?_
  refine SafeOps.quiet0 E_good rfl rfl rfl (v := V.bool ((a0_2606.length : Int) != (a1_2607.length : Int))) (.fn rfl) ?_
  refine SafeOps.nil ?_
  repeat (first | refine Safe.seq ?_ | refine Safe.skip ?_ | with_reducible refine thenQ.n ?_ | with_reducible refine blockQ.n ?_)
  refine ifG h (fun hc2626 h => ?_) (fun hc2626 h => ?_)
  · skip
    refine Safe.condK rfl hc2626 ?_
    repeat (first | refine Safe.seq ?_ | refine Safe.skip ?_ | with_reducible refine thenQ.n ?_ | with_reducible refine blockQ.n ?_)
    refine Safe.region ?_
    refine SafeOps.quiet0 E_good rfl rfl rfl (v := V.bool false) (.fn rfl) ?_
    refine SafeOps.nil ?_
    repeat (first | refine Safe.seq ?_ | refine Safe.skip ?_ | with_reducible refine thenQ.n ?_ | with_reducible refine blockQ.n ?_)
    refine Safe.ret ?_
    repeat (first | with_reducible refine thenQ.r ?_ | with_reducible refine blockQ.r ?_)
    obtain rfl := Option.some.inj h
    exact retQ.gen (vs := [V.bool false]) rfl (.tmp (v := V.bool false) rfl .nil) (.free rfl) (by simp) (.inr rfl)
  · skip
    refine Safe.condN rfl hc2626 ?_
    repeat (first | refine Safe.seq ?_ | refine Safe.skip ?_ | with_reducible refine thenQ.n ?_ | with_reducible refine blockQ.n ?_)
    refine Safe.region ?_
    refine SafeOps.quiet0 E_good rfl rfl rfl (v := V.sl 3 (rws api_Instr.cells a0_2606)) (.fn rfl) ?_
    refine SafeOps.quiet0 E_good rfl rfl rfl (v := V.int .i64 (a0_2606.length : Int)) (.fnE rfl lenE) ?_
    refine SafeOps.quiet0 E_good rfl rfl rfl (v := V.int .i64 0) (.fn rfl) ?_
    refine SafeOps.nil ?_
    repeat (first | refine Safe.seq ?_ | refine Safe.skip ?_ | with_reducible refine thenQ.n ?_ | with_reducible refine blockQ.n ?_)
    refine Safe.block ?_
    repeat (first | refine Safe.seq ?_ | refine Safe.skip ?_ | with_reducible refine thenQ.n ?_ | with_reducible refine blockQ.n ?_)
    refine Safe.loopW (fun (v13_2636 : Int) => ⟨Try.f36.ntmps, [(0, V.sl 3 (rws api_Instr.cells a0_2606)), (1, V.sl 3 (rws api_Instr.cells a1_2607)), (12, V.int .i64 (a0_2606.length : Int)), (13, V.int .i64 v13_2636)], [], [], []⟩) h (.cov ⟨rfl, rfl, (upT_cons (.refl _) (upT_cons (.refl _) (upT_cons (.refl _) (upT_cons (.refl _) upT_nil)))), upOb_nil, upOut_nil, rfl⟩) ?_
    intro v13_2636 ohr2637 h hr2637
    replace h : go_slices_Equal_api_Instr_api_Instr_s1 a0_2606 a1_2607 v13_2636 = some ohr2637 := h
    rw [go_slices_Equal_api_Instr_api_Instr_s1] at h
    repeat (first | refine Safe.seq ?_ | refine Safe.skip ?_ | with_reducible refine thenQ.n ?_ | with_reducible refine blockQ.n ?_)
    refine Safe.region ?_
    refine SafeOps.quiet0 E_good rfl rfl rfl (v := V.bool (decide (v13_2636 < (a0_2606.length : Int)))) (.fn rfl) ?_
    refine SafeOps.nil ?_
    repeat (first | refine Safe.seq ?_ | refine Safe.skip ?_ | with_reducible refine thenQ.n ?_ | with_reducible refine blockQ.n ?_)
    refine ifG h (fun hc2638 h => ?_) (fun hc2638 h => ?_)
    · skip
      refine Safe.condK rfl hc2638 ?_
      repeat (first | refine Safe.seq ?_ | refine Safe.skip ?_ | with_reducible refine thenQ.n ?_ | with_reducible refine blockQ.n ?_)
      refine Safe.block ?_
      repeat (first | refine Safe.seq ?_ | refine Safe.skip ?_ | with_reducible refine thenQ.n ?_ | with_reducible refine blockQ.n ?_)
      refine Safe.region ?_
      refine SafeOps.quiet0 E_good rfl rfl rfl (v := V.int .i64 v13_2636) (.fn rfl) ?_
      refine SafeOps.quiet0 E_good rfl rfl rfl (v := V.int .i64 v13_2636) (.fn rfl) ?_
      refine SafeOps.nil ?_
      repeat (first | refine Safe.seq ?_ | refine Safe.skip ?_ | with_reducible refine thenQ.n ?_ | with_reducible refine blockQ.n ?_)
      refine Safe.regionD (n := 9) [] [] E_good mixed rfl ?_
      refine DAny.take (i := 0) rfl (by kernel_rfl) [] (by kernel_rfl) (by kernel_rfl) (by kernel_rfl) rfl rfl rfl (v := V.sl 3 (rws api_Instr.cells a0_2606)) (fun _ hz => (.fn rfl)) ?_
      refine DAny.take (i := 1) rfl (by kernel_rfl) [] (by kernel_rfl) (by kernel_rfl) (by kernel_rfl) rfl rfl rfl (v := V.int .i64 v13_2636) (fun _ hz => (.fn rfl)) ?_
      refine okG h (fun hb2639 h => ?_)
      refine DAny.take (i := 2) rfl (by kernel_rfl) [] (by kernel_rfl) (by kernel_rfl) (by kernel_rfl) rfl rfl rfl (v := V.spt 3 (rws api_Instr.cells a0_2606) (Int.toNat v13_2636) 0) (fun _ hz => (.idxSlM (f := api_Instr.cells) rfl rfl rfl rfl rfl hb2639)) ?_
      refine DAny.take (i := 3) rfl (by kernel_rfl) [] (by kernel_rfl) (by kernel_rfl) (by kernel_rfl) rfl rfl rfl (v := V.agg [V.int .i64 ((gt a0_2606 v13_2636).Op), V.int .i64 ((gt a0_2606 v13_2636).A), V.int .i64 ((gt a0_2606 v13_2636).B)]) (fun _ hz => (.load rfl rfl (.sptM (f := api_Instr.cells) hb2639 rfl) rfl)) ?_
      refine DAny.take (i := 4) rfl (by kernel_rfl) [] (by kernel_rfl) (by kernel_rfl) (by kernel_rfl) rfl rfl rfl (v := V.sl 3 (rws api_Instr.cells a1_2607)) (fun _ hz => (.fn rfl)) ?_
      refine DAny.take (i := 5) rfl (by kernel_rfl) [] (by kernel_rfl) (by kernel_rfl) (by kernel_rfl) rfl rfl rfl (v := V.int .i64 v13_2636) (fun _ hz => (.fn rfl)) ?_
      refine okG h (fun hb2640 h => ?_)
      refine DAny.take (i := 6) rfl (by kernel_rfl) [] (by kernel_rfl) (by kernel_rfl) (by kernel_rfl) rfl rfl rfl (v := V.spt 3 (rws api_Instr.cells a1_2607) (Int.toNat v13_2636) 0) (fun _ hz => (.idxSlM (f := api_Instr.cells) rfl rfl rfl rfl rfl hb2640)) ?_
      refine DAny.take (i := 7) rfl (by kernel_rfl) [] (by kernel_rfl) (by kernel_rfl) (by kernel_rfl) rfl rfl rfl (v := V.agg [V.int .i64 ((gt a1_2607 v13_2636).Op), V.int .i64 ((gt a1_2607 v13_2636).A), V.int .i64 ((gt a1_2607 v13_2636).B)]) (fun _ hz => (.load rfl rfl (.sptM (f := api_Instr.cells) hb2640 rfl) rfl)) ?_
      refine DAny.take (i := 8) rfl (by kernel_rfl) [] (by kernel_rfl) (by kernel_rfl) (by kernel_rfl) rfl rfl rfl (v := V.bool (!(api_Instr.beq (gt a0_2606 v13_2636) (gt a1_2607 v13_2636)))) (fun _ hz => (.neA rfl rfl rfl rfl okT31 rfl)) ?_
      refine DAny.nil (by kernel_rfl) ?_
      repeat (first | refine Safe.seq ?_ | refine Safe.skip ?_ | with_reducible refine thenQ.n ?_ | with_reducible refine blockQ.n ?_)
      refine ifG h (fun hc2641 h => ?_) (fun hc2641 h => ?_)
      · skip
        refine Safe.condK rfl hc2641 ?_
        repeat (first | refine Safe.seq ?_ | refine Safe.skip ?_ | with_reducible refine thenQ.n ?_ | with_reducible refine blockQ.n ?_)
        refine Safe.region ?_
        refine SafeOps.quiet0 E_good rfl rfl rfl (v := V.bool false) (.fn rfl) ?_
        refine SafeOps.nil ?_
        repeat (first | refine Safe.seq ?_ | refine Safe.skip ?_ | with_reducible refine thenQ.n ?_ | with_reducible refine blockQ.n ?_)
        refine Safe.ret ?_
        repeat (first | with_reducible refine thenQ.r ?_ | with_reducible refine blockQ.r ?_)
        replace h := inr_out h hr2637
        obtain rfl := Option.some.inj h
        exact retQ.gen (vs := [V.bool false]) rfl (.tmp (v := V.bool false) rfl .nil) (.free rfl) (by simp) (.inr rfl)
      · skip
        refine Safe.condN rfl hc2641 ?_
        repeat (first | refine Safe.seq ?_ | refine Safe.skip ?_ | with_reducible refine thenQ.n ?_ | with_reducible refine blockQ.n ?_)
        refine Safe.region ?_
        refine SafeOps.quiet0 E_good rfl rfl rfl (v := V.int .i64 (IntKind.i64.wrap (v13_2636 + 1))) (.fn rfl) ?_
        refine SafeOps.quiet0 E_good rfl rfl rfl (v := V.int .i64 (IntKind.i64.wrap (v13_2636 + 1))) (.fn rfl) ?_
        refine SafeOps.nil ?_
        repeat (first | refine Safe.seq ?_ | refine Safe.skip ?_ | with_reducible refine thenQ.n ?_ | with_reducible refine blockQ.n ?_)
        exact ⟨_, next_out h, (.cov ⟨rfl, rfl, (upT_cons (.refl _) (upT_cons (.refl _) (upT_cons (.refl _) (upT_cons (.refl _) upT_nil)))), upOb_nil, upOut_nil, rfl⟩)⟩
    · skip
      refine Safe.condN rfl hc2638 ?_
      repeat (first | refine Safe.seq ?_ | refine Safe.skip ?_ | with_reducible refine thenQ.n ?_ | with_reducible refine blockQ.n ?_)
      refine Safe.exit ?_
      repeat (first | with_reducible refine thenQ.e ?_ | with_reducible refine blockQ.x rfl ?_ | with_reducible refine blockQ.y rfl ?_)
      replace h := inr_out h hr2637
      repeat (first | refine Safe.seq ?_ | refine Safe.skip ?_ | with_reducible refine thenQ.n ?_ | with_reducible refine blockQ.n ?_)
      refine Safe.region ?_
      refine SafeOps.quiet0 E_good rfl rfl rfl (v := V.bool true) (.fn rfl) ?_
      refine SafeOps.nil ?_
      repeat (first | refine Safe.seq ?_ | refine Safe.skip ?_ | with_reducible refine thenQ.n ?_ | with_reducible refine blockQ.n ?_)
      refine Safe.ret ?_
      repeat (first | with_reducible refine thenQ.r ?_ | with_reducible refine blockQ.r ?_)
      obtain rfl := Option.some.inj h
      exact retQ.gen (vs := [V.bool true]) rfl (.tmp (v := V.bool true) rfl .nil) (.free rfl) (by simp) (.inr rfl)

noncomputable def go_slices_EqualFunc_api_Instr_api_Instr_api_Instr_api_Instr_Instr36_s1 (a0_2598 : List (List api_Instr)) (a1_2599 : List (List api_Instr)) : (Int) → Option ((Int) ⊕ (Bool))
  | v17_2674 =>
    if (decide (v17_2674 < (a0_2598.length : Int))) = true then
      if 0 ≤ v17_2674 ∧ v17_2674 < (a0_2598.length : Int) then
        if 0 ≤ v17_2674 ∧ v17_2674 < (a1_2599.length : Int) then
          (go_slices_Equal_api_Instr_api_Instr (gt a0_2598 v17_2674) (gt a1_2599 v17_2674)).bind fun x_2679 =>
          if (!x_2679) = true then
            inrO (
              some false)
          else
            nextO (IntKind.i64.wrap (v17_2674 + 1))
        else none
      else none
    else
      inrO (
        some true)

noncomputable def go_slices_EqualFunc_api_Instr_api_Instr_api_Instr_api_Instr_Instr36 (a0_2598 : List (List api_Instr)) (a1_2599 : List (List api_Instr)) : Option Bool :=
  if ((a0_2598.length : Int) != (a1_2599.length : Int)) = true then
    some false
  else
    whileO (go_slices_EqualFunc_api_Instr_api_Instr_api_Instr_api_Instr_Instr36_s1 a0_2598 a1_2599) 0

theorem go_slices_EqualFunc_api_Instr_api_Instr_api_Instr_api_Instr_Instr36_sc (a0_2598 : List (List api_Instr)) (a1_2599 : List (List api_Instr)) (r : Bool) (h : go_slices_EqualFunc_api_Instr_api_Instr_api_Instr_api_Instr_Instr36 a0_2598 a1_2599 = some r) : SC Try.prog gl 35 [V.sl 1 (rws (fun l => [V.sl 3 (rws api_Instr.cells l)]) a0_2598), V.sl 1 (rws (fun l => [V.sl 3 (rws api_Instr.cells l)]) a1_2599), V.fn 36 []] (V.bool r) := by
  rw [go_slices_EqualFunc_api_Instr_api_Instr_api_Instr_api_Instr_Instr36] at h
  refine SC.of E_good Try.func35 rfl (fun _ _ => Try.call35 _ _) rfl ?_
  repeat (first | refine Safe.seq ?_ | refine Safe.skip ?_ | with_reducible refine thenQ.n ?_ | with_reducible refine blockQ.n ?_)
  refine Safe.region ?_
  refine SafeOps.quiet0 E_good rfl rfl rfl (v := V.bool false) (.fn rfl) ?_
  refine SafeOps.nil ?_
  repeat (first | refine Safe.seq ?_ | refine Safe.skip ?_ | with_reducible refine thenQ.n ?_ | with_reducible refine blockQ.n ?_)
  refine Safe.region ?_
  refine SafeOps.quiet0 E_good rfl rfl rfl (v := V.sl 1 (rws (fun l => [V.sl 3 (rws api_Instr.cells l)]) a0_2598)) (.fn rfl) ?_
  refine SafeOps.quiet0 E_good rfl rfl rfl (v := V.int .i64 (a0_2598.length : Int)) (.fnE rfl lenE) ?_
  refine SafeOps.quiet0 E_good rfl rfl rfl (v := V.sl 1 (rws (fun l => [V.sl 3 (rws api_Instr.cells l)]) a1_2599)) (.fn rfl) ?_
  refine SafeOps.quiet0 E_good rfl rfl rfl (v := V.int .i64 (a1_2599.length : Int)) (.fnE rfl lenE) ?_
  refine SafeOps.quiet0 E_good rfl rfl rfl (v := V.bool ((a0_2598.length : Int) != (a1_2599.length : Int))) (.fn rfl) ?_
  refine SafeOps.nil ?_
  repeat (first | refine Safe.seq ?_ | refine Safe.skip ?_ | with_reducible refine thenQ.n ?_ | with_reducible refine blockQ.n ?_)
  refine ifG h (fun hc2660 h => ?_) (fun hc2660 h => ?_)
  · skip
    refine Safe.condK rfl hc2660 ?_
    repeat (first | refine Safe.seq ?_ | refine Safe.skip ?_ | with_reducible refine thenQ.n ?_ | with_reducible refine blockQ.n ?_)
    refine Safe.region ?_
    refine SafeOps.quiet0 E_good rfl rfl rfl (v := V.bool false) (.fn rfl) ?_
    refine SafeOps.nil ?_
    repeat (first | refine Safe.seq ?_ | refine Safe.skip ?_ | with_reducible refine thenQ.n ?_ | with_reducible refine blockQ.n ?_)
    refine Safe.ret ?_
    repeat (first | with_reducible refine thenQ.r ?_ | with_reducible refine blockQ.r ?_)
    obtain rfl := Option.some.inj h
    exact retQ.gen (vs := [V.bool false]) rfl (.tmp (v := V.bool false) rfl .nil) (.free rfl) (by simp) (.inr rfl)
  · skip
    refine Safe.condN rfl hc2660 ?_
    repeat (first | refine Safe.seq ?_ | refine Safe.skip ?_ | with_reducible refine thenQ.n ?_ | with_reducible refine blockQ.n ?_)
    refine Safe.region ?_
    refine SafeOps.quiet0 E_good rfl rfl rfl (v := V.sl 1 (rws (fun l => [V.sl 3 (rws api_Instr.cells l)]) a0_2598)) (.fn rfl) ?_
    refine SafeOps.quiet0 E_good rfl rfl rfl (v := V.int .i64 (a0_2598.length : Int)) (.fnE rfl lenE) ?_
    refine SafeOps.quiet0 E_good rfl rfl rfl (v := V.int .i64 0) (.fn rfl) ?_
    refine SafeOps.nil ?_
    repeat (first | refine Safe.seq ?_ | refine Safe.skip ?_ | with_reducible refine thenQ.n ?_ | with_reducible refine blockQ.n ?_)
    refine Safe.block ?_
    repeat (first | refine Safe.seq ?_ | refine Safe.skip ?_ | with_reducible refine thenQ.n ?_ | with_reducible refine blockQ.n ?_)
    refine Safe.loopW (fun (v17_2674 : Int) => ⟨Try.f35.ntmps, [(1, V.sl 1 (rws (fun l => [V.sl 3 (rws api_Instr.cells l)]) a1_2599)), (2, V.fn 36 []), (15, V.sl 1 (rws (fun l => [V.sl 3 (rws api_Instr.cells l)]) a0_2598)), (16, V.int .i64 (a0_2598.length : Int)), (17, V.int .i64 v17_2674)], [], [], []⟩) h (.cov ⟨rfl, rfl, (upT_cons (.refl _) (upT_cons (.refl _) (upT_cons (.refl _) (upT_cons (.refl _) (upT_cons (.refl _) upT_nil))))), upOb_nil, upOut_nil, rfl⟩) ?_
    intro v17_2674 ohr2675 h hr2675
    replace h : go_slices_EqualFunc_api_Instr_api_Instr_api_Instr_api_Instr_Instr36_s1 a0_2598 a1_2599 v17_2674 = some ohr2675 := h
    rw [go_slices_EqualFunc_api_Instr_api_Instr_api_Instr_api_Instr_Instr36_s1] at h
    repeat (first | refine Safe.seq ?_ | refine Safe.skip ?_ | with_reducible refine thenQ.n ?_ | with_reducible refine blockQ.n ?_)
    refine Safe.region ?_
    refine SafeOps.quiet0 E_good rfl rfl rfl (v := V.bool (decide (v17_2674 < (a0_2598.length : Int)))) (.fn rfl) ?_
    refine SafeOps.nil ?_
    repeat (first | refine Safe.seq ?_ | refine Safe.skip ?_ | with_reducible refine thenQ.n ?_ | with_reducible refine blockQ.n ?_)
    refine ifG h (fun hc2676 h => ?_) (fun hc2676 h => ?_)
    · skip
      refine Safe.condK rfl hc2676 ?_
      repeat (first | refine Safe.seq ?_ | refine Safe.skip ?_ | with_reducible refine thenQ.n ?_ | with_reducible refine blockQ.n ?_)
      refine Safe.block ?_
      repeat (first | refine Safe.seq ?_ | refine Safe.skip ?_ | with_reducible refine thenQ.n ?_ | with_reducible refine blockQ.n ?_)
      refine Safe.region ?_
      refine SafeOps.quiet0 E_good rfl rfl rfl (v := V.int .i64 v17_2674) (.fn rfl) ?_
      refine okG h (fun hb2677 h => ?_)
      refine SafeOps.quiet0 E_good rfl rfl rfl (v := V.spt 1 (rws (fun l => [V.sl 3 (rws api_Instr.cells l)]) a0_2598) (Int.toNat v17_2674) 0) (.idxSlM (f := (fun l => [V.sl 3 (rws api_Instr.cells l)])) rfl rfl rfl rfl rfl hb2677) ?_
      refine SafeOps.quiet0 E_good rfl rfl rfl (v := V.sl 3 (rws api_Instr.cells (gt a0_2598 v17_2674))) (.load rfl rfl (.sptM (f := (fun l => [V.sl 3 (rws api_Instr.cells l)])) hb2677 rfl) rfl) ?_
      refine SafeOps.quiet0 E_good rfl rfl rfl (v := V.int .i64 v17_2674) (.fn rfl) ?_
      refine SafeOps.quiet0 E_good rfl rfl rfl (v := V.sl 3 (rws api_Instr.cells (gt a0_2598 v17_2674))) (.fn rfl) ?_
      refine SafeOps.nil ?_
      repeat (first | refine Safe.seq ?_ | refine Safe.skip ?_ | with_reducible refine thenQ.n ?_ | with_reducible refine blockQ.n ?_)
      refine Safe.region ?_
      refine SafeOps.quiet0 E_good rfl rfl rfl (v := V.sl 1 (rws (fun l => [V.sl 3 (rws api_Instr.cells l)]) a1_2599)) (.fn rfl) ?_
      refine SafeOps.quiet0 E_good rfl rfl rfl (v := V.int .i64 v17_2674) (.fn rfl) ?_
      refine okG h (fun hb2678 h => ?_)
      refine SafeOps.quiet0 E_good rfl rfl rfl (v := V.spt 1 (rws (fun l => [V.sl 3 (rws api_Instr.cells l)]) a1_2599) (Int.toNat v17_2674) 0) (.idxSlM (f := (fun l => [V.sl 3 (rws api_Instr.cells l)])) rfl rfl rfl rfl rfl hb2678) ?_
      refine SafeOps.quiet0 E_good rfl rfl rfl (v := V.sl 3 (rws api_Instr.cells (gt a1_2599 v17_2674))) (.load rfl rfl (.sptM (f := (fun l => [V.sl 3 (rws api_Instr.cells l)])) hb2678 rfl) rfl) ?_
      refine SafeOps.quiet0 E_good rfl rfl rfl (v := V.sl 3 (rws api_Instr.cells (gt a1_2599 v17_2674))) (.fn rfl) ?_
      refine SafeOps.nil ?_
      repeat (first | refine Safe.seq ?_ | refine Safe.skip ?_ | with_reducible refine thenQ.n ?_ | with_reducible refine blockQ.n ?_)
      refine Safe.region ?_
      refine SafeOps.quiet0 E_good rfl rfl rfl (v := V.fn 36 []) (.fn rfl) ?_
      refine SafeOps.quiet0 E_good rfl rfl rfl (v := V.sl 3 (rws api_Instr.cells (gt a0_2598 v17_2674))) (.fn rfl) ?_
      refine SafeOps.quiet0 E_good rfl rfl rfl (v := V.sl 3 (rws api_Instr.cells (gt a1_2599 v17_2674))) (.fn rfl) ?_
      refine bindG h ?_
      intro x_2679 he2680 h
      refine SafeOps.quiet0 E_good rfl rfl rfl (v := V.bool x_2679) (.callP rfl rfl (go_slices_Equal_api_Instr_api_Instr_sc (gt a0_2598 v17_2674) (gt a1_2599 v17_2674) _ he2680) rfl) ?_
      refine SafeOps.quiet0 E_good rfl rfl rfl (v := V.bool (!x_2679)) (.fn rfl) ?_
      refine SafeOps.nil ?_
      repeat (first | refine Safe.seq ?_ | refine Safe.skip ?_ | with_reducible refine thenQ.n ?_ | with_reducible refine blockQ.n ?_)
      refine ifG h (fun hc2681 h => ?_) (fun hc2681 h => ?_)
      · skip
        refine Safe.condK rfl hc2681 ?_
        repeat (first | refine Safe.seq ?_ | refine Safe.skip ?_ | with_reducible refine thenQ.n ?_ | with_reducible refine blockQ.n ?_)
        refine Safe.region ?_
        refine SafeOps.quiet0 E_good rfl rfl rfl (v := V.bool false) (.fn rfl) ?_
        refine SafeOps.nil ?_
        repeat (first | refine Safe.seq ?_ | refine Safe.skip ?_ | with_reducible refine thenQ.n ?_ | with_reducible refine blockQ.n ?_)
        refine Safe.ret ?_
        repeat (first | with_reducible refine thenQ.r ?_ | with_reducible refine blockQ.r ?_)
        replace h := inr_out h hr2675
        obtain rfl := Option.some.inj h
        exact retQ.gen (vs := [V.bool false]) rfl (.tmp (v := V.bool false) rfl .nil) (.free rfl) (by simp) (.inr rfl)
      · skip
        refine Safe.condN rfl hc2681 ?_
        repeat (first | refine Safe.seq ?_ | refine Safe.skip ?_ | with_reducible refine thenQ.n ?_ | with_reducible refine blockQ.n ?_)
        refine Safe.region ?_
        refine SafeOps.quiet0 E_good rfl rfl rfl (v := V.int .i64 (IntKind.i64.wrap (v17_2674 + 1))) (.fn rfl) ?_
        refine SafeOps.quiet0 E_good rfl rfl rfl (v := V.int .i64 (IntKind.i64.wrap (v17_2674 + 1))) (.fn rfl) ?_
        refine SafeOps.nil ?_
        repeat (first | refine Safe.seq ?_ | refine Safe.skip ?_ | with_reducible refine thenQ.n ?_ | with_reducible refine blockQ.n ?_)
        exact ⟨_, next_out h, (.cov ⟨rfl, rfl, (upT_cons (.refl _) (upT_cons (.refl _) (upT_cons (.refl _) (upT_cons (.refl _) (upT_cons (.refl _) upT_nil))))), upOb_nil, upOut_nil, rfl⟩)⟩
    · skip
      refine Safe.condN rfl hc2676 ?_
      repeat (first | refine Safe.seq ?_ | refine Safe.skip ?_ | with_reducible refine thenQ.n ?_ | with_reducible refine blockQ.n ?_)
      refine Safe.exit ?_
      repeat (first | with_reducible refine thenQ.e ?_ | with_reducible refine blockQ.x rfl ?_ | with_reducible refine blockQ.y rfl ?_)
      replace h := inr_out h hr2675
      repeat (first | refine Safe.seq ?_ | refine Safe.skip ?_ | with_reducible refine thenQ.n ?_ | with_reducible refine blockQ.n ?_)
      refine Safe.region ?_
      refine SafeOps.quiet0 E_good rfl rfl rfl (v := V.bool true) (.fn rfl) ?_
      refine SafeOps.nil ?_
      repeat (first | refine Safe.seq ?_ | refine Safe.skip ?_ | with_reducible refine thenQ.n ?_ | with_reducible refine blockQ.n ?_)
      refine Safe.ret ?_
      repeat (first | with_reducible refine thenQ.r ?_ | with_reducible refine blockQ.r ?_)
      obtain rfl := Option.some.inj h
      exact retQ.gen (vs := [V.bool true]) rfl (.tmp (v := V.bool true) rfl .nil) (.free rfl) (by simp) (.inr rfl)

noncomputable def go_code_Same (a0_2596 : List (List api_Instr)) (a1_2597 : List (List api_Instr)) : Option Bool :=
  (go_slices_EqualFunc_api_Instr_api_Instr_api_Instr_api_Instr_Instr36 a0_2596 a1_2597).bind fun x_2684 =>
  some x_2684

theorem go_code_Same_sc (a0_2596 : List (List api_Instr)) (a1_2597 : List (List api_Instr)) (r : Bool) (h : go_code_Same a0_2596 a1_2597 = some r) : SC Try.prog gl 20 [V.sl 1 (rws (fun l => [V.sl 3 (rws api_Instr.cells l)]) a0_2596), V.sl 1 (rws (fun l => [V.sl 3 (rws api_Instr.cells l)]) a1_2597)] (V.bool r) := by
  rw [go_code_Same] at h
  refine SC.of E_good Try.func20 rfl (fun _ _ => Try.call20 _ _) rfl ?_
  repeat (first | refine Safe.seq ?_ | refine Safe.skip ?_ | with_reducible refine thenQ.n ?_ | with_reducible refine blockQ.n ?_)
  refine Safe.region ?_
  refine SafeOps.quiet0 E_good rfl rfl rfl (v := V.bool false) (.fn rfl) ?_
  refine SafeOps.nil ?_
  repeat (first | refine Safe.seq ?_ | refine Safe.skip ?_ | with_reducible refine thenQ.n ?_ | with_reducible refine blockQ.n ?_)
  refine Safe.region ?_
  refine SafeOps.quiet0 E_good rfl rfl rfl (v := V.sl 1 (rws (fun l => [V.sl 3 (rws api_Instr.cells l)]) a0_2596)) (.fn rfl) ?_
  refine SafeOps.quiet0 E_good rfl rfl rfl (v := V.sl 1 (rws (fun l => [V.sl 3 (rws api_Instr.cells l)]) a1_2597)) (.fn rfl) ?_
  refine bindG h ?_
  intro x_2684 he2685 h
  refine SafeOps.quiet0 E_good rfl rfl rfl (v := V.bool x_2684) (.callP rfl rfl (go_slices_EqualFunc_api_Instr_api_Instr_api_Instr_api_Instr_Instr36_sc a0_2596 a1_2597 _ he2685) rfl) ?_
  refine SafeOps.quiet0 E_good rfl rfl rfl (v := V.bool x_2684) (.fn rfl) ?_
  refine SafeOps.nil ?_
  repeat (first | refine Safe.seq ?_ | refine Safe.skip ?_ | with_reducible refine thenQ.n ?_ | with_reducible refine blockQ.n ?_)
  refine Safe.ret ?_
  repeat (first | with_reducible refine thenQ.r ?_ | with_reducible refine blockQ.r ?_)
  obtain rfl := Option.some.inj h
  exact retQ.gen (vs := [V.bool x_2684]) rfl (.tmp (v := V.bool x_2684) rfl .nil) (.free rfl) (by simp) (.inr rfl)

noncomputable def go_ravelref04_SameOne_s1 (a0_2696 : List api_Instr) (a1_2697 : List api_Instr) : (Int) → Option ((Int) ⊕ (Bool))
  | v13_2726 =>
    if (decide (v13_2726 < (a0_2696.length : Int))) = true then
      if 0 ≤ v13_2726 ∧ v13_2726 < (a0_2696.length : Int) then
        if 0 ≤ v13_2726 ∧ v13_2726 < (a1_2697.length : Int) then
          if (!(api_Instr.beq (gt a0_2696 v13_2726) (gt a1_2697 v13_2726))) = true then
            inrO (
              some false)
          else
            nextO (IntKind.i64.wrap (v13_2726 + 1))
        else none
      else none
    else
      inrO (
        some true)

noncomputable def go_ravelref04_SameOne (a0_2696 : List api_Instr) (a1_2697 : List api_Instr) : Option Bool :=
  if ((a0_2696.length : Int) != (a1_2697.length : Int)) = true then
    some false
  else
    whileO (go_ravelref04_SameOne_s1 a0_2696 a1_2697) 0

theorem go_ravelref04_SameOne_sc (a0_2696 : List api_Instr) (a1_2697 : List api_Instr) (r : Bool) (h : go_ravelref04_SameOne a0_2696 a1_2697 = some r) : SC Try.prog gl 37 [V.sl 3 (rws api_Instr.cells a0_2696), V.sl 3 (rws api_Instr.cells a1_2697)] (V.bool r) := by
  rw [go_ravelref04_SameOne] at h
  refine SC.of E_good Try.func37 rfl (fun _ _ => Try.call37 _ _) rfl ?_
  repeat (first | refine Safe.seq ?_ | refine Safe.skip ?_ | with_reducible refine thenQ.n ?_ | with_reducible refine blockQ.n ?_)
  refine Safe.region ?_
  refine SafeOps.quiet0 E_good rfl rfl rfl (v := V.bool false) (.fn rfl) ?_
  refine SafeOps.nil ?_
  repeat (first | refine Safe.seq ?_ | refine Safe.skip ?_ | with_reducible refine thenQ.n ?_ | with_reducible refine blockQ.n ?_)
  refine Safe.region ?_
  refine SafeOps.quiet0 E_good rfl rfl rfl (v := V.sl 3 (rws api_Instr.cells a0_2696)) (.fn rfl) ?_
  refine SafeOps.quiet0 E_good rfl rfl rfl (v := V.int .i64 (a0_2696.length : Int)) (.fnE rfl lenE) ?_
  refine SafeOps.quiet0 E_good rfl rfl rfl (v := V.sl 3 (rws api_Instr.cells a1_2697)) (.fn rfl) ?_
  refine SafeOps.quiet0 E_good rfl rfl rfl (v := V.int .i64 (a1_2697.length : Int)) (.fnE rfl lenE) ?_
  refine SafeOps.quiet0 E_good rfl rfl rfl (v := V.bool ((a0_2696.length : Int) != (a1_2697.length : Int))) (.fn rfl) ?_
  refine SafeOps.nil ?_
  repeat (first | refine Safe.seq ?_ | refine Safe.skip ?_ | with_reducible refine thenQ.n ?_ | with_reducible refine blockQ.n ?_)
  refine ifG h (fun hc2716 h => ?_) (fun hc2716 h => ?_)
  · skip
    refine Safe.condK rfl hc2716 ?_
    repeat (first | refine Safe.seq ?_ | refine Safe.skip ?_ | with_reducible refine thenQ.n ?_ | with_reducible refine blockQ.n ?_)
    refine Safe.region ?_
    refine SafeOps.quiet0 E_good rfl rfl rfl (v := V.bool false) (.fn rfl) ?_
    refine SafeOps.nil ?_
    repeat (first | refine Safe.seq ?_ | refine Safe.skip ?_ | with_reducible refine thenQ.n ?_ | with_reducible refine blockQ.n ?_)
    refine Safe.ret ?_
    repeat (first | with_reducible refine thenQ.r ?_ | with_reducible refine blockQ.r ?_)
    obtain rfl := Option.some.inj h
    exact retQ.gen (vs := [V.bool false]) rfl (.tmp (v := V.bool false) rfl .nil) (.free rfl) (by simp) (.inr rfl)
  · skip
    refine Safe.condN rfl hc2716 ?_
    repeat (first | refine Safe.seq ?_ | refine Safe.skip ?_ | with_reducible refine thenQ.n ?_ | with_reducible refine blockQ.n ?_)
    refine Safe.region ?_
    refine SafeOps.quiet0 E_good rfl rfl rfl (v := V.sl 3 (rws api_Instr.cells a0_2696)) (.fn rfl) ?_
    refine SafeOps.quiet0 E_good rfl rfl rfl (v := V.int .i64 (a0_2696.length : Int)) (.fnE rfl lenE) ?_
    refine SafeOps.quiet0 E_good rfl rfl rfl (v := V.int .i64 0) (.fn rfl) ?_
    refine SafeOps.nil ?_
    repeat (first | refine Safe.seq ?_ | refine Safe.skip ?_ | with_reducible refine thenQ.n ?_ | with_reducible refine blockQ.n ?_)
    refine Safe.block ?_
    repeat (first | refine Safe.seq ?_ | refine Safe.skip ?_ | with_reducible refine thenQ.n ?_ | with_reducible refine blockQ.n ?_)
    refine Safe.loopW (fun (v13_2726 : Int) => ⟨Try.f37.ntmps, [(0, V.sl 3 (rws api_Instr.cells a0_2696)), (1, V.sl 3 (rws api_Instr.cells a1_2697)), (12, V.int .i64 (a0_2696.length : Int)), (13, V.int .i64 v13_2726)], [], [], []⟩) h (.cov ⟨rfl, rfl, (upT_cons (.refl _) (upT_cons (.refl _) (upT_cons (.refl _) (upT_cons (.refl _) upT_nil)))), upOb_nil, upOut_nil, rfl⟩) ?_
    intro v13_2726 ohr2727 h hr2727
    replace h : go_ravelref04_SameOne_s1 a0_2696 a1_2697 v13_2726 = some ohr2727 := h
    rw [go_ravelref04_SameOne_s1] at h
    repeat (first | refine Safe.seq ?_ | refine Safe.skip ?_ | with_reducible refine thenQ.n ?_ | with_reducible refine blockQ.n ?_)
    refine Safe.region ?_
    refine SafeOps.quiet0 E_good rfl rfl rfl (v := V.bool (decide (v13_2726 < (a0_2696.length : Int)))) (.fn rfl) ?_
    refine SafeOps.nil ?_
    repeat (first | refine Safe.seq ?_ | refine Safe.skip ?_ | with_reducible refine thenQ.n ?_ | with_reducible refine blockQ.n ?_)
    refine ifG h (fun hc2728 h => ?_) (fun hc2728 h => ?_)
    · skip
      refine Safe.condK rfl hc2728 ?_
      repeat (first | refine Safe.seq ?_ | refine Safe.skip ?_ | with_reducible refine thenQ.n ?_ | with_reducible refine blockQ.n ?_)
      refine Safe.block ?_
      repeat (first | refine Safe.seq ?_ | refine Safe.skip ?_ | with_reducible refine thenQ.n ?_ | with_reducible refine blockQ.n ?_)
      refine Safe.region ?_
      refine SafeOps.quiet0 E_good rfl rfl rfl (v := V.int .i64 v13_2726) (.fn rfl) ?_
      refine SafeOps.quiet0 E_good rfl rfl rfl (v := V.int .i64 v13_2726) (.fn rfl) ?_
      refine SafeOps.nil ?_
      repeat (first | refine Safe.seq ?_ | refine Safe.skip ?_ | with_reducible refine thenQ.n ?_ | with_reducible refine blockQ.n ?_)
      refine Safe.regionD (n := 9) [] [] E_good mixed rfl ?_
      refine DAny.take (i := 0) rfl (by kernel_rfl) [] (by kernel_rfl) (by kernel_rfl) (by kernel_rfl) rfl rfl rfl (v := V.sl 3 (rws api_Instr.cells a0_2696)) (fun _ hz => (.fn rfl)) ?_
      refine DAny.take (i := 1) rfl (by kernel_rfl) [] (by kernel_rfl) (by kernel_rfl) (by kernel_rfl) rfl rfl rfl (v := V.int .i64 v13_2726) (fun _ hz => (.fn rfl)) ?_
      refine okG h (fun hb2729 h => ?_)
      refine DAny.take (i := 2) rfl (by kernel_rfl) [] (by kernel_rfl) (by kernel_rfl) (by kernel_rfl) rfl rfl rfl (v := V.spt 3 (rws api_Instr.cells a0_2696) (Int.toNat v13_2726) 0) (fun _ hz => (.idxSlM (f := api_Instr.cells) rfl rfl rfl rfl rfl hb2729)) ?_
      refine DAny.take (i := 3) rfl (by kernel_rfl) [] (by kernel_rfl) (by kernel_rfl) (by kernel_rfl) rfl rfl rfl (v := V.agg [V.int .i64 ((gt a0_2696 v13_2726).Op), V.int .i64 ((gt a0_2696 v13_2726).A), V.int .i64 ((gt a0_2696 v13_2726).B)]) (fun _ hz => (.load rfl rfl (.sptM (f := api_Instr.cells) hb2729 rfl) rfl)) ?_
      refine DAny.take (i := 4) rfl (by kernel_rfl) [] (by kernel_rfl) (by kernel_rfl) (by kernel_rfl) rfl rfl rfl (v := V.sl 3 (rws api_Instr.cells a1_2697)) (fun _ hz => (.fn rfl)) ?_
      refine DAny.take (i := 5) rfl (by kernel_rfl) [] (by kernel_rfl) (by kernel_rfl) (by kernel_rfl) rfl rfl rfl (v := V.int .i64 v13_2726) (fun _ hz => (.fn rfl)) ?_
      refine okG h (fun hb2730 h => ?_)
      refine DAny.take (i := 6) rfl (by kernel_rfl) [] (by kernel_rfl) (by kernel_rfl) (by kernel_rfl) rfl rfl rfl (v := V.spt 3 (rws api_Instr.cells a1_2697) (Int.toNat v13_2726) 0) (fun _ hz => (.idxSlM (f := api_Instr.cells) rfl rfl rfl rfl rfl hb2730)) ?_
      refine DAny.take (i := 7) rfl (by kernel_rfl) [] (by kernel_rfl) (by kernel_rfl) (by kernel_rfl) rfl rfl rfl (v := V.agg [V.int .i64 ((gt a1_2697 v13_2726).Op), V.int .i64 ((gt a1_2697 v13_2726).A), V.int .i64 ((gt a1_2697 v13_2726).B)]) (fun _ hz => (.load rfl rfl (.sptM (f := api_Instr.cells) hb2730 rfl) rfl)) ?_
      refine DAny.take (i := 8) rfl (by kernel_rfl) [] (by kernel_rfl) (by kernel_rfl) (by kernel_rfl) rfl rfl rfl (v := V.bool (!(api_Instr.beq (gt a0_2696 v13_2726) (gt a1_2697 v13_2726)))) (fun _ hz => (.neA rfl rfl rfl rfl okT31 rfl)) ?_
      refine DAny.nil (by kernel_rfl) ?_
      repeat (first | refine Safe.seq ?_ | refine Safe.skip ?_ | with_reducible refine thenQ.n ?_ | with_reducible refine blockQ.n ?_)
      refine ifG h (fun hc2731 h => ?_) (fun hc2731 h => ?_)
      · skip
        refine Safe.condK rfl hc2731 ?_
        repeat (first | refine Safe.seq ?_ | refine Safe.skip ?_ | with_reducible refine thenQ.n ?_ | with_reducible refine blockQ.n ?_)
        refine Safe.region ?_
        refine SafeOps.quiet0 E_good rfl rfl rfl (v := V.bool false) (.fn rfl) ?_
        refine SafeOps.nil ?_
        repeat (first | refine Safe.seq ?_ | refine Safe.skip ?_ | with_reducible refine thenQ.n ?_ | with_reducible refine blockQ.n ?_)
        refine Safe.ret ?_
        repeat (first | with_reducible refine thenQ.r ?_ | with_reducible refine blockQ.r ?_)
        replace h := inr_out h hr2727
        obtain rfl := Option.some.inj h
        exact retQ.gen (vs := [V.bool false]) rfl (.tmp (v := V.bool false) rfl .nil) (.free rfl) (by simp) (.inr rfl)
      · skip
        refine Safe.condN rfl hc2731 ?_
        repeat (first | refine Safe.seq ?_ | refine Safe.skip ?_ | with_reducible refine thenQ.n ?_ | with_reducible refine blockQ.n ?_)
        refine Safe.region ?_
        refine SafeOps.quiet0 E_good rfl rfl rfl (v := V.int .i64 (IntKind.i64.wrap (v13_2726 + 1))) (.fn rfl) ?_
        refine SafeOps.quiet0 E_good rfl rfl rfl (v := V.int .i64 (IntKind.i64.wrap (v13_2726 + 1))) (.fn rfl) ?_
        refine SafeOps.nil ?_
        repeat (first | refine Safe.seq ?_ | refine Safe.skip ?_ | with_reducible refine thenQ.n ?_ | with_reducible refine blockQ.n ?_)
        exact ⟨_, next_out h, (.cov ⟨rfl, rfl, (upT_cons (.refl _) (upT_cons (.refl _) (upT_cons (.refl _) (upT_cons (.refl _) upT_nil)))), upOb_nil, upOut_nil, rfl⟩)⟩
    · skip
      refine Safe.condN rfl hc2728 ?_
      repeat (first | refine Safe.seq ?_ | refine Safe.skip ?_ | with_reducible refine thenQ.n ?_ | with_reducible refine blockQ.n ?_)
      refine Safe.exit ?_
      repeat (first | with_reducible refine thenQ.e ?_ | with_reducible refine blockQ.x rfl ?_ | with_reducible refine blockQ.y rfl ?_)
      replace h := inr_out h hr2727
      repeat (first | refine Safe.seq ?_ | refine Safe.skip ?_ | with_reducible refine thenQ.n ?_ | with_reducible refine blockQ.n ?_)
      refine Safe.region ?_
      refine SafeOps.quiet0 E_good rfl rfl rfl (v := V.bool true) (.fn rfl) ?_
      refine SafeOps.nil ?_
      repeat (first | refine Safe.seq ?_ | refine Safe.skip ?_ | with_reducible refine thenQ.n ?_ | with_reducible refine blockQ.n ?_)
      refine Safe.ret ?_
      repeat (first | with_reducible refine thenQ.r ?_ | with_reducible refine blockQ.r ?_)
      obtain rfl := Option.some.inj h
      exact retQ.gen (vs := [V.bool true]) rfl (.tmp (v := V.bool true) rfl .nil) (.free rfl) (by simp) (.inr rfl)

noncomputable def go_ravelref04_Same_s1 (a0_2688 : List (List api_Instr)) (a1_2689 : List (List api_Instr)) : (Int) → Option ((Int) ⊕ (Bool))
  | v13_2764 =>
    if (decide (v13_2764 < (a0_2688.length : Int))) = true then
      if 0 ≤ v13_2764 ∧ v13_2764 < (a0_2688.length : Int) then
        if 0 ≤ v13_2764 ∧ v13_2764 < (a1_2689.length : Int) then
          (go_ravelref04_SameOne (gt a0_2688 v13_2764) (gt a1_2689 v13_2764)).bind fun x_2769 =>
          if (!x_2769) = true then
            inrO (
              some false)
          else
            nextO (IntKind.i64.wrap (v13_2764 + 1))
        else none
      else none
    else
      inrO (
        some true)

noncomputable def go_ravelref04_Same (a0_2688 : List (List api_Instr)) (a1_2689 : List (List api_Instr)) : Option Bool :=
  if ((a0_2688.length : Int) != (a1_2689.length : Int)) = true then
    some false
  else
    whileO (go_ravelref04_Same_s1 a0_2688 a1_2689) 0

theorem go_ravelref04_Same_sc (a0_2688 : List (List api_Instr)) (a1_2689 : List (List api_Instr)) (r : Bool) (h : go_ravelref04_Same a0_2688 a1_2689 = some r) : SC Try.prog gl 21 [V.sl 1 (rws (fun l => [V.sl 3 (rws api_Instr.cells l)]) a0_2688), V.sl 1 (rws (fun l => [V.sl 3 (rws api_Instr.cells l)]) a1_2689)] (V.bool r) := by
  rw [go_ravelref04_Same] at h
  refine SC.of E_good Try.func21 rfl (fun _ _ => Try.call21 _ _) rfl ?_
  repeat (first | refine Safe.seq ?_ | refine Safe.skip ?_ | with_reducible refine thenQ.n ?_ | with_reducible refine blockQ.n ?_)
  refine Safe.region ?_
  refine SafeOps.quiet0 E_good rfl rfl rfl (v := V.bool false) (.fn rfl) ?_
  refine SafeOps.nil ?_
  repeat (first | refine Safe.seq ?_ | refine Safe.skip ?_ | with_reducible refine thenQ.n ?_ | with_reducible refine blockQ.n ?_)
  refine Safe.region ?_
  refine SafeOps.quiet0 E_good rfl rfl rfl (v := V.sl 1 (rws (fun l => [V.sl 3 (rws api_Instr.cells l)]) a0_2688)) (.fn rfl) ?_
  refine SafeOps.quiet0 E_good rfl rfl rfl (v := V.int .i64 (a0_2688.length : Int)) (.fnE rfl lenE) ?_
  refine SafeOps.quiet0 E_good rfl rfl rfl (v := V.sl 1 (rws (fun l => [V.sl 3 (rws api_Instr.cells l)]) a1_2689)) (.fn rfl) ?_
  refine SafeOps.quiet0 E_good rfl rfl rfl (v := V.int .i64 (a1_2689.length : Int)) (.fnE rfl lenE) ?_
  refine SafeOps.quiet0 E_good rfl rfl rfl (v := V.bool ((a0_2688.length : Int) != (a1_2689.length : Int))) (.fn rfl) ?_
  refine SafeOps.nil ?_
  repeat (first | refine Safe.seq ?_ | refine Safe.skip ?_ | with_reducible refine thenQ.n ?_ | with_reducible refine blockQ.n ?_)
  refine ifG h (fun hc2750 h => ?_) (fun hc2750 h => ?_)
  · skip
    refine Safe.condK rfl hc2750 ?_
    repeat (first | refine Safe.seq ?_ | refine Safe.skip ?_ | with_reducible refine thenQ.n ?_ | with_reducible refine blockQ.n ?_)
    refine Safe.region ?_
    refine SafeOps.quiet0 E_good rfl rfl rfl (v := V.bool false) (.fn rfl) ?_
    refine SafeOps.nil ?_
    repeat (first | refine Safe.seq ?_ | refine Safe.skip ?_ | with_reducible refine thenQ.n ?_ | with_reducible refine blockQ.n ?_)
    refine Safe.ret ?_
    repeat (first | with_reducible refine thenQ.r ?_ | with_reducible refine blockQ.r ?_)
    obtain rfl := Option.some.inj h
    exact retQ.gen (vs := [V.bool false]) rfl (.tmp (v := V.bool false) rfl .nil) (.free rfl) (by simp) (.inr rfl)
  · skip
    refine Safe.condN rfl hc2750 ?_
    repeat (first | refine Safe.seq ?_ | refine Safe.skip ?_ | with_reducible refine thenQ.n ?_ | with_reducible refine blockQ.n ?_)
    refine Safe.region ?_
    refine SafeOps.quiet0 E_good rfl rfl rfl (v := V.sl 1 (rws (fun l => [V.sl 3 (rws api_Instr.cells l)]) a0_2688)) (.fn rfl) ?_
    refine SafeOps.quiet0 E_good rfl rfl rfl (v := V.int .i64 (a0_2688.length : Int)) (.fnE rfl lenE) ?_
    refine SafeOps.quiet0 E_good rfl rfl rfl (v := V.int .i64 0) (.fn rfl) ?_
    refine SafeOps.nil ?_
    repeat (first | refine Safe.seq ?_ | refine Safe.skip ?_ | with_reducible refine thenQ.n ?_ | with_reducible refine blockQ.n ?_)
    refine Safe.block ?_
    repeat (first | refine Safe.seq ?_ | refine Safe.skip ?_ | with_reducible refine thenQ.n ?_ | with_reducible refine blockQ.n ?_)
    refine Safe.loopW (fun (v13_2764 : Int) => ⟨Try.f21.ntmps, [(0, V.sl 1 (rws (fun l => [V.sl 3 (rws api_Instr.cells l)]) a0_2688)), (1, V.sl 1 (rws (fun l => [V.sl 3 (rws api_Instr.cells l)]) a1_2689)), (12, V.int .i64 (a0_2688.length : Int)), (13, V.int .i64 v13_2764)], [], [], []⟩) h (.cov ⟨rfl, rfl, (upT_cons (.refl _) (upT_cons (.refl _) (upT_cons (.refl _) (upT_cons (.refl _) upT_nil)))), upOb_nil, upOut_nil, rfl⟩) ?_
    intro v13_2764 ohr2765 h hr2765
    replace h : go_ravelref04_Same_s1 a0_2688 a1_2689 v13_2764 = some ohr2765 := h
    rw [go_ravelref04_Same_s1] at h
    repeat (first | refine Safe.seq ?_ | refine Safe.skip ?_ | with_reducible refine thenQ.n ?_ | with_reducible refine blockQ.n ?_)
    refine Safe.region ?_
    refine SafeOps.quiet0 E_good rfl rfl rfl (v := V.bool (decide (v13_2764 < (a0_2688.length : Int)))) (.fn rfl) ?_
    refine SafeOps.nil ?_
    repeat (first | refine Safe.seq ?_ | refine Safe.skip ?_ | with_reducible refine thenQ.n ?_ | with_reducible refine blockQ.n ?_)
    refine ifG h (fun hc2766 h => ?_) (fun hc2766 h => ?_)
    · skip
      refine Safe.condK rfl hc2766 ?_
      repeat (first | refine Safe.seq ?_ | refine Safe.skip ?_ | with_reducible refine thenQ.n ?_ | with_reducible refine blockQ.n ?_)
      refine Safe.block ?_
      repeat (first | refine Safe.seq ?_ | refine Safe.skip ?_ | with_reducible refine thenQ.n ?_ | with_reducible refine blockQ.n ?_)
      refine Safe.region ?_
      refine SafeOps.quiet0 E_good rfl rfl rfl (v := V.int .i64 v13_2764) (.fn rfl) ?_
      refine SafeOps.quiet0 E_good rfl rfl rfl (v := V.int .i64 v13_2764) (.fn rfl) ?_
      refine SafeOps.nil ?_
      repeat (first | refine Safe.seq ?_ | refine Safe.skip ?_ | with_reducible refine thenQ.n ?_ | with_reducible refine blockQ.n ?_)
      refine Safe.regionD (n := 10) [] [] E_good mixed rfl ?_
      refine DAny.take (i := 0) rfl (by kernel_rfl) [] (by kernel_rfl) (by kernel_rfl) (by kernel_rfl) rfl rfl rfl (v := V.sl 1 (rws (fun l => [V.sl 3 (rws api_Instr.cells l)]) a0_2688)) (fun _ hz => (.fn rfl)) ?_
      refine DAny.take (i := 1) rfl (by kernel_rfl) [] (by kernel_rfl) (by kernel_rfl) (by kernel_rfl) rfl rfl rfl (v := V.int .i64 v13_2764) (fun _ hz => (.fn rfl)) ?_
      refine okG h (fun hb2767 h => ?_)
      refine DAny.take (i := 2) rfl (by kernel_rfl) [] (by kernel_rfl) (by kernel_rfl) (by kernel_rfl) rfl rfl rfl (v := V.spt 1 (rws (fun l => [V.sl 3 (rws api_Instr.cells l)]) a0_2688) (Int.toNat v13_2764) 0) (fun _ hz => (.idxSlM (f := (fun l => [V.sl 3 (rws api_Instr.cells l)])) rfl rfl rfl rfl rfl hb2767)) ?_
      refine DAny.take (i := 3) rfl (by kernel_rfl) [] (by kernel_rfl) (by kernel_rfl) (by kernel_rfl) rfl rfl rfl (v := V.sl 3 (rws api_Instr.cells (gt a0_2688 v13_2764))) (fun _ hz => (.load rfl rfl (.sptM (f := (fun l => [V.sl 3 (rws api_Instr.cells l)])) hb2767 rfl) rfl)) ?_
      refine DAny.take (i := 4) rfl (by kernel_rfl) [] (by kernel_rfl) (by kernel_rfl) (by kernel_rfl) rfl rfl rfl (v := V.sl 1 (rws (fun l => [V.sl 3 (rws api_Instr.cells l)]) a1_2689)) (fun _ hz => (.fn rfl)) ?_
      refine DAny.take (i := 5) rfl (by kernel_rfl) [] (by kernel_rfl) (by kernel_rfl) (by kernel_rfl) rfl rfl rfl (v := V.int .i64 v13_2764) (fun _ hz => (.fn rfl)) ?_
      refine okG h (fun hb2768 h => ?_)
      refine DAny.take (i := 6) rfl (by kernel_rfl) [] (by kernel_rfl) (by kernel_rfl) (by kernel_rfl) rfl rfl rfl (v := V.spt 1 (rws (fun l => [V.sl 3 (rws api_Instr.cells l)]) a1_2689) (Int.toNat v13_2764) 0) (fun _ hz => (.idxSlM (f := (fun l => [V.sl 3 (rws api_Instr.cells l)])) rfl rfl rfl rfl rfl hb2768)) ?_
      refine DAny.take (i := 7) rfl (by kernel_rfl) [] (by kernel_rfl) (by kernel_rfl) (by kernel_rfl) rfl rfl rfl (v := V.sl 3 (rws api_Instr.cells (gt a1_2689 v13_2764))) (fun _ hz => (.load rfl rfl (.sptM (f := (fun l => [V.sl 3 (rws api_Instr.cells l)])) hb2768 rfl) rfl)) ?_
      refine bindG h ?_
      intro x_2769 he2770 h
      refine DAny.take (i := 8) rfl (by kernel_rfl) [] (by kernel_rfl) (by kernel_rfl) (by kernel_rfl) rfl rfl rfl (v := V.bool x_2769) (fun _ hz => (.callP rfl rfl (go_ravelref04_SameOne_sc (gt a0_2688 v13_2764) (gt a1_2689 v13_2764) _ he2770) rfl)) ?_
      refine DAny.take (i := 9) rfl (by kernel_rfl) [] (by kernel_rfl) (by kernel_rfl) (by kernel_rfl) rfl rfl rfl (v := V.bool (!x_2769)) (fun _ hz => (.fn rfl)) ?_
      refine DAny.nil (by kernel_rfl) ?_
      repeat (first | refine Safe.seq ?_ | refine Safe.skip ?_ | with_reducible refine thenQ.n ?_ | with_reducible refine blockQ.n ?_)
      refine ifG h (fun hc2771 h => ?_) (fun hc2771 h => ?_)
      · skip
        refine Safe.condK rfl hc2771 ?_
        repeat (first | refine Safe.seq ?_ | refine Safe.skip ?_ | with_reducible refine thenQ.n ?_ | with_reducible refine blockQ.n ?_)
        refine Safe.region ?_
        refine SafeOps.quiet0 E_good rfl rfl rfl (v := V.bool false) (.fn rfl) ?_
        refine SafeOps.nil ?_
        repeat (first | refine Safe.seq ?_ | refine Safe.skip ?_ | with_reducible refine thenQ.n ?_ | with_reducible refine blockQ.n ?_)
        refine Safe.ret ?_
        repeat (first | with_reducible refine thenQ.r ?_ | with_reducible refine blockQ.r ?_)
        replace h := inr_out h hr2765
        obtain rfl := Option.some.inj h
        exact retQ.gen (vs := [V.bool false]) rfl (.tmp (v := V.bool false) rfl .nil) (.free rfl) (by simp) (.inr rfl)
      · skip
        refine Safe.condN rfl hc2771 ?_
        repeat (first | refine Safe.seq ?_ | refine Safe.skip ?_ | with_reducible refine thenQ.n ?_ | with_reducible refine blockQ.n ?_)
        refine Safe.region ?_
        refine SafeOps.quiet0 E_good rfl rfl rfl (v := V.int .i64 (IntKind.i64.wrap (v13_2764 + 1))) (.fn rfl) ?_
        refine SafeOps.quiet0 E_good rfl rfl rfl (v := V.int .i64 (IntKind.i64.wrap (v13_2764 + 1))) (.fn rfl) ?_
        refine SafeOps.nil ?_
        repeat (first | refine Safe.seq ?_ | refine Safe.skip ?_ | with_reducible refine thenQ.n ?_ | with_reducible refine blockQ.n ?_)
        exact ⟨_, next_out h, (.cov ⟨rfl, rfl, (upT_cons (.refl _) (upT_cons (.refl _) (upT_cons (.refl _) (upT_cons (.refl _) upT_nil)))), upOb_nil, upOut_nil, rfl⟩)⟩
    · skip
      refine Safe.condN rfl hc2766 ?_
      repeat (first | refine Safe.seq ?_ | refine Safe.skip ?_ | with_reducible refine thenQ.n ?_ | with_reducible refine blockQ.n ?_)
      refine Safe.exit ?_
      repeat (first | with_reducible refine thenQ.e ?_ | with_reducible refine blockQ.x rfl ?_ | with_reducible refine blockQ.y rfl ?_)
      replace h := inr_out h hr2765
      repeat (first | refine Safe.seq ?_ | refine Safe.skip ?_ | with_reducible refine thenQ.n ?_ | with_reducible refine blockQ.n ?_)
      refine Safe.region ?_
      refine SafeOps.quiet0 E_good rfl rfl rfl (v := V.bool true) (.fn rfl) ?_
      refine SafeOps.nil ?_
      repeat (first | refine Safe.seq ?_ | refine Safe.skip ?_ | with_reducible refine thenQ.n ?_ | with_reducible refine blockQ.n ?_)
      refine Safe.ret ?_
      repeat (first | with_reducible refine thenQ.r ?_ | with_reducible refine blockQ.r ?_)
      obtain rfl := Option.some.inj h
      exact retQ.gen (vs := [V.bool true]) rfl (.tmp (v := V.bool true) rfl .nil) (.free rfl) (by simp) (.inr rfl)
end Go.Proofs.Ytdlpecjbafadkaa
