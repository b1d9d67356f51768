/- Helper lemmas for the claim's theorem: an abstract machine over the model, proved sound; no condition beyond each lemma's own. -/
import Derived.Test.YtdlpecjbafadkaaT0
set_option linter.unusedVariables false
set_option linter.unusedSimpArgs false
set_option linter.unnecessarySimpa false
set_option linter.unusedSectionVars false
namespace Go.Proofs.Ytdlpecjbafadkaa
open Go Go.AM
set_option maxRecDepth 100000
set_option maxHeartbeats 1000000
set_option linter.unusedVariables false
set_option linter.unusedSimpArgs false
variable {gl : List (Nat × List V)}
noncomputable def go_ravellaw04_CodeSums_j3 (x_935 : Bool) (x_940 : Int) (x_941 : Int) (v8_1002 : Int) (v9_1006 : Int) : Option Bool :=
  if (x_941 != 0) = true then
    some ((x_935 && (x_940 == 0)) && ((x_941 == v9_1006) || (x_941 == 9)))
  else
    some (((x_935 && (v9_1006 == 0)) && (x_940 == v8_1002)) && (decide (x_940 ≥ 1)))

noncomputable def go_ravellaw04_CodeSums_j2 (x_935 : Bool) (x_940 : Int) (x_941 : Int) (v8_1002 : Int) (v9_1003 : Int) : Option Bool :=
  if ((v9_1003 == 0) && (decide (v8_1002 > 1099511627776))) = true then
    go_ravellaw04_CodeSums_j3 x_935 x_940 x_941 v8_1002 4
  else
    go_ravellaw04_CodeSums_j3 x_935 x_940 x_941 v8_1002 v9_1003

noncomputable def go_ravellaw04_CodeSums_s4 (a0_786 : List (List api_Instr)) (a1_787 : Int) (x_935 : Bool) (x_940 : Int) (x_941 : Int) : (Int × Int × Int) → Option ((Int × Int × Int) ⊕ (Bool))
  | (v8_1042, v9_1043, v56_1044) =>
    if (decide (v56_1044 < ((gt a0_786 a1_787).length : Int))) = true then
      if 0 ≤ v56_1044 ∧ v56_1044 < ((gt a0_786 a1_787).length : Int) then
        if (((gt (gt a0_786 a1_787) v56_1044).Op) == 9) = true then
          inrO (
            go_ravellaw04_CodeSums_j2 x_935 x_940 x_941 v8_1042 v9_1043)
        else
          if (((gt (gt a0_786 a1_787) v56_1044).Op) != 2) = true then
            nextO (v8_1042, v9_1043, IntKind.i64.wrap (v56_1044 + 1))
          else
            (go_code_Tasks a0_786 ((gt (gt a0_786 a1_787) v56_1044).A)).bind fun (x_1050, x_1051) =>
            if ((x_1051 == 9) || ((x_1051 == 4) && (v9_1043 == 0))) = true then
              nextO (IntKind.i64.wrap (v8_1042 + x_1050), x_1051, IntKind.i64.wrap (v56_1044 + 1))
            else
              nextO (IntKind.i64.wrap (v8_1042 + x_1050), v9_1043, IntKind.i64.wrap (v56_1044 + 1))
      else none
    else
      inrO (
        go_ravellaw04_CodeSums_j2 x_935 x_940 x_941 v8_1042 v9_1043)

noncomputable def go_ravellaw04_CodeSums (a0_786 : List (List api_Instr)) (a1_787 : Int) : Option Bool :=
  (go_ravellaw04_live).bind fun x_935 =>
  (go_ravelref04_Few a0_786).bind fun x_937 =>
  if (!x_937) = true then
    some x_935
  else
    (go_code_Tasks a0_786 a1_787).bind fun (x_940, x_941) =>
    if (x_941 == 1) = true then
      if x_935 = true then
        (go_code_CheckAll a0_786).bind fun x_958 =>
        some (((x_958 != 0) || (decide (a1_787 < 0))) || (decide (a1_787 ≥ (a0_786.length : Int))))
      else
        some false
    else
      if ((decide (a1_787 < 0)) || (decide (a1_787 ≥ (a0_786.length : Int)))) = true then
        some false
      else
        if 0 ≤ a1_787 ∧ a1_787 < (a0_786.length : Int) then
          whileO (go_ravellaw04_CodeSums_s4 a0_786 a1_787 x_935 x_940 x_941) (1, 0, 0)
        else none

theorem go_ravellaw04_CodeSums_sc (a0_786 : List (List api_Instr)) (a1_787 : Int) (r : Bool) (h : go_ravellaw04_CodeSums a0_786 a1_787 = some r) : SC Try.prog gl 3 [V.sl 1 (rws (fun l => [V.sl 3 (rws api_Instr.cells l)]) a0_786), V.int .i64 a1_787] (V.bool r) := by
  rw [go_ravellaw04_CodeSums] at h
  refine SC.of E_good Try.func3 rfl (fun _ _ => Try.call3 _ _) rfl ?_
  repeat (first | refine Safe.seq ?_ | refine Safe.skip ?_ | with_reducible refine thenQ.n ?_ | with_reducible refine blockQ.n ?_)
  refine Safe.region ?_
  refine SafeOps.quiet0 E_good rfl rfl rfl (v := V.bool false) (.fn rfl) ?_
  refine SafeOps.nil ?_
  repeat (first | refine Safe.seq ?_ | refine Safe.skip ?_ | with_reducible refine thenQ.n ?_ | with_reducible refine blockQ.n ?_)
  refine Safe.region ?_
  refine bindG h ?_
  intro x_935 he936 h
  refine SafeOps.quiet0 E_good rfl rfl rfl (v := V.bool x_935) (.callP rfl rfl (go_ravellaw04_live_sc  _ he936) rfl) ?_
  refine SafeOps.quiet0 E_good rfl rfl rfl (v := V.bool x_935) (.fn rfl) ?_
  refine SafeOps.nil ?_
  repeat (first | refine Safe.seq ?_ | refine Safe.skip ?_ | with_reducible refine thenQ.n ?_ | with_reducible refine blockQ.n ?_)
  refine Safe.region ?_
  refine SafeOps.quiet0 E_good rfl rfl rfl (v := V.sl 1 (rws (fun l => [V.sl 3 (rws api_Instr.cells l)]) a0_786)) (.fn rfl) ?_
  refine bindG h ?_
  intro x_937 he938 h
  refine SafeOps.quiet0 E_good rfl rfl rfl (v := V.bool x_937) (.callP rfl rfl (go_ravelref04_Few_sc a0_786 _ he938) rfl) ?_
  refine SafeOps.quiet0 E_good rfl rfl rfl (v := V.bool (!x_937)) (.fn rfl) ?_
  refine SafeOps.nil ?_
  repeat (first | refine Safe.seq ?_ | refine Safe.skip ?_ | with_reducible refine thenQ.n ?_ | with_reducible refine blockQ.n ?_)
  refine ifG h (fun hc939 h => ?_) (fun hc939 h => ?_)
  · skip
    refine Safe.condK rfl hc939 ?_
    repeat (first | refine Safe.seq ?_ | refine Safe.skip ?_ | with_reducible refine thenQ.n ?_ | with_reducible refine blockQ.n ?_)
    refine Safe.region ?_
    refine SafeOps.quiet0 E_good rfl rfl rfl (v := V.bool x_935) (.fn rfl) ?_
    refine SafeOps.quiet0 E_good rfl rfl rfl (v := V.bool x_935) (.fn rfl) ?_
    refine SafeOps.nil ?_
    repeat (first | refine Safe.seq ?_ | refine Safe.skip ?_ | with_reducible refine thenQ.n ?_ | with_reducible refine blockQ.n ?_)
    refine Safe.ret ?_
    repeat (first | with_reducible refine thenQ.r ?_ | with_reducible refine blockQ.r ?_)
    obtain rfl := Option.some.inj h
    exact retQ.gen (vs := [V.bool x_935]) rfl (.tmp (v := V.bool x_935) rfl .nil) (.free rfl) (by simp) (.inr rfl)
  · skip
    refine Safe.condN rfl hc939 ?_
    repeat (first | refine Safe.seq ?_ | refine Safe.skip ?_ | with_reducible refine thenQ.n ?_ | with_reducible refine blockQ.n ?_)
    refine Safe.region ?_
    refine SafeOps.quiet0 E_good rfl rfl rfl (v := V.sl 1 (rws (fun l => [V.sl 3 (rws api_Instr.cells l)]) a0_786)) (.fn rfl) ?_
    refine SafeOps.quiet0 E_good rfl rfl rfl (v := V.int .i64 a1_787) (.fn rfl) ?_
    refine bindG h ?_
    rintro ⟨x_940, x_941⟩ he942 h
    refine SafeOps.quiet0 E_good rfl rfl rfl (v := V.tup [V.int .i64 x_940, V.int .i64 x_941]) (.callP rfl rfl (go_code_Tasks_sc a0_786 a1_787 _ he942) rfl) ?_
    refine SafeOps.quiet0 E_good rfl rfl rfl (v := V.tup [V.int .i64 x_940, V.int .i64 x_941]) (.fn rfl) ?_
    refine SafeOps.quiet0 E_good rfl rfl rfl (v := V.int .i64 x_940) (.fn rfl) ?_
    refine SafeOps.quiet0 E_good rfl rfl rfl (v := V.int .i64 x_941) (.fn rfl) ?_
    refine SafeOps.quiet0 E_good rfl rfl rfl (v := V.int .i64 x_940) (.fn rfl) ?_
    refine SafeOps.quiet0 E_good rfl rfl rfl (v := V.int .i64 x_941) (.fn rfl) ?_
    refine SafeOps.nil ?_
    repeat (first | refine Safe.seq ?_ | refine Safe.skip ?_ | with_reducible refine thenQ.n ?_ | with_reducible refine blockQ.n ?_)
    refine Safe.region ?_
    refine SafeOps.quiet0 E_good rfl rfl rfl (v := V.int .i64 x_941) (.fn rfl) ?_
    refine SafeOps.quiet0 E_good rfl rfl rfl (v := V.bool (x_941 == 1)) (.fn rfl) ?_
    refine SafeOps.nil ?_
    repeat (first | refine Safe.seq ?_ | refine Safe.skip ?_ | with_reducible refine thenQ.n ?_ | with_reducible refine blockQ.n ?_)
    refine ifG h (fun hc952 h => ?_) (fun hc952 h => ?_)
    · skip
      refine Safe.condK rfl hc952 ?_
      repeat (first | refine Safe.seq ?_ | refine Safe.skip ?_ | with_reducible refine thenQ.n ?_ | with_reducible refine blockQ.n ?_)
      refine Safe.region ?_
      refine SafeOps.quiet0 E_good rfl rfl rfl (v := V.bool x_935) (.fn rfl) ?_
      refine SafeOps.quiet0 E_good rfl rfl rfl (v := V.bool x_935) (.fn rfl) ?_
      refine ifG h (fun hc953 h => ?_) (fun hc953 h => ?_)
      · skip
        refine SafeOps.quiet0 E_good (congrArg some hc953) rfl rfl (v := V.sl 1 (rws (fun l => [V.sl 3 (rws api_Instr.cells l)]) a0_786)) (.fn rfl) ?_
        refine bindG h ?_
        intro x_958 he959 h
        refine SafeOps.quiet0 E_good (congrArg some hc953) rfl rfl (v := V.int .i64 x_958) (.callP rfl rfl (go_code_CheckAll_sc a0_786 _ he959) rfl) ?_
        refine SafeOps.quiet0 E_good (congrArg some hc953) rfl rfl (v := V.bool (x_958 != 0)) (.fn rfl) ?_
        refine SafeOps.quiet0 E_good (congrArg some hc953) rfl rfl (v := V.bool (x_958 != 0)) (.fn rfl) ?_
        refine SafeOps.bjoin 3 35 (b := ((x_958 != 0) || (decide (a1_787 < 0)))) (b1 := true) (b0 := decide (a1_787 < 0)) (fun hc960 K => ?_) (fun hc960 K => ?_) bj_or ?_
        · skip
          refine SafeOps.skip (congrArg (fun b => some (!b)) hc960) rfl rfl ?_
          refine SafeOps.skip (congrArg (fun b => some (!b)) hc960) rfl rfl ?_
          refine SafeOps.quiet0 E_good (congrArg some hc953) rfl rfl (v := V.bool true) (.pickK rfl hc960 rfl) ?_
          exact SafeOps.drop' 3 rfl rfl rfl K
        · skip
          refine SafeOps.quiet0 E_good (congrArg (fun b => some (!b)) hc960) rfl rfl (v := V.int .i64 a1_787) (.fn rfl) ?_
          refine SafeOps.quiet0 E_good (congrArg (fun b => some (!b)) hc960) rfl rfl (v := V.bool (decide (a1_787 < 0))) (.fn rfl) ?_
          refine SafeOps.quiet0 E_good (congrArg some hc953) rfl rfl (v := V.bool (decide (a1_787 < 0))) (.pickK rfl hc960 rfl) ?_
          exact SafeOps.drop' 3 rfl rfl rfl K
        refine SafeOps.quiet0 E_good (congrArg some hc953) rfl rfl (v := V.bool ((x_958 != 0) || (decide (a1_787 < 0)))) (.fn rfl) ?_
        refine SafeOps.bjoin 5 41 (b := (((x_958 != 0) || (decide (a1_787 < 0))) || (decide (a1_787 ≥ (a0_786.length : Int))))) (b1 := true) (b0 := decide (a1_787 ≥ (a0_786.length : Int))) (fun hc961 K => ?_) (fun hc961 K => ?_) bj_or ?_
        · skip
          refine SafeOps.skip (congrArg (fun b => some (!b)) hc961) rfl rfl ?_
          refine SafeOps.skip (congrArg (fun b => some (!b)) hc961) rfl rfl ?_
          refine SafeOps.skip (congrArg (fun b => some (!b)) hc961) rfl rfl ?_
          refine SafeOps.skip (congrArg (fun b => some (!b)) hc961) rfl rfl ?_
          refine SafeOps.quiet0 E_good (congrArg some hc953) rfl rfl (v := V.bool true) (.pickK rfl hc961 rfl) ?_
          exact SafeOps.drop' 5 rfl rfl rfl K
        · skip
          refine SafeOps.quiet0 E_good (congrArg (fun b => some (!b)) hc961) rfl rfl (v := V.int .i64 a1_787) (.fn rfl) ?_
          refine SafeOps.quiet0 E_good (congrArg (fun b => some (!b)) hc961) rfl rfl (v := V.sl 1 (rws (fun l => [V.sl 3 (rws api_Instr.cells l)]) a0_786)) (.fn rfl) ?_
          refine SafeOps.quiet0 E_good (congrArg (fun b => some (!b)) hc961) rfl rfl (v := V.int .i64 (a0_786.length : Int)) (.fnE rfl lenE) ?_
          refine SafeOps.quiet0 E_good (congrArg (fun b => some (!b)) hc961) rfl rfl (v := V.bool (decide (a1_787 ≥ (a0_786.length : Int)))) (.fn rfl) ?_
          refine SafeOps.quiet0 E_good (congrArg some hc953) rfl rfl (v := V.bool (decide (a1_787 ≥ (a0_786.length : Int)))) (.pickK rfl hc961 rfl) ?_
          exact SafeOps.drop' 5 rfl rfl rfl K
        refine SafeOps.quiet0 E_good rfl rfl rfl (v := V.bool (((x_958 != 0) || (decide (a1_787 < 0))) || (decide (a1_787 ≥ (a0_786.length : Int))))) (.pickK rfl hc953 rfl) ?_
        refine SafeOps.quiet0 E_good rfl rfl rfl (v := V.bool (((x_958 != 0) || (decide (a1_787 < 0))) || (decide (a1_787 ≥ (a0_786.length : Int))))) (.fn rfl) ?_
        refine SafeOps.nil ?_
        repeat (first | refine Safe.seq ?_ | refine Safe.skip ?_ | with_reducible refine thenQ.n ?_ | with_reducible refine blockQ.n ?_)
        refine Safe.ret ?_
        repeat (first | with_reducible refine thenQ.r ?_ | with_reducible refine blockQ.r ?_)
        obtain rfl := Option.some.inj h
        exact retQ.gen (vs := [V.bool (((x_958 != 0) || (decide (a1_787 < 0))) || (decide (a1_787 ≥ (a0_786.length : Int))))]) rfl (.tmp (v := V.bool (((x_958 != 0) || (decide (a1_787 < 0))) || (decide (a1_787 ≥ (a0_786.length : Int))))) rfl .nil) (.free rfl) (by simp) (.inr rfl)
      · skip
        refine SafeOps.skip (congrArg some hc953) rfl rfl ?_
        refine SafeOps.skip (congrArg some hc953) rfl rfl ?_
        refine SafeOps.skip (congrArg some hc953) rfl rfl ?_
        refine SafeOps.skip (congrArg some hc953) rfl rfl ?_
        refine SafeOps.skip rfl rfl rfl ?_
        refine SafeOps.skip rfl rfl rfl ?_
        refine SafeOps.skip (congrArg some hc953) rfl rfl ?_
        refine SafeOps.skip (congrArg some hc953) rfl rfl ?_
        refine SafeOps.skip rfl rfl rfl ?_
        refine SafeOps.skip rfl rfl rfl ?_
        refine SafeOps.skip rfl rfl rfl ?_
        refine SafeOps.skip rfl rfl rfl ?_
        refine SafeOps.skip (congrArg some hc953) rfl rfl ?_
        refine SafeOps.quiet0 E_good rfl rfl rfl (v := V.bool false) (.pickK rfl hc953 rfl) ?_
        refine SafeOps.quiet0 E_good rfl rfl rfl (v := V.bool false) (.fn rfl) ?_
        refine SafeOps.nil ?_
        repeat (first | refine Safe.seq ?_ | refine Safe.skip ?_ | with_reducible refine thenQ.n ?_ | with_reducible refine blockQ.n ?_)
        refine Safe.ret ?_
        repeat (first | with_reducible refine thenQ.r ?_ | with_reducible refine blockQ.r ?_)
        obtain rfl := Option.some.inj h
        exact retQ.gen (vs := [V.bool false]) rfl (.tmp (v := V.bool false) rfl .nil) (.free rfl) (by simp) (.inr rfl)
    · skip
      refine Safe.condN rfl hc952 ?_
      repeat (first | refine Safe.seq ?_ | refine Safe.skip ?_ | with_reducible refine thenQ.n ?_ | with_reducible refine blockQ.n ?_)
      refine Safe.region ?_
      refine SafeOps.quiet0 E_good rfl rfl rfl (v := V.int .i64 a1_787) (.fn rfl) ?_
      refine SafeOps.quiet0 E_good rfl rfl rfl (v := V.bool (decide (a1_787 < 0))) (.fn rfl) ?_
      refine SafeOps.quiet0 E_good rfl rfl rfl (v := V.bool (decide (a1_787 < 0))) (.fn rfl) ?_
      refine SafeOps.bjoin 5 50 (b := ((decide (a1_787 < 0)) || (decide (a1_787 ≥ (a0_786.length : Int))))) (b1 := true) (b0 := decide (a1_787 ≥ (a0_786.length : Int))) (fun hc962 K => ?_) (fun hc962 K => ?_) bj_or ?_
      · skip
        refine SafeOps.skip (congrArg (fun b => some (!b)) hc962) rfl rfl ?_
        refine SafeOps.skip (congrArg (fun b => some (!b)) hc962) rfl rfl ?_
        refine SafeOps.skip (congrArg (fun b => some (!b)) hc962) rfl rfl ?_
        refine SafeOps.skip (congrArg (fun b => some (!b)) hc962) rfl rfl ?_
        refine SafeOps.quiet0 E_good rfl rfl rfl (v := V.bool true) (.pickK rfl hc962 rfl) ?_
        exact SafeOps.drop' 5 rfl rfl rfl K
      · skip
        refine SafeOps.quiet0 E_good (congrArg (fun b => some (!b)) hc962) rfl rfl (v := V.int .i64 a1_787) (.fn rfl) ?_
        refine SafeOps.quiet0 E_good (congrArg (fun b => some (!b)) hc962) rfl rfl (v := V.sl 1 (rws (fun l => [V.sl 3 (rws api_Instr.cells l)]) a0_786)) (.fn rfl) ?_
        refine SafeOps.quiet0 E_good (congrArg (fun b => some (!b)) hc962) rfl rfl (v := V.int .i64 (a0_786.length : Int)) (.fnE rfl lenE) ?_
        refine SafeOps.quiet0 E_good (congrArg (fun b => some (!b)) hc962) rfl rfl (v := V.bool (decide (a1_787 ≥ (a0_786.length : Int)))) (.fn rfl) ?_
        refine SafeOps.quiet0 E_good rfl rfl rfl (v := V.bool (decide (a1_787 ≥ (a0_786.length : Int)))) (.pickK rfl hc962 rfl) ?_
        exact SafeOps.drop' 5 rfl rfl rfl K
      refine SafeOps.nil ?_
      repeat (first | refine Safe.seq ?_ | refine Safe.skip ?_ | with_reducible refine thenQ.n ?_ | with_reducible refine blockQ.n ?_)
      refine ifG h (fun hc963 h => ?_) (fun hc963 h => ?_)
      · skip
        refine Safe.condK rfl hc963 ?_
        repeat (first | refine Safe.seq ?_ | refine Safe.skip ?_ | with_reducible refine thenQ.n ?_ | with_reducible refine blockQ.n ?_)
        refine Safe.region ?_
        refine SafeOps.quiet0 E_good rfl rfl rfl (v := V.bool false) (.fn rfl) ?_
        refine SafeOps.nil ?_
        repeat (first | refine Safe.seq ?_ | refine Safe.skip ?_ | with_reducible refine thenQ.n ?_ | with_reducible refine blockQ.n ?_)
        refine Safe.ret ?_
        repeat (first | with_reducible refine thenQ.r ?_ | with_reducible refine blockQ.r ?_)
        obtain rfl := Option.some.inj h
        exact retQ.gen (vs := [V.bool false]) rfl (.tmp (v := V.bool false) rfl .nil) (.free rfl) (by simp) (.inr rfl)
      · skip
        refine Safe.condN rfl hc963 ?_
        repeat (first | refine Safe.seq ?_ | refine Safe.skip ?_ | with_reducible refine thenQ.n ?_ | with_reducible refine blockQ.n ?_)
        refine Safe.region ?_
        refine SafeOps.quiet0 E_good rfl rfl rfl (v := V.int .i64 1) (.fn rfl) ?_
        refine SafeOps.nil ?_
        repeat (first | refine Safe.seq ?_ | refine Safe.skip ?_ | with_reducible refine thenQ.n ?_ | with_reducible refine blockQ.n ?_)
        refine Safe.region ?_
        refine SafeOps.quiet0 E_good rfl rfl rfl (v := V.int .i64 0) (.fn rfl) ?_
        refine SafeOps.nil ?_
        repeat (first | refine Safe.seq ?_ | refine Safe.skip ?_ | with_reducible refine thenQ.n ?_ | with_reducible refine blockQ.n ?_)
        refine Safe.region ?_
        refine SafeOps.quiet0 E_good rfl rfl rfl (v := V.sl 1 (rws (fun l => [V.sl 3 (rws api_Instr.cells l)]) a0_786)) (.fn rfl) ?_
        refine SafeOps.quiet0 E_good rfl rfl rfl (v := V.int .i64 a1_787) (.fn rfl) ?_
        refine okG h (fun hb964 h => ?_)
        refine SafeOps.quiet0 E_good rfl rfl rfl (v := V.spt 1 (rws (fun l => [V.sl 3 (rws api_Instr.cells l)]) a0_786) (Int.toNat a1_787) 0) (.idxSlM (f := (fun l => [V.sl 3 (rws api_Instr.cells l)])) rfl rfl rfl rfl rfl hb964) ?_
        refine SafeOps.quiet0 E_good rfl rfl rfl (v := V.sl 3 (rws api_Instr.cells (gt a0_786 a1_787))) (.load rfl rfl (.sptM (f := (fun l => [V.sl 3 (rws api_Instr.cells l)])) hb964 rfl) rfl) ?_
        refine SafeOps.quiet0 E_good rfl rfl rfl (v := V.int .i64 ((gt a0_786 a1_787).length : Int)) (.fnE rfl lenE) ?_
        refine SafeOps.quiet0 E_good rfl rfl rfl (v := V.int .i64 0) (.fn rfl) ?_
        refine SafeOps.nil ?_
        repeat (first | refine Safe.seq ?_ | refine Safe.skip ?_ | with_reducible refine thenQ.n ?_ | with_reducible refine blockQ.n ?_)
        refine Safe.joinT (fun ((v8_1002, v9_1003) : Int × Int) => go_ravellaw04_CodeSums_j2 x_935 x_940 x_941 v8_1002 v9_1003 = some r) (fun ((v8_1002, v9_1003) : Int × Int) => ⟨Try.f3.ntmps, [(5, V.bool x_935), (6, V.int .i64 x_940), (7, V.int .i64 x_941), (8, V.int .i64 v8_1002), (9, V.int .i64 v9_1003)], [], [], []⟩) ?_ (fun HJ1004 => ?_)
        · rintro ⟨v8_1002, v9_1003⟩ h
          replace h : go_ravellaw04_CodeSums_j2 x_935 x_940 x_941 v8_1002 v9_1003 = some r := h
          rw [go_ravellaw04_CodeSums_j2] at h
          repeat (first | refine Safe.seq ?_ | refine Safe.skip ?_ | with_reducible refine thenQ.n ?_ | with_reducible refine blockQ.n ?_)
          refine Safe.region ?_
          refine SafeOps.quiet0 E_good rfl rfl rfl (v := V.int .i64 v9_1003) (.fn rfl) ?_
          refine SafeOps.quiet0 E_good rfl rfl rfl (v := V.bool (v9_1003 == 0)) (.fn rfl) ?_
          refine SafeOps.quiet0 E_good rfl rfl rfl (v := V.bool (v9_1003 == 0)) (.fn rfl) ?_
          refine SafeOps.bjoin 3 93 (b := ((v9_1003 == 0) && (decide (v8_1002 > 1099511627776)))) (b1 := decide (v8_1002 > 1099511627776)) (b0 := false) (fun hc1005 K => ?_) (fun hc1005 K => ?_) bj_and ?_
          · skip
            refine SafeOps.quiet0 E_good (congrArg some hc1005) rfl rfl (v := V.int .i64 v8_1002) (.fn rfl) ?_
            refine SafeOps.quiet0 E_good (congrArg some hc1005) rfl rfl (v := V.bool (decide (v8_1002 > 1099511627776))) (.fn rfl) ?_
            refine SafeOps.quiet0 E_good rfl rfl rfl (v := V.bool (decide (v8_1002 > 1099511627776))) (.pickK rfl hc1005 rfl) ?_
            exact SafeOps.drop' 3 rfl rfl rfl K
          · skip
            refine SafeOps.skip (congrArg some hc1005) rfl rfl ?_
            refine SafeOps.skip (congrArg some hc1005) rfl rfl ?_
            refine SafeOps.quiet0 E_good rfl rfl rfl (v := V.bool false) (.pickK rfl hc1005 rfl) ?_
            exact SafeOps.drop' 3 rfl rfl rfl K
          refine SafeOps.nil ?_
          repeat (first | refine Safe.seq ?_ | refine Safe.skip ?_ | with_reducible refine thenQ.n ?_ | with_reducible refine blockQ.n ?_)
          refine Safe.joinT (fun (v9_1006 : Int) => go_ravellaw04_CodeSums_j3 x_935 x_940 x_941 v8_1002 v9_1006 = some r) (fun (v9_1006 : Int) => ⟨Try.f3.ntmps, [(5, V.bool x_935), (6, V.int .i64 x_940), (7, V.int .i64 x_941), (8, V.int .i64 v8_1002), (9, V.int .i64 v9_1006)], [], [], []⟩) ?_ (fun HJ1007 => ?_)
          · intro v9_1006 h
            replace h : go_ravellaw04_CodeSums_j3 x_935 x_940 x_941 v8_1002 v9_1006 = some r := h
            rw [go_ravellaw04_CodeSums_j3] at h
            repeat (first | refine Safe.seq ?_ | refine Safe.skip ?_ | with_reducible refine thenQ.n ?_ | with_reducible refine blockQ.n ?_)
            refine Safe.region ?_
            refine SafeOps.quiet0 E_good rfl rfl rfl (v := V.int .i64 x_941) (.fn rfl) ?_
            refine SafeOps.quiet0 E_good rfl rfl rfl (v := V.bool (x_941 != 0)) (.fn rfl) ?_
            refine SafeOps.nil ?_
            repeat (first | refine Safe.seq ?_ | refine Safe.skip ?_ | with_reducible refine thenQ.n ?_ | with_reducible refine blockQ.n ?_)
            refine ifG h (fun hc1011 h => ?_) (fun hc1011 h => ?_)
            · skip
              refine Safe.condK rfl hc1011 ?_
              repeat (first | refine Safe.seq ?_ | refine Safe.skip ?_ | with_reducible refine thenQ.n ?_ | with_reducible refine blockQ.n ?_)
              refine Safe.region ?_
              refine SafeOps.quiet0 E_good rfl rfl rfl (v := V.bool x_935) (.fn rfl) ?_
              refine SafeOps.quiet0 E_good rfl rfl rfl (v := V.bool x_935) (.fn rfl) ?_
              refine SafeOps.bjoin 3 100 (b := (x_935 && (x_940 == 0))) (b1 := (x_940 == 0)) (b0 := false) (fun hc1012 K => ?_) (fun hc1012 K => ?_) bj_and ?_
              · skip
                refine SafeOps.quiet0 E_good (congrArg some hc1012) rfl rfl (v := V.int .i64 x_940) (.fn rfl) ?_
                refine SafeOps.quiet0 E_good (congrArg some hc1012) rfl rfl (v := V.bool (x_940 == 0)) (.fn rfl) ?_
                refine SafeOps.quiet0 E_good rfl rfl rfl (v := V.bool (x_940 == 0)) (.pickK rfl hc1012 rfl) ?_
                exact SafeOps.drop' 3 rfl rfl rfl K
              · skip
                refine SafeOps.skip (congrArg some hc1012) rfl rfl ?_
                refine SafeOps.skip (congrArg some hc1012) rfl rfl ?_
                refine SafeOps.quiet0 E_good rfl rfl rfl (v := V.bool false) (.pickK rfl hc1012 rfl) ?_
                exact SafeOps.drop' 3 rfl rfl rfl K
              refine SafeOps.quiet0 E_good rfl rfl rfl (v := V.bool (x_935 && (x_940 == 0))) (.fn rfl) ?_
              refine SafeOps.bjoin 8 109 (b := ((x_935 && (x_940 == 0)) && ((x_941 == v9_1006) || (x_941 == 9)))) (b1 := ((x_941 == v9_1006) || (x_941 == 9))) (b0 := false) (fun hc1013 K => ?_) (fun hc1013 K => ?_) bj_and ?_
              · skip
                refine SafeOps.quiet0 E_good (congrArg some hc1013) rfl rfl (v := V.int .i64 x_941) (.fn rfl) ?_
                refine SafeOps.quiet0 E_good (congrArg some hc1013) rfl rfl (v := V.int .i64 v9_1006) (.fn rfl) ?_
                refine SafeOps.quiet0 E_good (congrArg some hc1013) rfl rfl (v := V.bool (x_941 == v9_1006)) (.fn rfl) ?_
                refine SafeOps.quiet0 E_good (congrArg some hc1013) rfl rfl (v := V.bool (x_941 == v9_1006)) (.fn rfl) ?_
                refine SafeOps.bjoin 3 108 (b := ((x_941 == v9_1006) || (x_941 == 9))) (b1 := true) (b0 := (x_941 == 9)) (fun hc1014 K => ?_) (fun hc1014 K => ?_) bj_or ?_
                · skip
                  refine SafeOps.skip (congrArg (fun b => some (!b)) hc1014) rfl rfl ?_
                  refine SafeOps.skip (congrArg (fun b => some (!b)) hc1014) rfl rfl ?_
                  refine SafeOps.quiet0 E_good (congrArg some hc1013) rfl rfl (v := V.bool true) (.pickK rfl hc1014 rfl) ?_
                  exact SafeOps.drop' 3 rfl rfl rfl K
                · skip
                  refine SafeOps.quiet0 E_good (congrArg (fun b => some (!b)) hc1014) rfl rfl (v := V.int .i64 x_941) (.fn rfl) ?_
                  refine SafeOps.quiet0 E_good (congrArg (fun b => some (!b)) hc1014) rfl rfl (v := V.bool (x_941 == 9)) (.fn rfl) ?_
                  refine SafeOps.quiet0 E_good (congrArg some hc1013) rfl rfl (v := V.bool (x_941 == 9)) (.pickK rfl hc1014 rfl) ?_
                  exact SafeOps.drop' 3 rfl rfl rfl K
                refine SafeOps.quiet0 E_good rfl rfl rfl (v := V.bool ((x_941 == v9_1006) || (x_941 == 9))) (.pickK rfl hc1013 rfl) ?_
                exact SafeOps.drop' 6 rfl rfl rfl K
              · skip
                refine SafeOps.skip (congrArg some hc1013) rfl rfl ?_
                refine SafeOps.skip (congrArg some hc1013) rfl rfl ?_
                refine SafeOps.skip (congrArg some hc1013) rfl rfl ?_
                refine SafeOps.skip (congrArg some hc1013) rfl rfl ?_
                refine SafeOps.skip rfl rfl rfl ?_
                refine SafeOps.skip rfl rfl rfl ?_
                refine SafeOps.skip (congrArg some hc1013) rfl rfl ?_
                refine SafeOps.quiet0 E_good rfl rfl rfl (v := V.bool false) (.pickK rfl hc1013 rfl) ?_
                exact SafeOps.drop' 8 rfl rfl rfl K
              refine SafeOps.quiet0 E_good rfl rfl rfl (v := V.bool ((x_935 && (x_940 == 0)) && ((x_941 == v9_1006) || (x_941 == 9)))) (.fn rfl) ?_
              refine SafeOps.nil ?_
              repeat (first | refine Safe.seq ?_ | refine Safe.skip ?_ | with_reducible refine thenQ.n ?_ | with_reducible refine blockQ.n ?_)
              refine Safe.ret ?_
              repeat (first | with_reducible refine thenQ.r ?_ | with_reducible refine blockQ.r ?_)
              obtain rfl := Option.some.inj h
              exact retQ.gen (vs := [V.bool ((x_935 && (x_940 == 0)) && ((x_941 == v9_1006) || (x_941 == 9)))]) rfl (.tmp (v := V.bool ((x_935 && (x_940 == 0)) && ((x_941 == v9_1006) || (x_941 == 9)))) rfl .nil) (.free rfl) (by simp) (.inr rfl)
            · skip
              refine Safe.condN rfl hc1011 ?_
              repeat (first | refine Safe.seq ?_ | refine Safe.skip ?_ | with_reducible refine thenQ.n ?_ | with_reducible refine blockQ.n ?_)
              refine Safe.region ?_
              refine SafeOps.quiet0 E_good rfl rfl rfl (v := V.bool x_935) (.fn rfl) ?_
              refine SafeOps.quiet0 E_good rfl rfl rfl (v := V.bool x_935) (.fn rfl) ?_
              refine SafeOps.bjoin 3 114 (b := (x_935 && (v9_1006 == 0))) (b1 := (v9_1006 == 0)) (b0 := false) (fun hc1015 K => ?_) (fun hc1015 K => ?_) bj_and ?_
              · skip
                refine SafeOps.quiet0 E_good (congrArg some hc1015) rfl rfl (v := V.int .i64 v9_1006) (.fn rfl) ?_
                refine SafeOps.quiet0 E_good (congrArg some hc1015) rfl rfl (v := V.bool (v9_1006 == 0)) (.fn rfl) ?_
                refine SafeOps.quiet0 E_good rfl rfl rfl (v := V.bool (v9_1006 == 0)) (.pickK rfl hc1015 rfl) ?_
                exact SafeOps.drop' 3 rfl rfl rfl K
              · skip
                refine SafeOps.skip (congrArg some hc1015) rfl rfl ?_
                refine SafeOps.skip (congrArg some hc1015) rfl rfl ?_
                refine SafeOps.quiet0 E_good rfl rfl rfl (v := V.bool false) (.pickK rfl hc1015 rfl) ?_
                exact SafeOps.drop' 3 rfl rfl rfl K
              refine SafeOps.quiet0 E_good rfl rfl rfl (v := V.bool (x_935 && (v9_1006 == 0))) (.fn rfl) ?_
              refine SafeOps.bjoin 4 119 (b := ((x_935 && (v9_1006 == 0)) && (x_940 == v8_1002))) (b1 := (x_940 == v8_1002)) (b0 := false) (fun hc1016 K => ?_) (fun hc1016 K => ?_) bj_and ?_
              · skip
                refine SafeOps.quiet0 E_good (congrArg some hc1016) rfl rfl (v := V.int .i64 x_940) (.fn rfl) ?_
                refine SafeOps.quiet0 E_good (congrArg some hc1016) rfl rfl (v := V.int .i64 v8_1002) (.fn rfl) ?_
                refine SafeOps.quiet0 E_good (congrArg some hc1016) rfl rfl (v := V.bool (x_940 == v8_1002)) (.fn rfl) ?_
                refine SafeOps.quiet0 E_good rfl rfl rfl (v := V.bool (x_940 == v8_1002)) (.pickK rfl hc1016 rfl) ?_
                exact SafeOps.drop' 4 rfl rfl rfl K
              · skip
                refine SafeOps.skip (congrArg some hc1016) rfl rfl ?_
                refine SafeOps.skip (congrArg some hc1016) rfl rfl ?_
                refine SafeOps.skip (congrArg some hc1016) rfl rfl ?_
                refine SafeOps.quiet0 E_good rfl rfl rfl (v := V.bool false) (.pickK rfl hc1016 rfl) ?_
                exact SafeOps.drop' 4 rfl rfl rfl K
              refine SafeOps.quiet0 E_good rfl rfl rfl (v := V.bool ((x_935 && (v9_1006 == 0)) && (x_940 == v8_1002))) (.fn rfl) ?_
              refine SafeOps.bjoin 3 123 (b := (((x_935 && (v9_1006 == 0)) && (x_940 == v8_1002)) && (decide (x_940 ≥ 1)))) (b1 := decide (x_940 ≥ 1)) (b0 := false) (fun hc1017 K => ?_) (fun hc1017 K => ?_) bj_and ?_
              · skip
                refine SafeOps.quiet0 E_good (congrArg some hc1017) rfl rfl (v := V.int .i64 x_940) (.fn rfl) ?_
                refine SafeOps.quiet0 E_good (congrArg some hc1017) rfl rfl (v := V.bool (decide (x_940 ≥ 1))) (.fn rfl) ?_
                refine SafeOps.quiet0 E_good rfl rfl rfl (v := V.bool (decide (x_940 ≥ 1))) (.pickK rfl hc1017 rfl) ?_
                exact SafeOps.drop' 3 rfl rfl rfl K
              · skip
                refine SafeOps.skip (congrArg some hc1017) rfl rfl ?_
                refine SafeOps.skip (congrArg some hc1017) rfl rfl ?_
                refine SafeOps.quiet0 E_good rfl rfl rfl (v := V.bool false) (.pickK rfl hc1017 rfl) ?_
                exact SafeOps.drop' 3 rfl rfl rfl K
              refine SafeOps.quiet0 E_good rfl rfl rfl (v := V.bool (((x_935 && (v9_1006 == 0)) && (x_940 == v8_1002)) && (decide (x_940 ≥ 1)))) (.fn rfl) ?_
              refine SafeOps.nil ?_
              repeat (first | refine Safe.seq ?_ | refine Safe.skip ?_ | with_reducible refine thenQ.n ?_ | with_reducible refine blockQ.n ?_)
              refine Safe.ret ?_
              repeat (first | with_reducible refine thenQ.r ?_ | with_reducible refine blockQ.r ?_)
              obtain rfl := Option.some.inj h
              exact retQ.gen (vs := [V.bool (((x_935 && (v9_1006 == 0)) && (x_940 == v8_1002)) && (decide (x_940 ≥ 1)))]) rfl (.tmp (v := V.bool (((x_935 && (v9_1006 == 0)) && (x_940 == v8_1002)) && (decide (x_940 ≥ 1)))) rfl .nil) (.free rfl) (by simp) (.inr rfl)
          · skip
            refine ifG h (fun hc1018 h => ?_) (fun hc1018 h => ?_)
            · skip
              refine Safe.condK rfl hc1018 ?_
              repeat (first | refine Safe.seq ?_ | refine Safe.skip ?_ | with_reducible refine thenQ.n ?_ | with_reducible refine blockQ.n ?_)
              refine Safe.region ?_
              refine SafeOps.quiet0 E_good rfl rfl rfl (v := V.int .i64 4) (.fn rfl) ?_
              refine SafeOps.nil ?_
              repeat (first | refine Safe.skip ?_ | with_reducible refine thenQ.n ?_ | with_reducible refine blockQ.n ?_)
              exact Safe.got (HJ1007 (4) h) (.cov ⟨rfl, rfl, (upT_cons (.refl _) (upT_cons (.refl _) (upT_cons (.refl _) (upT_cons (.refl _) (upT_cons (.refl _) upT_nil))))), upOb_nil, upOut_nil, rfl⟩)
            · skip
              refine Safe.condN rfl hc1018 ?_
              repeat (first | refine Safe.skip ?_ | with_reducible refine thenQ.n ?_ | with_reducible refine blockQ.n ?_)
              exact Safe.got (HJ1007 (v9_1003) h) (.cov ⟨rfl, rfl, (upT_cons (.refl _) (upT_cons (.refl _) (upT_cons (.refl _) (upT_cons (.refl _) (upT_cons (.refl _) upT_nil))))), upOb_nil, upOut_nil, rfl⟩)
        · skip
          refine Safe.block ?_
          repeat (first | refine Safe.seq ?_ | refine Safe.skip ?_ | with_reducible refine thenQ.n ?_ | with_reducible refine blockQ.n ?_)
          refine Safe.loopW (fun ((v8_1042, v9_1043, v56_1044) : Int × Int × Int) => ⟨Try.f3.ntmps, [(0, V.sl 1 (rws (fun l => [V.sl 3 (rws api_Instr.cells l)]) a0_786)), (5, V.bool x_935), (6, V.int .i64 x_940), (7, V.int .i64 x_941), (8, V.int .i64 v8_1042), (9, V.int .i64 v9_1043), (54, V.sl 3 (rws api_Instr.cells (gt a0_786 a1_787))), (55, V.int .i64 ((gt a0_786 a1_787).length : Int)), (56, V.int .i64 v56_1044)], [], [], []⟩) h (.cov ⟨rfl, rfl, (upT_cons (.refl _) (upT_cons (.refl _) (upT_cons (.refl _) (upT_cons (.refl _) (upT_cons (.refl _) (upT_cons (.refl _) (upT_cons (.refl _) (upT_cons (.refl _) (upT_cons (.refl _) upT_nil))))))))), upOb_nil, upOut_nil, rfl⟩) ?_
          rintro ⟨v8_1042, v9_1043, v56_1044⟩ ohr1045 h hr1045
          replace h : go_ravellaw04_CodeSums_s4 a0_786 a1_787 x_935 x_940 x_941 (v8_1042, v9_1043, v56_1044) = some ohr1045 := h
          rw [go_ravellaw04_CodeSums_s4] at h
          repeat (first | refine Safe.seq ?_ | refine Safe.skip ?_ | with_reducible refine thenQ.n ?_ | with_reducible refine blockQ.n ?_)
          refine Safe.region ?_
          refine SafeOps.quiet0 E_good rfl rfl rfl (v := V.bool (decide (v56_1044 < ((gt a0_786 a1_787).length : Int)))) (.fn rfl) ?_
          refine SafeOps.nil ?_
          repeat (first | refine Safe.seq ?_ | refine Safe.skip ?_ | with_reducible refine thenQ.n ?_ | with_reducible refine blockQ.n ?_)
          refine ifG h (fun hc1046 h => ?_) (fun hc1046 h => ?_)
          · skip
            refine Safe.condK rfl hc1046 ?_
            repeat (first | refine Safe.seq ?_ | refine Safe.skip ?_ | with_reducible refine thenQ.n ?_ | with_reducible refine blockQ.n ?_)
            refine Safe.block ?_
            repeat (first | refine Safe.seq ?_ | refine Safe.skip ?_ | with_reducible refine thenQ.n ?_ | with_reducible refine blockQ.n ?_)
            refine Safe.region ?_
            refine okG h (fun hb1047 h => ?_)
            refine SafeOps.quiet0 E_good rfl rfl rfl (v := V.spt 3 (rws api_Instr.cells (gt a0_786 a1_787)) (Int.toNat v56_1044) 0) (.idxSlM (f := api_Instr.cells) rfl rfl rfl rfl rfl hb1047) ?_
            refine SafeOps.quiet0 E_good rfl rfl rfl (v := V.agg [V.int .i64 ((gt (gt a0_786 a1_787) v56_1044).Op), V.int .i64 ((gt (gt a0_786 a1_787) v56_1044).A), V.int .i64 ((gt (gt a0_786 a1_787) v56_1044).B)]) (.load rfl rfl (.sptM (f := api_Instr.cells) hb1047 rfl) rfl) ?_
            refine SafeOps.quiet1 E_good rfl rfl rfl (.alloc rfl rfl) rfl ?_
            refine SafeOps.store (z := Obj.box [V.int .i64 ((gt (gt a0_786 a1_787) v56_1044).Op), V.int .i64 ((gt (gt a0_786 a1_787) v56_1044).A), V.int .i64 ((gt (gt a0_786 a1_787) v56_1044).B)]) E_good rfl rfl rfl rfl rfl rfl rfl (.boxM (c := 3) rfl rfl (Nat.le_of_ble_eq_true rfl) rfl) ?_
            refine SafeOps.nil ?_
            repeat (first | refine Safe.seq ?_ | refine Safe.skip ?_ | with_reducible refine thenQ.n ?_ | with_reducible refine blockQ.n ?_)
            refine Safe.region ?_
            refine SafeOps.quiet0 E_good rfl rfl rfl (v := V.ptr [11] 0 0) (.fn rfl) ?_
            refine SafeOps.quiet0 E_good rfl rfl rfl (v := V.int .i64 ((gt (gt a0_786 a1_787) v56_1044).Op)) (.load rfl rfl (.box rfl rfl) rfl) ?_
            refine SafeOps.quiet0 E_good rfl rfl rfl (v := V.bool (((gt (gt a0_786 a1_787) v56_1044).Op) == 9)) (.fn rfl) ?_
            refine SafeOps.nil ?_
            repeat (first | refine Safe.seq ?_ | refine Safe.skip ?_ | with_reducible refine thenQ.n ?_ | with_reducible refine blockQ.n ?_)
            refine ifG h (fun hc1048 h => ?_) (fun hc1048 h => ?_)
            · skip
              refine Safe.condK rfl hc1048 ?_
              repeat (first | refine Safe.seq ?_ | refine Safe.skip ?_ | with_reducible refine thenQ.n ?_ | with_reducible refine blockQ.n ?_)
              refine Safe.exit ?_
              repeat (first | with_reducible refine thenQ.e ?_ | with_reducible refine blockQ.x rfl ?_ | with_reducible refine blockQ.y rfl ?_)
              replace h := inr_out h hr1045
              repeat (first | refine Safe.skip ?_ | with_reducible refine thenQ.n ?_ | with_reducible refine blockQ.n ?_)
              exact Safe.got (HJ1004 (v8_1042, v9_1043) h) (.cov ⟨rfl, rfl, (upT_cons (.refl _) (upT_cons (.refl _) (upT_cons (.refl _) (upT_cons (.refl _) (upT_cons (.refl _) upT_nil))))), upOb_nil, upOut_nil, rfl⟩)
            · skip
              refine Safe.condN rfl hc1048 ?_
              repeat (first | refine Safe.seq ?_ | refine Safe.skip ?_ | with_reducible refine thenQ.n ?_ | with_reducible refine blockQ.n ?_)
              refine Safe.region ?_
              refine SafeOps.quiet0 E_good rfl rfl rfl (v := V.ptr [11] 0 0) (.fn rfl) ?_
              refine SafeOps.quiet0 E_good rfl rfl rfl (v := V.int .i64 ((gt (gt a0_786 a1_787) v56_1044).Op)) (.load rfl rfl (.box rfl rfl) rfl) ?_
              refine SafeOps.quiet0 E_good rfl rfl rfl (v := V.bool (((gt (gt a0_786 a1_787) v56_1044).Op) != 2)) (.fn rfl) ?_
              refine SafeOps.nil ?_
              repeat (first | refine Safe.seq ?_ | refine Safe.skip ?_ | with_reducible refine thenQ.n ?_ | with_reducible refine blockQ.n ?_)
              refine ifG h (fun hc1049 h => ?_) (fun hc1049 h => ?_)
              · skip
                refine Safe.condK rfl hc1049 ?_
                repeat (first | refine Safe.seq ?_ | refine Safe.skip ?_ | with_reducible refine thenQ.n ?_ | with_reducible refine blockQ.n ?_)
                refine Safe.exit ?_
                repeat (first | with_reducible refine thenQ.e ?_ | with_reducible refine blockQ.x rfl ?_ | with_reducible refine blockQ.y rfl ?_)
                repeat (first | refine Safe.seq ?_ | refine Safe.skip ?_ | with_reducible refine thenQ.n ?_ | with_reducible refine blockQ.n ?_)
                refine Safe.region ?_
                refine SafeOps.quiet0 E_good rfl rfl rfl (v := V.int .i64 (IntKind.i64.wrap (v56_1044 + 1))) (.fn rfl) ?_
                refine SafeOps.quiet0 E_good rfl rfl rfl (v := V.int .i64 (IntKind.i64.wrap (v56_1044 + 1))) (.fn rfl) ?_
                refine SafeOps.nil ?_
                repeat (first | refine Safe.seq ?_ | refine Safe.skip ?_ | with_reducible refine thenQ.n ?_ | with_reducible refine blockQ.n ?_)
                exact ⟨_, next_out h, (.cov ⟨rfl, rfl, (upT_cons (.refl _) (upT_cons (.refl _) (upT_cons (.refl _) (upT_cons (.refl _) (upT_cons (.refl _) (upT_cons (.refl _) (upT_cons (.refl _) (upT_cons (.refl _) (upT_cons (.refl _) upT_nil))))))))), upOb_nil, upOut_nil, rfl⟩)⟩
              · skip
                refine Safe.condN rfl hc1049 ?_
                repeat (first | refine Safe.seq ?_ | refine Safe.skip ?_ | with_reducible refine thenQ.n ?_ | with_reducible refine blockQ.n ?_)
                refine Safe.region ?_
                refine SafeOps.quiet0 E_good rfl rfl rfl (v := V.sl 1 (rws (fun l => [V.sl 3 (rws api_Instr.cells l)]) a0_786)) (.fn rfl) ?_
                refine SafeOps.quiet0 E_good rfl rfl rfl (v := V.ptr [11] 0 1) (.fn rfl) ?_
                refine SafeOps.quiet0 E_good rfl rfl rfl (v := V.int .i64 ((gt (gt a0_786 a1_787) v56_1044).A)) (.load rfl rfl (.box rfl rfl) rfl) ?_
                refine bindG h ?_
                rintro ⟨x_1050, x_1051⟩ he1052 h
                refine SafeOps.quiet0 E_good rfl rfl rfl (v := V.tup [V.int .i64 x_1050, V.int .i64 x_1051]) (.callP rfl rfl (go_code_Tasks_sc a0_786 ((gt (gt a0_786 a1_787) v56_1044).A) _ he1052) rfl) ?_
                refine SafeOps.quiet0 E_good rfl rfl rfl (v := V.tup [V.int .i64 x_1050, V.int .i64 x_1051]) (.fn rfl) ?_
                refine SafeOps.quiet0 E_good rfl rfl rfl (v := V.int .i64 x_1050) (.fn rfl) ?_
                refine SafeOps.quiet0 E_good rfl rfl rfl (v := V.int .i64 x_1051) (.fn rfl) ?_
                refine SafeOps.quiet0 E_good rfl rfl rfl (v := V.int .i64 x_1050) (.fn rfl) ?_
                refine SafeOps.quiet0 E_good rfl rfl rfl (v := V.int .i64 x_1051) (.fn rfl) ?_
                refine SafeOps.nil ?_
                repeat (first | refine Safe.seq ?_ | refine Safe.skip ?_ | with_reducible refine thenQ.n ?_ | with_reducible refine blockQ.n ?_)
                refine Safe.region ?_
                refine SafeOps.quiet0 E_good rfl rfl rfl (v := V.int .i64 x_1051) (.fn rfl) ?_
                refine SafeOps.quiet0 E_good rfl rfl rfl (v := V.bool (x_1051 == 9)) (.fn rfl) ?_
                refine SafeOps.quiet0 E_good rfl rfl rfl (v := V.bool (x_1051 == 9)) (.fn rfl) ?_
                refine SafeOps.bjoin 7 82 (b := ((x_1051 == 9) || ((x_1051 == 4) && (v9_1043 == 0)))) (b1 := true) (b0 := ((x_1051 == 4) && (v9_1043 == 0))) (fun hc1053 K => ?_) (fun hc1053 K => ?_) bj_or ?_
                · skip
                  refine SafeOps.skip (congrArg (fun b => some (!b)) hc1053) rfl rfl ?_
                  refine SafeOps.skip (congrArg (fun b => some (!b)) hc1053) rfl rfl ?_
                  refine SafeOps.skip (congrArg (fun b => some (!b)) hc1053) rfl rfl ?_
                  refine SafeOps.skip rfl rfl rfl ?_
                  refine SafeOps.skip rfl rfl rfl ?_
                  refine SafeOps.skip (congrArg (fun b => some (!b)) hc1053) rfl rfl ?_
                  refine SafeOps.quiet0 E_good rfl rfl rfl (v := V.bool true) (.pickK rfl hc1053 rfl) ?_
                  exact SafeOps.drop' 7 rfl rfl rfl K
                · skip
                  refine SafeOps.quiet0 E_good (congrArg (fun b => some (!b)) hc1053) rfl rfl (v := V.int .i64 x_1051) (.fn rfl) ?_
                  refine SafeOps.quiet0 E_good (congrArg (fun b => some (!b)) hc1053) rfl rfl (v := V.bool (x_1051 == 4)) (.fn rfl) ?_
                  refine SafeOps.quiet0 E_good (congrArg (fun b => some (!b)) hc1053) rfl rfl (v := V.bool (x_1051 == 4)) (.fn rfl) ?_
                  refine SafeOps.bjoin 3 81 (b := ((x_1051 == 4) && (v9_1043 == 0))) (b1 := (v9_1043 == 0)) (b0 := false) (fun hc1054 K => ?_) (fun hc1054 K => ?_) bj_and ?_
                  · skip
                    refine SafeOps.quiet0 E_good (congrArg some hc1054) rfl rfl (v := V.int .i64 v9_1043) (.fn rfl) ?_
                    refine SafeOps.quiet0 E_good (congrArg some hc1054) rfl rfl (v := V.bool (v9_1043 == 0)) (.fn rfl) ?_
                    refine SafeOps.quiet0 E_good (congrArg (fun b => some (!b)) hc1053) rfl rfl (v := V.bool (v9_1043 == 0)) (.pickK rfl hc1054 rfl) ?_
                    exact SafeOps.drop' 3 rfl rfl rfl K
                  · skip
                    refine SafeOps.skip (congrArg some hc1054) rfl rfl ?_
                    refine SafeOps.skip (congrArg some hc1054) rfl rfl ?_
                    refine SafeOps.quiet0 E_good (congrArg (fun b => some (!b)) hc1053) rfl rfl (v := V.bool false) (.pickK rfl hc1054 rfl) ?_
                    exact SafeOps.drop' 3 rfl rfl rfl K
                  refine SafeOps.quiet0 E_good rfl rfl rfl (v := V.bool ((x_1051 == 4) && (v9_1043 == 0))) (.pickK rfl hc1053 rfl) ?_
                  exact SafeOps.drop' 5 rfl rfl rfl K
                refine SafeOps.nil ?_
                repeat (first | refine Safe.seq ?_ | refine Safe.skip ?_ | with_reducible refine thenQ.n ?_ | with_reducible refine blockQ.n ?_)
                refine ifG h (fun hc1055 h => ?_) (fun hc1055 h => ?_)
                · skip
                  refine Safe.condK rfl hc1055 ?_
                  repeat (first | refine Safe.seq ?_ | refine Safe.skip ?_ | with_reducible refine thenQ.n ?_ | with_reducible refine blockQ.n ?_)
                  refine Safe.region ?_
                  refine SafeOps.quiet0 E_good rfl rfl rfl (v := V.int .i64 x_1051) (.fn rfl) ?_
                  refine SafeOps.quiet0 E_good rfl rfl rfl (v := V.int .i64 x_1051) (.fn rfl) ?_
                  refine SafeOps.nil ?_
                  repeat (first | refine Safe.seq ?_ | refine Safe.skip ?_ | with_reducible refine thenQ.n ?_ | with_reducible refine blockQ.n ?_)
                  refine Safe.region ?_
                  refine SafeOps.quiet0 E_good rfl rfl rfl (v := V.int .i64 v8_1042) (.fn rfl) ?_
                  refine SafeOps.quiet0 E_good rfl rfl rfl (v := V.int .i64 x_1050) (.fn rfl) ?_
                  refine SafeOps.quiet0 E_good rfl rfl rfl (v := V.int .i64 (IntKind.i64.wrap (v8_1042 + x_1050))) (.fn rfl) ?_
                  refine SafeOps.quiet0 E_good rfl rfl rfl (v := V.int .i64 (IntKind.i64.wrap (v8_1042 + x_1050))) (.fn rfl) ?_
                  refine SafeOps.nil ?_
                  repeat (first | refine Safe.seq ?_ | refine Safe.skip ?_ | with_reducible refine thenQ.n ?_ | with_reducible refine blockQ.n ?_)
                  refine Safe.region ?_
                  refine SafeOps.quiet0 E_good rfl rfl rfl (v := V.int .i64 (IntKind.i64.wrap (v56_1044 + 1))) (.fn rfl) ?_
                  refine SafeOps.quiet0 E_good rfl rfl rfl (v := V.int .i64 (IntKind.i64.wrap (v56_1044 + 1))) (.fn rfl) ?_
                  refine SafeOps.nil ?_
                  repeat (first | refine Safe.seq ?_ | refine Safe.skip ?_ | with_reducible refine thenQ.n ?_ | with_reducible refine blockQ.n ?_)
                  exact ⟨_, next_out h, (.cov ⟨rfl, rfl, (upT_cons (.refl _) (upT_cons (.refl _) (upT_cons (.refl _) (upT_cons (.refl _) (upT_cons (.refl _) (upT_cons (.refl _) (upT_cons (.refl _) (upT_cons (.refl _) (upT_cons (.refl _) upT_nil))))))))), upOb_nil, upOut_nil, rfl⟩)⟩
                · skip
                  refine Safe.condN rfl hc1055 ?_
                  repeat (first | refine Safe.seq ?_ | refine Safe.skip ?_ | with_reducible refine thenQ.n ?_ | with_reducible refine blockQ.n ?_)
                  refine Safe.region ?_
                  refine SafeOps.quiet0 E_good rfl rfl rfl (v := V.int .i64 v8_1042) (.fn rfl) ?_
                  refine SafeOps.quiet0 E_good rfl rfl rfl (v := V.int .i64 x_1050) (.fn rfl) ?_
                  refine SafeOps.quiet0 E_good rfl rfl rfl (v := V.int .i64 (IntKind.i64.wrap (v8_1042 + x_1050))) (.fn rfl) ?_
                  refine SafeOps.quiet0 E_good rfl rfl rfl (v := V.int .i64 (IntKind.i64.wrap (v8_1042 + x_1050))) (.fn rfl) ?_
                  refine SafeOps.nil ?_
                  repeat (first | refine Safe.seq ?_ | refine Safe.skip ?_ | with_reducible refine thenQ.n ?_ | with_reducible refine blockQ.n ?_)
                  refine Safe.region ?_
                  refine SafeOps.quiet0 E_good rfl rfl rfl (v := V.int .i64 (IntKind.i64.wrap (v56_1044 + 1))) (.fn rfl) ?_
                  refine SafeOps.quiet0 E_good rfl rfl rfl (v := V.int .i64 (IntKind.i64.wrap (v56_1044 + 1))) (.fn rfl) ?_
                  refine SafeOps.nil ?_
                  repeat (first | refine Safe.seq ?_ | refine Safe.skip ?_ | with_reducible refine thenQ.n ?_ | with_reducible refine blockQ.n ?_)
                  exact ⟨_, next_out h, (.cov ⟨rfl, rfl, (upT_cons (.refl _) (upT_cons (.refl _) (upT_cons (.refl _) (upT_cons (.refl _) (upT_cons (.refl _) (upT_cons (.refl _) (upT_cons (.refl _) (upT_cons (.refl _) (upT_cons (.refl _) upT_nil))))))))), upOb_nil, upOut_nil, rfl⟩)⟩
          · skip
            refine Safe.condN rfl hc1046 ?_
            repeat (first | refine Safe.seq ?_ | refine Safe.skip ?_ | with_reducible refine thenQ.n ?_ | with_reducible refine blockQ.n ?_)
            refine Safe.exit ?_
            repeat (first | with_reducible refine thenQ.e ?_ | with_reducible refine blockQ.x rfl ?_ | with_reducible refine blockQ.y rfl ?_)
            replace h := inr_out h hr1045
            repeat (first | refine Safe.skip ?_ | with_reducible refine thenQ.n ?_ | with_reducible refine blockQ.n ?_)
            exact Safe.got (HJ1004 (v8_1042, v9_1043) h) (.cov ⟨rfl, rfl, (upT_cons (.refl _) (upT_cons (.refl _) (upT_cons (.refl _) (upT_cons (.refl _) (upT_cons (.refl _) upT_nil))))), upOb_nil, upOut_nil, rfl⟩)

def go_ravelref04_in (a0_1086 : Int) (a1_1087 : Int) (a2_1088 : Int) : Bool :=
  ((decide (a0_1086 ≥ a1_1087)) && (decide (a0_1086 ≤ a2_1088)))

theorem go_ravelref04_in_sc (a0_1086 : Int) (a1_1087 : Int) (a2_1088 : Int) (r : Bool) (h : go_ravelref04_in a0_1086 a1_1087 a2_1088 = r) : SC Try.prog gl 41 [V.int .i64 a0_1086, V.int .i64 a1_1087, V.int .i64 a2_1088] (V.bool r) := by
  rw [go_ravelref04_in] at h
  refine SC.of E_good Try.func41 rfl (fun _ _ => Try.call41 _ _) rfl ?_
  repeat (first | refine Safe.seq ?_ | refine Safe.skip ?_ | with_reducible refine thenQ.n ?_ | with_reducible refine blockQ.n ?_)
  refine Safe.region ?_
  refine SafeOps.quiet0 E_good rfl rfl rfl (v := V.bool false) (.fn rfl) ?_
  refine SafeOps.nil ?_
  repeat (first | refine Safe.seq ?_ | refine Safe.skip ?_ | with_reducible refine thenQ.n ?_ | with_reducible refine blockQ.n ?_)
  refine Safe.region ?_
  refine SafeOps.quiet0 E_good rfl rfl rfl (v := V.int .i64 a0_1086) (.fn rfl) ?_
  refine SafeOps.quiet0 E_good rfl rfl rfl (v := V.int .i64 a1_1087) (.fn rfl) ?_
  refine SafeOps.quiet0 E_good rfl rfl rfl (v := V.bool (decide (a0_1086 ≥ a1_1087))) (.fn rfl) ?_
  refine SafeOps.quiet0 E_good rfl rfl rfl (v := V.bool (decide (a0_1086 ≥ a1_1087))) (.fn rfl) ?_
  refine SafeOps.bjoin 4 14 (b := ((decide (a0_1086 ≥ a1_1087)) && (decide (a0_1086 ≤ a2_1088)))) (b1 := decide (a0_1086 ≤ a2_1088)) (b0 := false) (fun hc1090 K => ?_) (fun hc1090 K => ?_) bj_and ?_
  · skip
    refine SafeOps.quiet0 E_good (congrArg some hc1090) rfl rfl (v := V.int .i64 a0_1086) (.fn rfl) ?_
    refine SafeOps.quiet0 E_good (congrArg some hc1090) rfl rfl (v := V.int .i64 a2_1088) (.fn rfl) ?_
    refine SafeOps.quiet0 E_good (congrArg some hc1090) rfl rfl (v := V.bool (decide (a0_1086 ≤ a2_1088))) (.fn rfl) ?_
    refine SafeOps.quiet0 E_good rfl rfl rfl (v := V.bool (decide (a0_1086 ≤ a2_1088))) (.pickK rfl hc1090 rfl) ?_
    exact SafeOps.drop' 4 rfl rfl rfl K
  · skip
    refine SafeOps.skip (congrArg some hc1090) rfl rfl ?_
    refine SafeOps.skip (congrArg some hc1090) rfl rfl ?_
    refine SafeOps.skip (congrArg some hc1090) rfl rfl ?_
    refine SafeOps.quiet0 E_good rfl rfl rfl (v := V.bool false) (.pickK rfl hc1090 rfl) ?_
    exact SafeOps.drop' 4 rfl rfl rfl K
  refine SafeOps.quiet0 E_good rfl rfl rfl (v := V.bool ((decide (a0_1086 ≥ a1_1087)) && (decide (a0_1086 ≤ a2_1088)))) (.fn rfl) ?_
  refine SafeOps.nil ?_
  repeat (first | refine Safe.seq ?_ | refine Safe.skip ?_ | with_reducible refine thenQ.n ?_ | with_reducible refine blockQ.n ?_)
  refine Safe.ret ?_
  repeat (first | with_reducible refine thenQ.r ?_ | with_reducible refine blockQ.r ?_)
  obtain rfl := h
  exact retQ.gen (vs := [V.bool ((decide (a0_1086 ≥ a1_1087)) && (decide (a0_1086 ≤ a2_1088)))]) rfl (.tmp (v := V.bool ((decide (a0_1086 ≥ a1_1087)) && (decide (a0_1086 ≤ a2_1088)))) rfl .nil) (.free rfl) (by simp) (.inr rfl)

def go_ravelref04_may (a0_1085 : api_Instr) : Bool :=
  if (a0_1085.Op == 1) = true then
    ((go_ravelref04_in a0_1085.A 1 100) && (a0_1085.B == 0))
  else
    if (a0_1085.Op == 2) = true then
      ((go_ravelref04_in a0_1085.A 0 15) && (go_ravelref04_in a0_1085.B 0 3))
    else
      if ((a0_1085.Op == 3) || (a0_1085.Op == 9)) = true then
        ((a0_1085.A == 0) && (a0_1085.B == 0))
      else
        if (a0_1085.Op == 4) = true then
          ((go_ravelref04_in a0_1085.A 1 1000) && (a0_1085.B == 0))
        else
          if (a0_1085.Op == 5) = true then
            ((go_ravelref04_in a0_1085.A 0 15) && (a0_1085.B == 0))
          else
            if (a0_1085.Op == 6) = true then
              ((go_ravelref04_in a0_1085.A 0 3) && (a0_1085.B == 0))
            else
              ((((a0_1085.Op == 7) || (a0_1085.Op == 8)) && (go_ravelref04_in a0_1085.A 0 7)) && (a0_1085.B == 0))

theorem go_ravelref04_may_sc (a0_1085 : api_Instr) (r : Bool) (h : go_ravelref04_may a0_1085 = r) : SC Try.prog gl 33 [V.agg [V.int .i64 a0_1085.Op, V.int .i64 a0_1085.A, V.int .i64 a0_1085.B]] (V.bool r) := by
  rw [go_ravelref04_may] at h
  refine SC.of E_good Try.func33 rfl (fun _ _ => Try.call33 _ _) rfl ?_
  repeat (first | refine Safe.seq ?_ | refine Safe.skip ?_ | with_reducible refine thenQ.n ?_ | with_reducible refine blockQ.n ?_)
  refine Safe.region ?_
  refine SafeOps.quiet1 E_good rfl rfl rfl (.box rfl rfl) rfl ?_
  refine SafeOps.quiet0 E_good rfl rfl rfl (v := V.bool false) (.fn rfl) ?_
  refine SafeOps.nil ?_
  repeat (first | refine Safe.seq ?_ | refine Safe.skip ?_ | with_reducible refine thenQ.n ?_ | with_reducible refine blockQ.n ?_)
  refine Safe.region ?_
  refine SafeOps.quiet0 E_good rfl rfl rfl (v := V.ptr [1] 0 0) (.fn rfl) ?_
  refine SafeOps.quiet0 E_good rfl rfl rfl (v := V.int .i64 a0_1085.Op) (.load rfl rfl (.box rfl rfl) rfl) ?_
  refine SafeOps.quiet0 E_good rfl rfl rfl (v := V.bool (a0_1085.Op == 1)) (.fn rfl) ?_
  refine SafeOps.nil ?_
  repeat (first | refine Safe.seq ?_ | refine Safe.skip ?_ | with_reducible refine thenQ.n ?_ | with_reducible refine blockQ.n ?_)
  refine ifG h (fun hc1114 h => ?_) (fun hc1114 h => ?_)
  · skip
    refine Safe.condK rfl hc1114 ?_
    repeat (first | refine Safe.seq ?_ | refine Safe.skip ?_ | with_reducible refine thenQ.n ?_ | with_reducible refine blockQ.n ?_)
    refine Safe.region ?_
    refine SafeOps.quiet0 E_good rfl rfl rfl (v := V.ptr [1] 0 1) (.fn rfl) ?_
    refine SafeOps.quiet0 E_good rfl rfl rfl (v := V.int .i64 a0_1085.A) (.load rfl rfl (.box rfl rfl) rfl) ?_
    refine SafeOps.quiet0 E_good rfl rfl rfl (v := V.bool (go_ravelref04_in a0_1085.A 1 100)) (.callP rfl rfl (go_ravelref04_in_sc a0_1085.A 1 100 _ rfl) rfl) ?_
    refine SafeOps.quiet0 E_good rfl rfl rfl (v := V.bool (go_ravelref04_in a0_1085.A 1 100)) (.fn rfl) ?_
    refine SafeOps.bjoin 4 13 (b := ((go_ravelref04_in a0_1085.A 1 100) && (a0_1085.B == 0))) (b1 := (a0_1085.B == 0)) (b0 := false) (fun hc1115 K => ?_) (fun hc1115 K => ?_) bj_and ?_
    · skip
      refine SafeOps.quiet0 E_good (congrArg some hc1115) rfl rfl (v := V.ptr [1] 0 2) (.fn rfl) ?_
      refine SafeOps.quiet0 E_good (congrArg some hc1115) rfl rfl (v := V.int .i64 a0_1085.B) (.load rfl rfl (.box rfl rfl) rfl) ?_
      refine SafeOps.quiet0 E_good (congrArg some hc1115) rfl rfl (v := V.bool (a0_1085.B == 0)) (.fn rfl) ?_
      refine SafeOps.quiet0 E_good rfl rfl rfl (v := V.bool (a0_1085.B == 0)) (.pickK rfl hc1115 rfl) ?_
      exact SafeOps.drop' 4 rfl rfl rfl K
    · skip
      refine SafeOps.skip (congrArg some hc1115) rfl rfl ?_
      refine SafeOps.skip (congrArg some hc1115) rfl rfl ?_
      refine SafeOps.skip (congrArg some hc1115) rfl rfl ?_
      refine SafeOps.quiet0 E_good rfl rfl rfl (v := V.bool false) (.pickK rfl hc1115 rfl) ?_
      exact SafeOps.drop' 4 rfl rfl rfl K
    refine SafeOps.quiet0 E_good rfl rfl rfl (v := V.bool ((go_ravelref04_in a0_1085.A 1 100) && (a0_1085.B == 0))) (.fn rfl) ?_
    refine SafeOps.nil ?_
    repeat (first | refine Safe.seq ?_ | refine Safe.skip ?_ | with_reducible refine thenQ.n ?_ | with_reducible refine blockQ.n ?_)
    refine Safe.ret ?_
    repeat (first | with_reducible refine thenQ.r ?_ | with_reducible refine blockQ.r ?_)
    obtain rfl := h
    exact retQ.gen (vs := [V.bool ((go_ravelref04_in a0_1085.A 1 100) && (a0_1085.B == 0))]) rfl (.tmp (v := V.bool ((go_ravelref04_in a0_1085.A 1 100) && (a0_1085.B == 0))) rfl .nil) (.free rfl) (by simp) (.inr rfl)
  · skip
    refine Safe.condN rfl hc1114 ?_
    repeat (first | refine Safe.seq ?_ | refine Safe.skip ?_ | with_reducible refine thenQ.n ?_ | with_reducible refine blockQ.n ?_)
    refine Safe.region ?_
    refine SafeOps.quiet0 E_good rfl rfl rfl (v := V.ptr [1] 0 0) (.fn rfl) ?_
    refine SafeOps.quiet0 E_good rfl rfl rfl (v := V.int .i64 a0_1085.Op) (.load rfl rfl (.box rfl rfl) rfl) ?_
    refine SafeOps.quiet0 E_good rfl rfl rfl (v := V.bool (a0_1085.Op == 2)) (.fn rfl) ?_
    refine SafeOps.nil ?_
    repeat (first | refine Safe.seq ?_ | refine Safe.skip ?_ | with_reducible refine thenQ.n ?_ | with_reducible refine blockQ.n ?_)
    refine ifG h (fun hc1117 h => ?_) (fun hc1117 h => ?_)
    · skip
      refine Safe.condK rfl hc1117 ?_
      repeat (first | refine Safe.seq ?_ | refine Safe.skip ?_ | with_reducible refine thenQ.n ?_ | with_reducible refine blockQ.n ?_)
      refine Safe.region ?_
      refine SafeOps.quiet0 E_good rfl rfl rfl (v := V.ptr [1] 0 1) (.fn rfl) ?_
      refine SafeOps.quiet0 E_good rfl rfl rfl (v := V.int .i64 a0_1085.A) (.load rfl rfl (.box rfl rfl) rfl) ?_
      refine SafeOps.quiet0 E_good rfl rfl rfl (v := V.bool (go_ravelref04_in a0_1085.A 0 15)) (.callP rfl rfl (go_ravelref04_in_sc a0_1085.A 0 15 _ rfl) rfl) ?_
      refine SafeOps.quiet0 E_good rfl rfl rfl (v := V.bool (go_ravelref04_in a0_1085.A 0 15)) (.fn rfl) ?_
      refine SafeOps.bjoin 4 24 (b := ((go_ravelref04_in a0_1085.A 0 15) && (go_ravelref04_in a0_1085.B 0 3))) (b1 := go_ravelref04_in a0_1085.B 0 3) (b0 := false) (fun hc1118 K => ?_) (fun hc1118 K => ?_) bj_and ?_
      · skip
        refine SafeOps.quiet0 E_good (congrArg some hc1118) rfl rfl (v := V.ptr [1] 0 2) (.fn rfl) ?_
        refine SafeOps.quiet0 E_good (congrArg some hc1118) rfl rfl (v := V.int .i64 a0_1085.B) (.load rfl rfl (.box rfl rfl) rfl) ?_
        refine SafeOps.quiet0 E_good (congrArg some hc1118) rfl rfl (v := V.bool (go_ravelref04_in a0_1085.B 0 3)) (.callP rfl rfl (go_ravelref04_in_sc a0_1085.B 0 3 _ rfl) rfl) ?_
        refine SafeOps.quiet0 E_good rfl rfl rfl (v := V.bool (go_ravelref04_in a0_1085.B 0 3)) (.pickK rfl hc1118 rfl) ?_
        exact SafeOps.drop' 4 rfl rfl rfl K
      · skip
        refine SafeOps.skip (congrArg some hc1118) rfl rfl ?_
        refine SafeOps.skip (congrArg some hc1118) rfl rfl ?_
        refine SafeOps.skip (congrArg some hc1118) rfl rfl ?_
        refine SafeOps.quiet0 E_good rfl rfl rfl (v := V.bool false) (.pickK rfl hc1118 rfl) ?_
        exact SafeOps.drop' 4 rfl rfl rfl K
      refine SafeOps.quiet0 E_good rfl rfl rfl (v := V.bool ((go_ravelref04_in a0_1085.A 0 15) && (go_ravelref04_in a0_1085.B 0 3))) (.fn rfl) ?_
      refine SafeOps.nil ?_
      repeat (first | refine Safe.seq ?_ | refine Safe.skip ?_ | with_reducible refine thenQ.n ?_ | with_reducible refine blockQ.n ?_)
      refine Safe.ret ?_
      repeat (first | with_reducible refine thenQ.r ?_ | with_reducible refine blockQ.r ?_)
      obtain rfl := h
      exact retQ.gen (vs := [V.bool ((go_ravelref04_in a0_1085.A 0 15) && (go_ravelref04_in a0_1085.B 0 3))]) rfl (.tmp (v := V.bool ((go_ravelref04_in a0_1085.A 0 15) && (go_ravelref04_in a0_1085.B 0 3))) rfl .nil) (.free rfl) (by simp) (.inr rfl)
    · skip
      refine Safe.condN rfl hc1117 ?_
      repeat (first | refine Safe.seq ?_ | refine Safe.skip ?_ | with_reducible refine thenQ.n ?_ | with_reducible refine blockQ.n ?_)
      refine Safe.region ?_
      refine SafeOps.quiet0 E_good rfl rfl rfl (v := V.ptr [1] 0 0) (.fn rfl) ?_
      refine SafeOps.quiet0 E_good rfl rfl rfl (v := V.int .i64 a0_1085.Op) (.load rfl rfl (.box rfl rfl) rfl) ?_
      refine SafeOps.quiet0 E_good rfl rfl rfl (v := V.bool (a0_1085.Op == 3)) (.fn rfl) ?_
      refine SafeOps.quiet0 E_good rfl rfl rfl (v := V.bool (a0_1085.Op == 3)) (.fn rfl) ?_
      refine SafeOps.bjoin 4 32 (b := ((a0_1085.Op == 3) || (a0_1085.Op == 9))) (b1 := true) (b0 := (a0_1085.Op == 9)) (fun hc1119 K => ?_) (fun hc1119 K => ?_) bj_or ?_
      · skip
        refine SafeOps.skip (congrArg (fun b => some (!b)) hc1119) rfl rfl ?_
        refine SafeOps.skip (congrArg (fun b => some (!b)) hc1119) rfl rfl ?_
        refine SafeOps.skip (congrArg (fun b => some (!b)) hc1119) rfl rfl ?_
        refine SafeOps.quiet0 E_good rfl rfl rfl (v := V.bool true) (.pickK rfl hc1119 rfl) ?_
        exact SafeOps.drop' 4 rfl rfl rfl K
      · skip
        refine SafeOps.quiet0 E_good (congrArg (fun b => some (!b)) hc1119) rfl rfl (v := V.ptr [1] 0 0) (.fn rfl) ?_
        refine SafeOps.quiet0 E_good (congrArg (fun b => some (!b)) hc1119) rfl rfl (v := V.int .i64 a0_1085.Op) (.load rfl rfl (.box rfl rfl) rfl) ?_
        refine SafeOps.quiet0 E_good (congrArg (fun b => some (!b)) hc1119) rfl rfl (v := V.bool (a0_1085.Op == 9)) (.fn rfl) ?_
        refine SafeOps.quiet0 E_good rfl rfl rfl (v := V.bool (a0_1085.Op == 9)) (.pickK rfl hc1119 rfl) ?_
        exact SafeOps.drop' 4 rfl rfl rfl K
      refine SafeOps.nil ?_
      repeat (first | refine Safe.seq ?_ | refine Safe.skip ?_ | with_reducible refine thenQ.n ?_ | with_reducible refine blockQ.n ?_)
      refine ifG h (fun hc1121 h => ?_) (fun hc1121 h => ?_)
      · skip
        refine Safe.condK rfl hc1121 ?_
        repeat (first | refine Safe.seq ?_ | refine Safe.skip ?_ | with_reducible refine thenQ.n ?_ | with_reducible refine blockQ.n ?_)
        refine Safe.region ?_
        refine SafeOps.quiet0 E_good rfl rfl rfl (v := V.ptr [1] 0 1) (.fn rfl) ?_
        refine SafeOps.quiet0 E_good rfl rfl rfl (v := V.int .i64 a0_1085.A) (.load rfl rfl (.box rfl rfl) rfl) ?_
        refine SafeOps.quiet0 E_good rfl rfl rfl (v := V.bool (a0_1085.A == 0)) (.fn rfl) ?_
        refine SafeOps.quiet0 E_good rfl rfl rfl (v := V.bool (a0_1085.A == 0)) (.fn rfl) ?_
        refine SafeOps.bjoin 4 40 (b := ((a0_1085.A == 0) && (a0_1085.B == 0))) (b1 := (a0_1085.B == 0)) (b0 := false) (fun hc1122 K => ?_) (fun hc1122 K => ?_) bj_and ?_
        · skip
          refine SafeOps.quiet0 E_good (congrArg some hc1122) rfl rfl (v := V.ptr [1] 0 2) (.fn rfl) ?_
          refine SafeOps.quiet0 E_good (congrArg some hc1122) rfl rfl (v := V.int .i64 a0_1085.B) (.load rfl rfl (.box rfl rfl) rfl) ?_
          refine SafeOps.quiet0 E_good (congrArg some hc1122) rfl rfl (v := V.bool (a0_1085.B == 0)) (.fn rfl) ?_
          refine SafeOps.quiet0 E_good rfl rfl rfl (v := V.bool (a0_1085.B == 0)) (.pickK rfl hc1122 rfl) ?_
          exact SafeOps.drop' 4 rfl rfl rfl K
        · skip
          refine SafeOps.skip (congrArg some hc1122) rfl rfl ?_
          refine SafeOps.skip (congrArg some hc1122) rfl rfl ?_
          refine SafeOps.skip (congrArg some hc1122) rfl rfl ?_
          refine SafeOps.quiet0 E_good rfl rfl rfl (v := V.bool false) (.pickK rfl hc1122 rfl) ?_
          exact SafeOps.drop' 4 rfl rfl rfl K
        refine SafeOps.quiet0 E_good rfl rfl rfl (v := V.bool ((a0_1085.A == 0) && (a0_1085.B == 0))) (.fn rfl) ?_
        refine SafeOps.nil ?_
        repeat (first | refine Safe.seq ?_ | refine Safe.skip ?_ | with_reducible refine thenQ.n ?_ | with_reducible refine blockQ.n ?_)
        refine Safe.ret ?_
        repeat (first | with_reducible refine thenQ.r ?_ | with_reducible refine blockQ.r ?_)
        obtain rfl := h
        exact retQ.gen (vs := [V.bool ((a0_1085.A == 0) && (a0_1085.B == 0))]) rfl (.tmp (v := V.bool ((a0_1085.A == 0) && (a0_1085.B == 0))) rfl .nil) (.free rfl) (by simp) (.inr rfl)
      · skip
        refine Safe.condN rfl hc1121 ?_
        repeat (first | refine Safe.seq ?_ | refine Safe.skip ?_ | with_reducible refine thenQ.n ?_ | with_reducible refine blockQ.n ?_)
        refine Safe.region ?_
        refine SafeOps.quiet0 E_good rfl rfl rfl (v := V.ptr [1] 0 0) (.fn rfl) ?_
        refine SafeOps.quiet0 E_good rfl rfl rfl (v := V.int .i64 a0_1085.Op) (.load rfl rfl (.box rfl rfl) rfl) ?_
        refine SafeOps.quiet0 E_good rfl rfl rfl (v := V.bool (a0_1085.Op == 4)) (.fn rfl) ?_
        refine SafeOps.nil ?_
        repeat (first | refine Safe.seq ?_ | refine Safe.skip ?_ | with_reducible refine thenQ.n ?_ | with_reducible refine blockQ.n ?_)
        refine ifG h (fun hc1124 h => ?_) (fun hc1124 h => ?_)
        · skip
          refine Safe.condK rfl hc1124 ?_
          repeat (first | refine Safe.seq ?_ | refine Safe.skip ?_ | with_reducible refine thenQ.n ?_ | with_reducible refine blockQ.n ?_)
          refine Safe.region ?_
          refine SafeOps.quiet0 E_good rfl rfl rfl (v := V.ptr [1] 0 1) (.fn rfl) ?_
          refine SafeOps.quiet0 E_good rfl rfl rfl (v := V.int .i64 a0_1085.A) (.load rfl rfl (.box rfl rfl) rfl) ?_
          refine SafeOps.quiet0 E_good rfl rfl rfl (v := V.bool (go_ravelref04_in a0_1085.A 1 1000)) (.callP rfl rfl (go_ravelref04_in_sc a0_1085.A 1 1000 _ rfl) rfl) ?_
          refine SafeOps.quiet0 E_good rfl rfl rfl (v := V.bool (go_ravelref04_in a0_1085.A 1 1000)) (.fn rfl) ?_
          refine SafeOps.bjoin 4 51 (b := ((go_ravelref04_in a0_1085.A 1 1000) && (a0_1085.B == 0))) (b1 := (a0_1085.B == 0)) (b0 := false) (fun hc1125 K => ?_) (fun hc1125 K => ?_) bj_and ?_
          · skip
            refine SafeOps.quiet0 E_good (congrArg some hc1125) rfl rfl (v := V.ptr [1] 0 2) (.fn rfl) ?_
            refine SafeOps.quiet0 E_good (congrArg some hc1125) rfl rfl (v := V.int .i64 a0_1085.B) (.load rfl rfl (.box rfl rfl) rfl) ?_
            refine SafeOps.quiet0 E_good (congrArg some hc1125) rfl rfl (v := V.bool (a0_1085.B == 0)) (.fn rfl) ?_
            refine SafeOps.quiet0 E_good rfl rfl rfl (v := V.bool (a0_1085.B == 0)) (.pickK rfl hc1125 rfl) ?_
            exact SafeOps.drop' 4 rfl rfl rfl K
          · skip
            refine SafeOps.skip (congrArg some hc1125) rfl rfl ?_
            refine SafeOps.skip (congrArg some hc1125) rfl rfl ?_
            refine SafeOps.skip (congrArg some hc1125) rfl rfl ?_
            refine SafeOps.quiet0 E_good rfl rfl rfl (v := V.bool false) (.pickK rfl hc1125 rfl) ?_
            exact SafeOps.drop' 4 rfl rfl rfl K
          refine SafeOps.quiet0 E_good rfl rfl rfl (v := V.bool ((go_ravelref04_in a0_1085.A 1 1000) && (a0_1085.B == 0))) (.fn rfl) ?_
          refine SafeOps.nil ?_
          repeat (first | refine Safe.seq ?_ | refine Safe.skip ?_ | with_reducible refine thenQ.n ?_ | with_reducible refine blockQ.n ?_)
          refine Safe.ret ?_
          repeat (first | with_reducible refine thenQ.r ?_ | with_reducible refine blockQ.r ?_)
          obtain rfl := h
          exact retQ.gen (vs := [V.bool ((go_ravelref04_in a0_1085.A 1 1000) && (a0_1085.B == 0))]) rfl (.tmp (v := V.bool ((go_ravelref04_in a0_1085.A 1 1000) && (a0_1085.B == 0))) rfl .nil) (.free rfl) (by simp) (.inr rfl)
        · skip
          refine Safe.condN rfl hc1124 ?_
          repeat (first | refine Safe.seq ?_ | refine Safe.skip ?_ | with_reducible refine thenQ.n ?_ | with_reducible refine blockQ.n ?_)
          refine Safe.region ?_
          refine SafeOps.quiet0 E_good rfl rfl rfl (v := V.ptr [1] 0 0) (.fn rfl) ?_
          refine SafeOps.quiet0 E_good rfl rfl rfl (v := V.int .i64 a0_1085.Op) (.load rfl rfl (.box rfl rfl) rfl) ?_
          refine SafeOps.quiet0 E_good rfl rfl rfl (v := V.bool (a0_1085.Op == 5)) (.fn rfl) ?_
          refine SafeOps.nil ?_
          repeat (first | refine Safe.seq ?_ | refine Safe.skip ?_ | with_reducible refine thenQ.n ?_ | with_reducible refine blockQ.n ?_)
          refine ifG h (fun hc1127 h => ?_) (fun hc1127 h => ?_)
          · skip
            refine Safe.condK rfl hc1127 ?_
            repeat (first | refine Safe.seq ?_ | refine Safe.skip ?_ | with_reducible refine thenQ.n ?_ | with_reducible refine blockQ.n ?_)
            refine Safe.region ?_
            refine SafeOps.quiet0 E_good rfl rfl rfl (v := V.ptr [1] 0 1) (.fn rfl) ?_
            refine SafeOps.quiet0 E_good rfl rfl rfl (v := V.int .i64 a0_1085.A) (.load rfl rfl (.box rfl rfl) rfl) ?_
            refine SafeOps.quiet0 E_good rfl rfl rfl (v := V.bool (go_ravelref04_in a0_1085.A 0 15)) (.callP rfl rfl (go_ravelref04_in_sc a0_1085.A 0 15 _ rfl) rfl) ?_
            refine SafeOps.quiet0 E_good rfl rfl rfl (v := V.bool (go_ravelref04_in a0_1085.A 0 15)) (.fn rfl) ?_
            refine SafeOps.bjoin 4 62 (b := ((go_ravelref04_in a0_1085.A 0 15) && (a0_1085.B == 0))) (b1 := (a0_1085.B == 0)) (b0 := false) (fun hc1128 K => ?_) (fun hc1128 K => ?_) bj_and ?_
            · skip
              refine SafeOps.quiet0 E_good (congrArg some hc1128) rfl rfl (v := V.ptr [1] 0 2) (.fn rfl) ?_
              refine SafeOps.quiet0 E_good (congrArg some hc1128) rfl rfl (v := V.int .i64 a0_1085.B) (.load rfl rfl (.box rfl rfl) rfl) ?_
              refine SafeOps.quiet0 E_good (congrArg some hc1128) rfl rfl (v := V.bool (a0_1085.B == 0)) (.fn rfl) ?_
              refine SafeOps.quiet0 E_good rfl rfl rfl (v := V.bool (a0_1085.B == 0)) (.pickK rfl hc1128 rfl) ?_
              exact SafeOps.drop' 4 rfl rfl rfl K
            · skip
              refine SafeOps.skip (congrArg some hc1128) rfl rfl ?_
              refine SafeOps.skip (congrArg some hc1128) rfl rfl ?_
              refine SafeOps.skip (congrArg some hc1128) rfl rfl ?_
              refine SafeOps.quiet0 E_good rfl rfl rfl (v := V.bool false) (.pickK rfl hc1128 rfl) ?_
              exact SafeOps.drop' 4 rfl rfl rfl K
            refine SafeOps.quiet0 E_good rfl rfl rfl (v := V.bool ((go_ravelref04_in a0_1085.A 0 15) && (a0_1085.B == 0))) (.fn rfl) ?_
            refine SafeOps.nil ?_
            repeat (first | refine Safe.seq ?_ | refine Safe.skip ?_ | with_reducible refine thenQ.n ?_ | with_reducible refine blockQ.n ?_)
            refine Safe.ret ?_
            repeat (first | with_reducible refine thenQ.r ?_ | with_reducible refine blockQ.r ?_)
            obtain rfl := h
            exact retQ.gen (vs := [V.bool ((go_ravelref04_in a0_1085.A 0 15) && (a0_1085.B == 0))]) rfl (.tmp (v := V.bool ((go_ravelref04_in a0_1085.A 0 15) && (a0_1085.B == 0))) rfl .nil) (.free rfl) (by simp) (.inr rfl)
          · skip
            refine Safe.condN rfl hc1127 ?_
            repeat (first | refine Safe.seq ?_ | refine Safe.skip ?_ | with_reducible refine thenQ.n ?_ | with_reducible refine blockQ.n ?_)
            refine Safe.region ?_
            refine SafeOps.quiet0 E_good rfl rfl rfl (v := V.ptr [1] 0 0) (.fn rfl) ?_
            refine SafeOps.quiet0 E_good rfl rfl rfl (v := V.int .i64 a0_1085.Op) (.load rfl rfl (.box rfl rfl) rfl) ?_
            refine SafeOps.quiet0 E_good rfl rfl rfl (v := V.bool (a0_1085.Op == 6)) (.fn rfl) ?_
            refine SafeOps.nil ?_
            repeat (first | refine Safe.seq ?_ | refine Safe.skip ?_ | with_reducible refine thenQ.n ?_ | with_reducible refine blockQ.n ?_)
            refine ifG h (fun hc1130 h => ?_) (fun hc1130 h => ?_)
            · skip
              refine Safe.condK rfl hc1130 ?_
              repeat (first | refine Safe.seq ?_ | refine Safe.skip ?_ | with_reducible refine thenQ.n ?_ | with_reducible refine blockQ.n ?_)
              refine Safe.region ?_
              refine SafeOps.quiet0 E_good rfl rfl rfl (v := V.ptr [1] 0 1) (.fn rfl) ?_
              refine SafeOps.quiet0 E_good rfl rfl rfl (v := V.int .i64 a0_1085.A) (.load rfl rfl (.box rfl rfl) rfl) ?_
              refine SafeOps.quiet0 E_good rfl rfl rfl (v := V.bool (go_ravelref04_in a0_1085.A 0 3)) (.callP rfl rfl (go_ravelref04_in_sc a0_1085.A 0 3 _ rfl) rfl) ?_
              refine SafeOps.quiet0 E_good rfl rfl rfl (v := V.bool (go_ravelref04_in a0_1085.A 0 3)) (.fn rfl) ?_
              refine SafeOps.bjoin 4 73 (b := ((go_ravelref04_in a0_1085.A 0 3) && (a0_1085.B == 0))) (b1 := (a0_1085.B == 0)) (b0 := false) (fun hc1131 K => ?_) (fun hc1131 K => ?_) bj_and ?_
              · skip
                refine SafeOps.quiet0 E_good (congrArg some hc1131) rfl rfl (v := V.ptr [1] 0 2) (.fn rfl) ?_
                refine SafeOps.quiet0 E_good (congrArg some hc1131) rfl rfl (v := V.int .i64 a0_1085.B) (.load rfl rfl (.box rfl rfl) rfl) ?_
                refine SafeOps.quiet0 E_good (congrArg some hc1131) rfl rfl (v := V.bool (a0_1085.B == 0)) (.fn rfl) ?_
                refine SafeOps.quiet0 E_good rfl rfl rfl (v := V.bool (a0_1085.B == 0)) (.pickK rfl hc1131 rfl) ?_
                exact SafeOps.drop' 4 rfl rfl rfl K
              · skip
                refine SafeOps.skip (congrArg some hc1131) rfl rfl ?_
                refine SafeOps.skip (congrArg some hc1131) rfl rfl ?_
                refine SafeOps.skip (congrArg some hc1131) rfl rfl ?_
                refine SafeOps.quiet0 E_good rfl rfl rfl (v := V.bool false) (.pickK rfl hc1131 rfl) ?_
                exact SafeOps.drop' 4 rfl rfl rfl K
              refine SafeOps.quiet0 E_good rfl rfl rfl (v := V.bool ((go_ravelref04_in a0_1085.A 0 3) && (a0_1085.B == 0))) (.fn rfl) ?_
              refine SafeOps.nil ?_
              repeat (first | refine Safe.seq ?_ | refine Safe.skip ?_ | with_reducible refine thenQ.n ?_ | with_reducible refine blockQ.n ?_)
              refine Safe.ret ?_
              repeat (first | with_reducible refine thenQ.r ?_ | with_reducible refine blockQ.r ?_)
              obtain rfl := h
              exact retQ.gen (vs := [V.bool ((go_ravelref04_in a0_1085.A 0 3) && (a0_1085.B == 0))]) rfl (.tmp (v := V.bool ((go_ravelref04_in a0_1085.A 0 3) && (a0_1085.B == 0))) rfl .nil) (.free rfl) (by simp) (.inr rfl)
            · skip
              refine Safe.condN rfl hc1130 ?_
              repeat (first | refine Safe.seq ?_ | refine Safe.skip ?_ | with_reducible refine thenQ.n ?_ | with_reducible refine blockQ.n ?_)
              refine Safe.region ?_
              refine SafeOps.quiet0 E_good rfl rfl rfl (v := V.ptr [1] 0 0) (.fn rfl) ?_
              refine SafeOps.quiet0 E_good rfl rfl rfl (v := V.int .i64 a0_1085.Op) (.load rfl rfl (.box rfl rfl) rfl) ?_
              refine SafeOps.quiet0 E_good rfl rfl rfl (v := V.bool (a0_1085.Op == 7)) (.fn rfl) ?_
              refine SafeOps.quiet0 E_good rfl rfl rfl (v := V.bool (a0_1085.Op == 7)) (.fn rfl) ?_
              refine SafeOps.bjoin 4 81 (b := ((a0_1085.Op == 7) || (a0_1085.Op == 8))) (b1 := true) (b0 := (a0_1085.Op == 8)) (fun hc1132 K => ?_) (fun hc1132 K => ?_) bj_or ?_
              · skip
                refine SafeOps.skip (congrArg (fun b => some (!b)) hc1132) rfl rfl ?_
                refine SafeOps.skip (congrArg (fun b => some (!b)) hc1132) rfl rfl ?_
                refine SafeOps.skip (congrArg (fun b => some (!b)) hc1132) rfl rfl ?_
                refine SafeOps.quiet0 E_good rfl rfl rfl (v := V.bool true) (.pickK rfl hc1132 rfl) ?_
                exact SafeOps.drop' 4 rfl rfl rfl K
              · skip
                refine SafeOps.quiet0 E_good (congrArg (fun b => some (!b)) hc1132) rfl rfl (v := V.ptr [1] 0 0) (.fn rfl) ?_
                refine SafeOps.quiet0 E_good (congrArg (fun b => some (!b)) hc1132) rfl rfl (v := V.int .i64 a0_1085.Op) (.load rfl rfl (.box rfl rfl) rfl) ?_
                refine SafeOps.quiet0 E_good (congrArg (fun b => some (!b)) hc1132) rfl rfl (v := V.bool (a0_1085.Op == 8)) (.fn rfl) ?_
                refine SafeOps.quiet0 E_good rfl rfl rfl (v := V.bool (a0_1085.Op == 8)) (.pickK rfl hc1132 rfl) ?_
                exact SafeOps.drop' 4 rfl rfl rfl K
              refine SafeOps.quiet0 E_good rfl rfl rfl (v := V.bool ((a0_1085.Op == 7) || (a0_1085.Op == 8))) (.fn rfl) ?_
              refine SafeOps.bjoin 4 86 (b := (((a0_1085.Op == 7) || (a0_1085.Op == 8)) && (go_ravelref04_in a0_1085.A 0 7))) (b1 := go_ravelref04_in a0_1085.A 0 7) (b0 := false) (fun hc1133 K => ?_) (fun hc1133 K => ?_) bj_and ?_
              · skip
                refine SafeOps.quiet0 E_good (congrArg some hc1133) rfl rfl (v := V.ptr [1] 0 1) (.fn rfl) ?_
                refine SafeOps.quiet0 E_good (congrArg some hc1133) rfl rfl (v := V.int .i64 a0_1085.A) (.load rfl rfl (.box rfl rfl) rfl) ?_
                refine SafeOps.quiet0 E_good (congrArg some hc1133) rfl rfl (v := V.bool (go_ravelref04_in a0_1085.A 0 7)) (.callP rfl rfl (go_ravelref04_in_sc a0_1085.A 0 7 _ rfl) rfl) ?_
                refine SafeOps.quiet0 E_good rfl rfl rfl (v := V.bool (go_ravelref04_in a0_1085.A 0 7)) (.pickK rfl hc1133 rfl) ?_
                exact SafeOps.drop' 4 rfl rfl rfl K
              · skip
                refine SafeOps.skip (congrArg some hc1133) rfl rfl ?_
                refine SafeOps.skip (congrArg some hc1133) rfl rfl ?_
                refine SafeOps.skip (congrArg some hc1133) rfl rfl ?_
                refine SafeOps.quiet0 E_good rfl rfl rfl (v := V.bool false) (.pickK rfl hc1133 rfl) ?_
                exact SafeOps.drop' 4 rfl rfl rfl K
              refine SafeOps.quiet0 E_good rfl rfl rfl (v := V.bool (((a0_1085.Op == 7) || (a0_1085.Op == 8)) && (go_ravelref04_in a0_1085.A 0 7))) (.fn rfl) ?_
              refine SafeOps.bjoin 4 91 (b := ((((a0_1085.Op == 7) || (a0_1085.Op == 8)) && (go_ravelref04_in a0_1085.A 0 7)) && (a0_1085.B == 0))) (b1 := (a0_1085.B == 0)) (b0 := false) (fun hc1134 K => ?_) (fun hc1134 K => ?_) bj_and ?_
              · skip
                refine SafeOps.quiet0 E_good (congrArg some hc1134) rfl rfl (v := V.ptr [1] 0 2) (.fn rfl) ?_
                refine SafeOps.quiet0 E_good (congrArg some hc1134) rfl rfl (v := V.int .i64 a0_1085.B) (.load rfl rfl (.box rfl rfl) rfl) ?_
                refine SafeOps.quiet0 E_good (congrArg some hc1134) rfl rfl (v := V.bool (a0_1085.B == 0)) (.fn rfl) ?_
                refine SafeOps.quiet0 E_good rfl rfl rfl (v := V.bool (a0_1085.B == 0)) (.pickK rfl hc1134 rfl) ?_
                exact SafeOps.drop' 4 rfl rfl rfl K
              · skip
                refine SafeOps.skip (congrArg some hc1134) rfl rfl ?_
                refine SafeOps.skip (congrArg some hc1134) rfl rfl ?_
                refine SafeOps.skip (congrArg some hc1134) rfl rfl ?_
                refine SafeOps.quiet0 E_good rfl rfl rfl (v := V.bool false) (.pickK rfl hc1134 rfl) ?_
                exact SafeOps.drop' 4 rfl rfl rfl K
              refine SafeOps.quiet0 E_good rfl rfl rfl (v := V.bool ((((a0_1085.Op == 7) || (a0_1085.Op == 8)) && (go_ravelref04_in a0_1085.A 0 7)) && (a0_1085.B == 0))) (.fn rfl) ?_
              refine SafeOps.nil ?_
              repeat (first | refine Safe.seq ?_ | refine Safe.skip ?_ | with_reducible refine thenQ.n ?_ | with_reducible refine blockQ.n ?_)
              refine Safe.ret ?_
              repeat (first | with_reducible refine thenQ.r ?_ | with_reducible refine blockQ.r ?_)
              obtain rfl := h
              exact retQ.gen (vs := [V.bool ((((a0_1085.Op == 7) || (a0_1085.Op == 8)) && (go_ravelref04_in a0_1085.A 0 7)) && (a0_1085.B == 0))]) rfl (.tmp (v := V.bool ((((a0_1085.Op == 7) || (a0_1085.Op == 8)) && (go_ravelref04_in a0_1085.A 0 7)) && (a0_1085.B == 0))) rfl .nil) (.free rfl) (by simp) (.inr rfl)

noncomputable def go_ravelref04_Check_s1 (a0_1075 : List api_Instr) : (Int) → Option ((Int) ⊕ (Int))
  | v15_1154 =>
    if (decide (v15_1154 < (a0_1075.length : Int))) = true then
      if 0 ≤ v15_1154 ∧ v15_1154 < (a0_1075.length : Int) then
        if (!(go_ravelref04_may (gt a0_1075 v15_1154))) = true then
          inrO (
            some 1)
        else
          nextO (IntKind.i64.wrap (v15_1154 + 1))
      else none
    else
      inrO (
        some 0)

noncomputable def go_ravelref04_Check (a0_1075 : List api_Instr) : Option Int :=
  if ((decide ((a0_1075.length : Int) < 1)) || (decide ((a0_1075.length : Int) > 32))) = true then
    some 1
  else
    whileO (go_ravelref04_Check_s1 a0_1075) 0

theorem go_ravelref04_Check_sc (a0_1075 : List api_Instr) (r : Int) (h : go_ravelref04_Check a0_1075 = some r) : SC Try.prog gl 17 [V.sl 3 (rws api_Instr.cells a0_1075)] (V.int .i64 r) := by
  rw [go_ravelref04_Check] at h
  refine SC.of E_good Try.func17 rfl (fun _ _ => Try.call17 _ _) rfl ?_
  repeat (first | refine Safe.seq ?_ | refine Safe.skip ?_ | with_reducible refine thenQ.n ?_ | with_reducible refine blockQ.n ?_)
  refine Safe.region ?_
  refine SafeOps.quiet0 E_good rfl rfl rfl (v := V.int .i64 0) (.fn rfl) ?_
  refine SafeOps.nil ?_
  repeat (first | refine Safe.seq ?_ | refine Safe.skip ?_ | with_reducible refine thenQ.n ?_ | with_reducible refine blockQ.n ?_)
  refine Safe.region ?_
  refine SafeOps.quiet0 E_good rfl rfl rfl (v := V.sl 3 (rws api_Instr.cells a0_1075)) (.fn rfl) ?_
  refine SafeOps.quiet0 E_good rfl rfl rfl (v := V.int .i64 (a0_1075.length : Int)) (.fnE rfl lenE) ?_
  refine SafeOps.quiet0 E_good rfl rfl rfl (v := V.bool (decide ((a0_1075.length : Int) < 1))) (.fn rfl) ?_
  refine SafeOps.quiet0 E_good rfl rfl rfl (v := V.bool (decide ((a0_1075.length : Int) < 1))) (.fn rfl) ?_
  refine SafeOps.bjoin 4 12 (b := ((decide ((a0_1075.length : Int) < 1)) || (decide ((a0_1075.length : Int) > 32)))) (b1 := true) (b0 := decide ((a0_1075.length : Int) > 32)) (fun hc1145 K => ?_) (fun hc1145 K => ?_) bj_or ?_
  · skip
    refine SafeOps.skip (congrArg (fun b => some (!b)) hc1145) rfl rfl ?_
    refine SafeOps.skip (congrArg (fun b => some (!b)) hc1145) rfl rfl ?_
    refine SafeOps.skip (congrArg (fun b => some (!b)) hc1145) rfl rfl ?_
    refine SafeOps.quiet0 E_good rfl rfl rfl (v := V.bool true) (.pickK rfl hc1145 rfl) ?_
    exact SafeOps.drop' 4 rfl rfl rfl K
  · skip
    refine SafeOps.quiet0 E_good (congrArg (fun b => some (!b)) hc1145) rfl rfl (v := V.sl 3 (rws api_Instr.cells a0_1075)) (.fn rfl) ?_
    refine SafeOps.quiet0 E_good (congrArg (fun b => some (!b)) hc1145) rfl rfl (v := V.int .i64 (a0_1075.length : Int)) (.fnE rfl lenE) ?_
    refine SafeOps.quiet0 E_good (congrArg (fun b => some (!b)) hc1145) rfl rfl (v := V.bool (decide ((a0_1075.length : Int) > 32))) (.fn rfl) ?_
    refine SafeOps.quiet0 E_good rfl rfl rfl (v := V.bool (decide ((a0_1075.length : Int) > 32))) (.pickK rfl hc1145 rfl) ?_
    exact SafeOps.drop' 4 rfl rfl rfl K
  refine SafeOps.nil ?_
  repeat (first | refine Safe.seq ?_ | refine Safe.skip ?_ | with_reducible refine thenQ.n ?_ | with_reducible refine blockQ.n ?_)
  refine ifG h (fun hc1146 h => ?_) (fun hc1146 h => ?_)
  · skip
    refine Safe.condK rfl hc1146 ?_
    repeat (first | refine Safe.seq ?_ | refine Safe.skip ?_ | with_reducible refine thenQ.n ?_ | with_reducible refine blockQ.n ?_)
    refine Safe.region ?_
    refine SafeOps.quiet0 E_good rfl rfl rfl (v := V.int .i64 1) (.fn rfl) ?_
    refine SafeOps.nil ?_
    repeat (first | refine Safe.seq ?_ | refine Safe.skip ?_ | with_reducible refine thenQ.n ?_ | with_reducible refine blockQ.n ?_)
    refine Safe.ret ?_
    repeat (first | with_reducible refine thenQ.r ?_ | with_reducible refine blockQ.r ?_)
    obtain rfl := Option.some.inj h
    exact retQ.gen (vs := [V.int .i64 1]) rfl (.tmp (v := V.int .i64 1) rfl .nil) (.free rfl) (by simp) (.inr rfl)
  · skip
    refine Safe.condN rfl hc1146 ?_
    repeat (first | refine Safe.seq ?_ | refine Safe.skip ?_ | with_reducible refine thenQ.n ?_ | with_reducible refine blockQ.n ?_)
    refine Safe.region ?_
    refine SafeOps.quiet0 E_good rfl rfl rfl (v := V.sl 3 (rws api_Instr.cells a0_1075)) (.fn rfl) ?_
    refine SafeOps.quiet0 E_good rfl rfl rfl (v := V.int .i64 (a0_1075.length : Int)) (.fnE rfl lenE) ?_
    refine SafeOps.quiet0 E_good rfl rfl rfl (v := V.int .i64 0) (.fn rfl) ?_
    refine SafeOps.nil ?_
    repeat (first | refine Safe.seq ?_ | refine Safe.skip ?_ | with_reducible refine thenQ.n ?_ | with_reducible refine blockQ.n ?_)
    refine Safe.block ?_
    repeat (first | refine Safe.seq ?_ | refine Safe.skip ?_ | with_reducible refine thenQ.n ?_ | with_reducible refine blockQ.n ?_)
    refine Safe.loopW (fun (v15_1154 : Int) => ⟨Try.f17.ntmps, [(13, V.sl 3 (rws api_Instr.cells a0_1075)), (14, V.int .i64 (a0_1075.length : Int)), (15, V.int .i64 v15_1154)], [], [], []⟩) h (.cov ⟨rfl, rfl, (upT_cons (.refl _) (upT_cons (.refl _) (upT_cons (.refl _) upT_nil))), upOb_nil, upOut_nil, rfl⟩) ?_
    intro v15_1154 ohr1155 h hr1155
    replace h : go_ravelref04_Check_s1 a0_1075 v15_1154 = some ohr1155 := h
    rw [go_ravelref04_Check_s1] at h
    repeat (first | refine Safe.seq ?_ | refine Safe.skip ?_ | with_reducible refine thenQ.n ?_ | with_reducible refine blockQ.n ?_)
    refine Safe.region ?_
    refine SafeOps.quiet0 E_good rfl rfl rfl (v := V.bool (decide (v15_1154 < (a0_1075.length : Int)))) (.fn rfl) ?_
    refine SafeOps.nil ?_
    repeat (first | refine Safe.seq ?_ | refine Safe.skip ?_ | with_reducible refine thenQ.n ?_ | with_reducible refine blockQ.n ?_)
    refine ifG h (fun hc1156 h => ?_) (fun hc1156 h => ?_)
    · skip
      refine Safe.condK rfl hc1156 ?_
      repeat (first | refine Safe.seq ?_ | refine Safe.skip ?_ | with_reducible refine thenQ.n ?_ | with_reducible refine blockQ.n ?_)
      refine Safe.block ?_
      repeat (first | refine Safe.seq ?_ | refine Safe.skip ?_ | with_reducible refine thenQ.n ?_ | with_reducible refine blockQ.n ?_)
      refine Safe.region ?_
      refine okG h (fun hb1157 h => ?_)
      refine SafeOps.quiet0 E_good rfl rfl rfl (v := V.spt 3 (rws api_Instr.cells a0_1075) (Int.toNat v15_1154) 0) (.idxSlM (f := api_Instr.cells) rfl rfl rfl rfl rfl hb1157) ?_
      refine SafeOps.quiet0 E_good rfl rfl rfl (v := V.agg [V.int .i64 ((gt a0_1075 v15_1154).Op), V.int .i64 ((gt a0_1075 v15_1154).A), V.int .i64 ((gt a0_1075 v15_1154).B)]) (.load rfl rfl (.sptM (f := api_Instr.cells) hb1157 rfl) rfl) ?_
      refine SafeOps.quiet1 E_good rfl rfl rfl (.alloc rfl rfl) rfl ?_
      refine SafeOps.store (z := Obj.box [V.int .i64 ((gt a0_1075 v15_1154).Op), V.int .i64 ((gt a0_1075 v15_1154).A), V.int .i64 ((gt a0_1075 v15_1154).B)]) E_good rfl rfl rfl rfl rfl rfl rfl (.boxM (c := 3) rfl rfl (Nat.le_of_ble_eq_true rfl) rfl) ?_
      refine SafeOps.nil ?_
      repeat (first | refine Safe.seq ?_ | refine Safe.skip ?_ | with_reducible refine thenQ.n ?_ | with_reducible refine blockQ.n ?_)
      refine Safe.region ?_
      refine SafeOps.quiet0 E_good rfl rfl rfl (v := V.agg [V.int .i64 ((gt a0_1075 v15_1154).Op), V.int .i64 ((gt a0_1075 v15_1154).A), V.int .i64 ((gt a0_1075 v15_1154).B)]) (.load rfl rfl (.box rfl rfl) rfl) ?_
      refine SafeOps.quiet0 E_good rfl rfl rfl (v := V.bool (go_ravelref04_may (gt a0_1075 v15_1154))) (.callP rfl rfl (go_ravelref04_may_sc (gt a0_1075 v15_1154) _ rfl) rfl) ?_
      refine SafeOps.quiet0 E_good rfl rfl rfl (v := V.bool (!(go_ravelref04_may (gt a0_1075 v15_1154)))) (.fn rfl) ?_
      refine SafeOps.nil ?_
      repeat (first | refine Safe.seq ?_ | refine Safe.skip ?_ | with_reducible refine thenQ.n ?_ | with_reducible refine blockQ.n ?_)
      refine ifG h (fun hc1158 h => ?_) (fun hc1158 h => ?_)
      · skip
        refine Safe.condK rfl hc1158 ?_
        repeat (first | refine Safe.seq ?_ | refine Safe.skip ?_ | with_reducible refine thenQ.n ?_ | with_reducible refine blockQ.n ?_)
        refine Safe.region ?_
        refine SafeOps.quiet0 E_good rfl rfl rfl (v := V.int .i64 1) (.fn rfl) ?_
        refine SafeOps.nil ?_
        repeat (first | refine Safe.seq ?_ | refine Safe.skip ?_ | with_reducible refine thenQ.n ?_ | with_reducible refine blockQ.n ?_)
        refine Safe.ret ?_
        repeat (first | with_reducible refine thenQ.r ?_ | with_reducible refine blockQ.r ?_)
        replace h := inr_out h hr1155
        obtain rfl := Option.some.inj h
        exact retQ.gen (vs := [V.int .i64 1]) rfl (.tmp (v := V.int .i64 1) rfl .nil) (.free rfl) (by simp) (.inr rfl)
      · skip
        refine Safe.condN rfl hc1158 ?_
        repeat (first | refine Safe.seq ?_ | refine Safe.skip ?_ | with_reducible refine thenQ.n ?_ | with_reducible refine blockQ.n ?_)
        refine Safe.region ?_
        refine SafeOps.quiet0 E_good rfl rfl rfl (v := V.int .i64 (IntKind.i64.wrap (v15_1154 + 1))) (.fn rfl) ?_
        refine SafeOps.quiet0 E_good rfl rfl rfl (v := V.int .i64 (IntKind.i64.wrap (v15_1154 + 1))) (.fn rfl) ?_
        refine SafeOps.nil ?_
        repeat (first | refine Safe.seq ?_ | refine Safe.skip ?_ | with_reducible refine thenQ.n ?_ | with_reducible refine blockQ.n ?_)
        exact ⟨_, next_out h, (.cov ⟨rfl, rfl, (upT_cons (.refl _) (upT_cons (.refl _) (upT_cons (.refl _) upT_nil))), upOb_nil, upOut_nil, rfl⟩)⟩
    · skip
      refine Safe.condN rfl hc1156 ?_
      repeat (first | refine Safe.seq ?_ | refine Safe.skip ?_ | with_reducible refine thenQ.n ?_ | with_reducible refine blockQ.n ?_)
      refine Safe.exit ?_
      repeat (first | with_reducible refine thenQ.e ?_ | with_reducible refine blockQ.x rfl ?_ | with_reducible refine blockQ.y rfl ?_)
      replace h := inr_out h hr1155
      repeat (first | refine Safe.seq ?_ | refine Safe.skip ?_ | with_reducible refine thenQ.n ?_ | with_reducible refine blockQ.n ?_)
      refine Safe.region ?_
      refine SafeOps.quiet0 E_good rfl rfl rfl (v := V.int .i64 0) (.fn rfl) ?_
      refine SafeOps.nil ?_
      repeat (first | refine Safe.seq ?_ | refine Safe.skip ?_ | with_reducible refine thenQ.n ?_ | with_reducible refine blockQ.n ?_)
      refine Safe.ret ?_
      repeat (first | with_reducible refine thenQ.r ?_ | with_reducible refine blockQ.r ?_)
      obtain rfl := Option.some.inj h
      exact retQ.gen (vs := [V.int .i64 0]) rfl (.tmp (v := V.int .i64 0) rfl .nil) (.free rfl) (by simp) (.inr rfl)

noncomputable def go_ravelref04_Run_s1 (a0_1162 : List api_Instr) : (Int) → Option ((Int) ⊕ (List api_Instr))
  | v7_1188 =>
    if (decide (v7_1188 < (a0_1162.length : Int))) = true then
      if 0 ≤ v7_1188 ∧ v7_1188 < (a0_1162.length : Int) then
        if (((gt a0_1162 v7_1188).Op) == 9) = true then
          if 0 ≤ (IntKind.i64.wrap (v7_1188 + 1)) ∧ (IntKind.i64.wrap (v7_1188 + 1)) ≤ (a0_1162.length : Int) then
            inrO (
              some (sub a0_1162 0 (IntKind.i64.wrap (v7_1188 + 1))))
          else none
        else
          nextO (IntKind.i64.wrap (v7_1188 + 1))
      else none
    else
      inrO (
        some a0_1162)

noncomputable def go_ravelref04_Run (a0_1162 : List api_Instr) : Option (List api_Instr) :=
  whileO (go_ravelref04_Run_s1 a0_1162) 0

theorem go_ravelref04_Run_sc (a0_1162 : List api_Instr) (r : List api_Instr) (h : go_ravelref04_Run a0_1162 = some r) : SC Try.prog gl 32 [V.sl 3 (rws api_Instr.cells a0_1162)] (V.sl 3 (rws api_Instr.cells r)) := by
  rw [go_ravelref04_Run] at h
  refine SC.of E_good Try.func32 rfl (fun _ _ => Try.call32 _ _) rfl ?_
  repeat (first | refine Safe.seq ?_ | refine Safe.skip ?_ | with_reducible refine thenQ.n ?_ | with_reducible refine blockQ.n ?_)
  refine Safe.region ?_
  refine SafeOps.quiet0 E_good rfl rfl rfl (v := V.nils) (.fn rfl) ?_
  refine SafeOps.nil ?_
  repeat (first | refine Safe.seq ?_ | refine Safe.skip ?_ | with_reducible refine thenQ.n ?_ | with_reducible refine blockQ.n ?_)
  refine Safe.region ?_
  refine SafeOps.quiet0 E_good rfl rfl rfl (v := V.sl 3 (rws api_Instr.cells a0_1162)) (.fn rfl) ?_
  refine SafeOps.quiet0 E_good rfl rfl rfl (v := V.int .i64 (a0_1162.length : Int)) (.fnE rfl lenE) ?_
  refine SafeOps.quiet0 E_good rfl rfl rfl (v := V.int .i64 0) (.fn rfl) ?_
  refine SafeOps.nil ?_
  repeat (first | refine Safe.seq ?_ | refine Safe.skip ?_ | with_reducible refine thenQ.n ?_ | with_reducible refine blockQ.n ?_)
  refine Safe.block ?_
  repeat (first | refine Safe.seq ?_ | refine Safe.skip ?_ | with_reducible refine thenQ.n ?_ | with_reducible refine blockQ.n ?_)
  refine Safe.loopW (fun (v7_1188 : Int) => ⟨Try.f32.ntmps, [(0, V.sl 3 (rws api_Instr.cells a0_1162)), (5, V.sl 3 (rws api_Instr.cells a0_1162)), (6, V.int .i64 (a0_1162.length : Int)), (7, V.int .i64 v7_1188)], [], [], []⟩) h (.cov ⟨rfl, rfl, (upT_cons (.refl _) (upT_cons (.refl _) (upT_cons (.refl _) (upT_cons (.refl _) upT_nil)))), upOb_nil, upOut_nil, rfl⟩) ?_
  intro v7_1188 ohr1189 h hr1189
  replace h : go_ravelref04_Run_s1 a0_1162 v7_1188 = some ohr1189 := h
  rw [go_ravelref04_Run_s1] at h
  repeat (first | refine Safe.seq ?_ | refine Safe.skip ?_ | with_reducible refine thenQ.n ?_ | with_reducible refine blockQ.n ?_)
  refine Safe.region ?_
  refine SafeOps.quiet0 E_good rfl rfl rfl (v := V.bool (decide (v7_1188 < (a0_1162.length : Int)))) (.fn rfl) ?_
  refine SafeOps.nil ?_
  repeat (first | refine Safe.seq ?_ | refine Safe.skip ?_ | with_reducible refine thenQ.n ?_ | with_reducible refine blockQ.n ?_)
  refine ifG h (fun hc1190 h => ?_) (fun hc1190 h => ?_)
  · skip
    refine Safe.condK rfl hc1190 ?_
    repeat (first | refine Safe.seq ?_ | refine Safe.skip ?_ | with_reducible refine thenQ.n ?_ | with_reducible refine blockQ.n ?_)
    refine Safe.block ?_
    repeat (first | refine Safe.seq ?_ | refine Safe.skip ?_ | with_reducible refine thenQ.n ?_ | with_reducible refine blockQ.n ?_)
    refine Safe.region ?_
    refine SafeOps.quiet0 E_good rfl rfl rfl (v := V.int .i64 v7_1188) (.fn rfl) ?_
    refine okG h (fun hb1191 h => ?_)
    refine SafeOps.quiet0 E_good rfl rfl rfl (v := V.spt 3 (rws api_Instr.cells a0_1162) (Int.toNat v7_1188) 0) (.idxSlM (f := api_Instr.cells) rfl rfl rfl rfl rfl hb1191) ?_
    refine SafeOps.quiet0 E_good rfl rfl rfl (v := V.agg [V.int .i64 ((gt a0_1162 v7_1188).Op), V.int .i64 ((gt a0_1162 v7_1188).A), V.int .i64 ((gt a0_1162 v7_1188).B)]) (.load rfl rfl (.sptM (f := api_Instr.cells) hb1191 rfl) rfl) ?_
    refine SafeOps.quiet1 E_good rfl rfl rfl (.alloc rfl rfl) rfl ?_
    refine SafeOps.quiet0 E_good rfl rfl rfl (v := V.int .i64 v7_1188) (.fn rfl) ?_
    refine SafeOps.store (z := Obj.box [V.int .i64 ((gt a0_1162 v7_1188).Op), V.int .i64 ((gt a0_1162 v7_1188).A), V.int .i64 ((gt a0_1162 v7_1188).B)]) E_good rfl rfl rfl rfl rfl rfl rfl (.boxM (c := 3) rfl rfl (Nat.le_of_ble_eq_true rfl) rfl) ?_
    refine SafeOps.nil ?_
    repeat (first | refine Safe.seq ?_ | refine Safe.skip ?_ | with_reducible refine thenQ.n ?_ | with_reducible refine blockQ.n ?_)
    refine Safe.region ?_
    refine SafeOps.quiet0 E_good rfl rfl rfl (v := V.ptr [4] 0 0) (.fn rfl) ?_
    refine SafeOps.quiet0 E_good rfl rfl rfl (v := V.int .i64 ((gt a0_1162 v7_1188).Op)) (.load rfl rfl (.box rfl rfl) rfl) ?_
    refine SafeOps.quiet0 E_good rfl rfl rfl (v := V.bool (((gt a0_1162 v7_1188).Op) == 9)) (.fn rfl) ?_
    refine SafeOps.nil ?_
    repeat (first | refine Safe.seq ?_ | refine Safe.skip ?_ | with_reducible refine thenQ.n ?_ | with_reducible refine blockQ.n ?_)
    refine ifG h (fun hc1192 h => ?_) (fun hc1192 h => ?_)
    · skip
      refine Safe.condK rfl hc1192 ?_
      repeat (first | refine Safe.seq ?_ | refine Safe.skip ?_ | with_reducible refine thenQ.n ?_ | with_reducible refine blockQ.n ?_)
      refine Safe.region ?_
      refine SafeOps.quiet0 E_good rfl rfl rfl (v := V.sl 3 (rws api_Instr.cells a0_1162)) (.fn rfl) ?_
      refine SafeOps.quiet0 E_good rfl rfl rfl (v := V.int .i64 v7_1188) (.fn rfl) ?_
      refine SafeOps.quiet0 E_good rfl rfl rfl (v := V.int .i64 (IntKind.i64.wrap (v7_1188 + 1))) (.fn rfl) ?_
      refine okG h (fun hb1193 h => ?_)
      refine SafeOps.quiet0 E_good rfl rfl rfl (v := V.sl 3 (rws api_Instr.cells (sub a0_1162 0 (IntKind.i64.wrap (v7_1188 + 1))))) (.slH (f := api_Instr.cells) rfl rfl rfl rfl rfl hb1193) ?_
      refine SafeOps.quiet0 E_good rfl rfl rfl (v := V.sl 3 (rws api_Instr.cells (sub a0_1162 0 (IntKind.i64.wrap (v7_1188 + 1))))) (.fn rfl) ?_
      refine SafeOps.nil ?_
      repeat (first | refine Safe.seq ?_ | refine Safe.skip ?_ | with_reducible refine thenQ.n ?_ | with_reducible refine blockQ.n ?_)
      refine Safe.ret ?_
      repeat (first | with_reducible refine thenQ.r ?_ | with_reducible refine blockQ.r ?_)
      replace h := inr_out h hr1189
      obtain rfl := Option.some.inj h
      exact retQ.gen (vs := [V.sl 3 (rws api_Instr.cells (sub a0_1162 0 (IntKind.i64.wrap (v7_1188 + 1))))]) rfl (.tmp (v := V.sl 3 (rws api_Instr.cells (sub a0_1162 0 (IntKind.i64.wrap (v7_1188 + 1))))) rfl .nil) (.free rfl) (by simp) (.inr rfl)
    · skip
      refine Safe.condN rfl hc1192 ?_
      repeat (first | refine Safe.seq ?_ | refine Safe.skip ?_ | with_reducible refine thenQ.n ?_ | with_reducible refine blockQ.n ?_)
      refine Safe.region ?_
      refine SafeOps.quiet0 E_good rfl rfl rfl (v := V.int .i64 (IntKind.i64.wrap (v7_1188 + 1))) (.fn rfl) ?_
      refine SafeOps.quiet0 E_good rfl rfl rfl (v := V.int .i64 (IntKind.i64.wrap (v7_1188 + 1))) (.fn rfl) ?_
      refine SafeOps.nil ?_
      repeat (first | refine Safe.seq ?_ | refine Safe.skip ?_ | with_reducible refine thenQ.n ?_ | with_reducible refine blockQ.n ?_)
      exact ⟨_, next_out h, (.cov ⟨rfl, rfl, (upT_cons (.refl _) (upT_cons (.refl _) (upT_cons (.refl _) (upT_cons (.refl _) upT_nil)))), upOb_nil, upOut_nil, rfl⟩)⟩
  · skip
    refine Safe.condN rfl hc1190 ?_
    repeat (first | refine Safe.seq ?_ | refine Safe.skip ?_ | with_reducible refine thenQ.n ?_ | with_reducible refine blockQ.n ?_)
    refine Safe.exit ?_
    repeat (first | with_reducible refine thenQ.e ?_ | with_reducible refine blockQ.x rfl ?_ | with_reducible refine blockQ.y rfl ?_)
    replace h := inr_out h hr1189
    repeat (first | refine Safe.seq ?_ | refine Safe.skip ?_ | with_reducible refine thenQ.n ?_ | with_reducible refine blockQ.n ?_)
    refine Safe.region ?_
    refine SafeOps.quiet0 E_good rfl rfl rfl (v := V.sl 3 (rws api_Instr.cells a0_1162)) (.fn rfl) ?_
    refine SafeOps.quiet0 E_good rfl rfl rfl (v := V.sl 3 (rws api_Instr.cells a0_1162)) (.fn rfl) ?_
    refine SafeOps.nil ?_
    repeat (first | refine Safe.seq ?_ | refine Safe.skip ?_ | with_reducible refine thenQ.n ?_ | with_reducible refine blockQ.n ?_)
    refine Safe.ret ?_
    repeat (first | with_reducible refine thenQ.r ?_ | with_reducible refine blockQ.r ?_)
    obtain rfl := Option.some.inj h
    exact retQ.gen (vs := [V.sl 3 (rws api_Instr.cells a0_1162)]) rfl (.tmp (v := V.sl 3 (rws api_Instr.cells a0_1162)) rfl .nil) (.free rfl) (by simp) (.inr rfl)

noncomputable def go_ravelref04_Units_s1 (x_1213 : List api_Instr) : (Int × Int) → Option ((Int × Int) ⊕ (Int × Int))
  | (v4_1223, v13_1224) =>
    if (decide (v13_1224 < (x_1213.length : Int))) = true then
      if 0 ≤ v13_1224 ∧ v13_1224 < (x_1213.length : Int) then
        if (((gt x_1213 v13_1224).Op) == 1) = true then
          nextO (IntKind.i64.wrap (v4_1223 + ((gt x_1213 v13_1224).A)), IntKind.i64.wrap (v13_1224 + 1))
        else
          nextO (IntKind.i64.wrap (v4_1223 + 1), IntKind.i64.wrap (v13_1224 + 1))
      else none
    else
      inrO (
        some (v4_1223, 0))

noncomputable def go_ravelref04_Units (a0_1074 : List api_Instr) : Option (Int × Int) :=
  (go_ravelref04_Check a0_1074).bind fun x_1210 =>
  if (x_1210 != 0) = true then
    some (0, 1)
  else
    (go_ravelref04_Run a0_1074).bind fun x_1213 =>
    whileO (go_ravelref04_Units_s1 x_1213) (0, 0)

theorem go_ravelref04_Units_sc (a0_1074 : List api_Instr) (r : Int × Int) (h : go_ravelref04_Units a0_1074 = some r) : SC Try.prog gl 16 [V.sl 3 (rws api_Instr.cells a0_1074)] (V.tup [V.int .i64 r.1, V.int .i64 r.2]) := by
  rw [go_ravelref04_Units] at h
  refine SC.of E_good Try.func16 rfl (fun _ _ => Try.call16 _ _) rfl ?_
  repeat (first | refine Safe.seq ?_ | refine Safe.skip ?_ | with_reducible refine thenQ.n ?_ | with_reducible refine blockQ.n ?_)
  refine Safe.region ?_
  refine SafeOps.quiet0 E_good rfl rfl rfl (v := V.int .i64 0) (.fn rfl) ?_
  refine SafeOps.quiet0 E_good rfl rfl rfl (v := V.int .i64 0) (.fn rfl) ?_
  refine SafeOps.nil ?_
  repeat (first | refine Safe.seq ?_ | refine Safe.skip ?_ | with_reducible refine thenQ.n ?_ | with_reducible refine blockQ.n ?_)
  refine Safe.region ?_
  refine SafeOps.quiet0 E_good rfl rfl rfl (v := V.sl 3 (rws api_Instr.cells a0_1074)) (.fn rfl) ?_
  refine bindG h ?_
  intro x_1210 he1211 h
  refine SafeOps.quiet0 E_good rfl rfl rfl (v := V.int .i64 x_1210) (.callP rfl rfl (go_ravelref04_Check_sc a0_1074 _ he1211) rfl) ?_
  refine SafeOps.quiet0 E_good rfl rfl rfl (v := V.bool (x_1210 != 0)) (.fn rfl) ?_
  refine SafeOps.nil ?_
  repeat (first | refine Safe.seq ?_ | refine Safe.skip ?_ | with_reducible refine thenQ.n ?_ | with_reducible refine blockQ.n ?_)
  refine ifG h (fun hc1212 h => ?_) (fun hc1212 h => ?_)
  · skip
    refine Safe.condK rfl hc1212 ?_
    repeat (first | refine Safe.seq ?_ | refine Safe.skip ?_ | with_reducible refine thenQ.n ?_ | with_reducible refine blockQ.n ?_)
    refine Safe.region ?_
    refine SafeOps.quiet0 E_good rfl rfl rfl (v := V.int .i64 0) (.fn rfl) ?_
    refine SafeOps.quiet0 E_good rfl rfl rfl (v := V.int .i64 1) (.fn rfl) ?_
    refine SafeOps.nil ?_
    repeat (first | refine Safe.seq ?_ | refine Safe.skip ?_ | with_reducible refine thenQ.n ?_ | with_reducible refine blockQ.n ?_)
    refine Safe.ret ?_
    repeat (first | with_reducible refine thenQ.r ?_ | with_reducible refine blockQ.r ?_)
    obtain rfl := Option.some.inj h
    exact retQ.gen (vs := [V.int .i64 0, V.int .i64 1]) rfl (.tmp (v := V.int .i64 0) rfl (.tmp (v := V.int .i64 1) rfl .nil)) (.free rfl) (by simp) (.inr rfl)
  · skip
    refine Safe.condN rfl hc1212 ?_
    repeat (first | refine Safe.seq ?_ | refine Safe.skip ?_ | with_reducible refine thenQ.n ?_ | with_reducible refine blockQ.n ?_)
    refine Safe.region ?_
    refine SafeOps.quiet0 E_good rfl rfl rfl (v := V.int .i64 0) (.fn rfl) ?_
    refine SafeOps.nil ?_
    repeat (first | refine Safe.seq ?_ | refine Safe.skip ?_ | with_reducible refine thenQ.n ?_ | with_reducible refine blockQ.n ?_)
    refine Safe.region ?_
    refine SafeOps.quiet0 E_good rfl rfl rfl (v := V.sl 3 (rws api_Instr.cells a0_1074)) (.fn rfl) ?_
    refine bindG h ?_
    intro x_1213 he1214 h
    refine SafeOps.quiet0 E_good rfl rfl rfl (v := V.sl 3 (rws api_Instr.cells x_1213)) (.callP rfl rfl (go_ravelref04_Run_sc a0_1074 _ he1214) rfl) ?_
    refine SafeOps.quiet0 E_good rfl rfl rfl (v := V.int .i64 (x_1213.length : Int)) (.fnE rfl lenE) ?_
    refine SafeOps.quiet0 E_good rfl rfl rfl (v := V.int .i64 0) (.fn rfl) ?_
    refine SafeOps.nil ?_
    repeat (first | refine Safe.seq ?_ | refine Safe.skip ?_ | with_reducible refine thenQ.n ?_ | with_reducible refine blockQ.n ?_)
    refine Safe.block ?_
    repeat (first | refine Safe.seq ?_ | refine Safe.skip ?_ | with_reducible refine thenQ.n ?_ | with_reducible refine blockQ.n ?_)
    refine Safe.loopW (fun ((v4_1223, v13_1224) : Int × Int) => ⟨Try.f16.ntmps, [(4, V.int .i64 v4_1223), (11, V.sl 3 (rws api_Instr.cells x_1213)), (12, V.int .i64 (x_1213.length : Int)), (13, V.int .i64 v13_1224)], [], [], []⟩) h (.cov ⟨rfl, rfl, (upT_cons (.refl _) (upT_cons (.refl _) (upT_cons (.refl _) (upT_cons (.refl _) upT_nil)))), upOb_nil, upOut_nil, rfl⟩) ?_
    rintro ⟨v4_1223, v13_1224⟩ ohr1225 h hr1225
    replace h : go_ravelref04_Units_s1 x_1213 (v4_1223, v13_1224) = some ohr1225 := h
    rw [go_ravelref04_Units_s1] at h
    repeat (first | refine Safe.seq ?_ | refine Safe.skip ?_ | with_reducible refine thenQ.n ?_ | with_reducible refine blockQ.n ?_)
    refine Safe.region ?_
    refine SafeOps.quiet0 E_good rfl rfl rfl (v := V.bool (decide (v13_1224 < (x_1213.length : Int)))) (.fn rfl) ?_
    refine SafeOps.nil ?_
    repeat (first | refine Safe.seq ?_ | refine Safe.skip ?_ | with_reducible refine thenQ.n ?_ | with_reducible refine blockQ.n ?_)
    refine ifG h (fun hc1226 h => ?_) (fun hc1226 h => ?_)
    · skip
      refine Safe.condK rfl hc1226 ?_
      repeat (first | refine Safe.seq ?_ | refine Safe.skip ?_ | with_reducible refine thenQ.n ?_ | with_reducible refine blockQ.n ?_)
      refine Safe.block ?_
      repeat (first | refine Safe.seq ?_ | refine Safe.skip ?_ | with_reducible refine thenQ.n ?_ | with_reducible refine blockQ.n ?_)
      refine Safe.region ?_
      refine okG h (fun hb1227 h => ?_)
      refine SafeOps.quiet0 E_good rfl rfl rfl (v := V.spt 3 (rws api_Instr.cells x_1213) (Int.toNat v13_1224) 0) (.idxSlM (f := api_Instr.cells) rfl rfl rfl rfl rfl hb1227) ?_
      refine SafeOps.quiet0 E_good rfl rfl rfl (v := V.agg [V.int .i64 ((gt x_1213 v13_1224).Op), V.int .i64 ((gt x_1213 v13_1224).A), V.int .i64 ((gt x_1213 v13_1224).B)]) (.load rfl rfl (.sptM (f := api_Instr.cells) hb1227 rfl) rfl) ?_
      refine SafeOps.quiet1 E_good rfl rfl rfl (.alloc rfl rfl) rfl ?_
      refine SafeOps.store (z := Obj.box [V.int .i64 ((gt x_1213 v13_1224).Op), V.int .i64 ((gt x_1213 v13_1224).A), V.int .i64 ((gt x_1213 v13_1224).B)]) E_good rfl rfl rfl rfl rfl rfl rfl (.boxM (c := 3) rfl rfl (Nat.le_of_ble_eq_true rfl) rfl) ?_
      refine SafeOps.nil ?_
      repeat (first | refine Safe.seq ?_ | refine Safe.skip ?_ | with_reducible refine thenQ.n ?_ | with_reducible refine blockQ.n ?_)
      refine Safe.region ?_
      refine SafeOps.quiet0 E_good rfl rfl rfl (v := V.ptr [6] 0 0) (.fn rfl) ?_
      refine SafeOps.quiet0 E_good rfl rfl rfl (v := V.int .i64 ((gt x_1213 v13_1224).Op)) (.load rfl rfl (.box rfl rfl) rfl) ?_
      refine SafeOps.quiet0 E_good rfl rfl rfl (v := V.bool (((gt x_1213 v13_1224).Op) == 1)) (.fn rfl) ?_
      refine SafeOps.nil ?_
      repeat (first | refine Safe.seq ?_ | refine Safe.skip ?_ | with_reducible refine thenQ.n ?_ | with_reducible refine blockQ.n ?_)
      refine ifG h (fun hc1228 h => ?_) (fun hc1228 h => ?_)
      · skip
        refine Safe.condK rfl hc1228 ?_
        repeat (first | refine Safe.seq ?_ | refine Safe.skip ?_ | with_reducible refine thenQ.n ?_ | with_reducible refine blockQ.n ?_)
        refine Safe.region ?_
        refine SafeOps.quiet0 E_good rfl rfl rfl (v := V.int .i64 v4_1223) (.fn rfl) ?_
        refine SafeOps.quiet0 E_good rfl rfl rfl (v := V.ptr [6] 0 1) (.fn rfl) ?_
        refine SafeOps.quiet0 E_good rfl rfl rfl (v := V.int .i64 ((gt x_1213 v13_1224).A)) (.load rfl rfl (.box rfl rfl) rfl) ?_
        refine SafeOps.quiet0 E_good rfl rfl rfl (v := V.int .i64 (IntKind.i64.wrap (v4_1223 + ((gt x_1213 v13_1224).A)))) (.fn rfl) ?_
        refine SafeOps.quiet0 E_good rfl rfl rfl (v := V.int .i64 (IntKind.i64.wrap (v4_1223 + ((gt x_1213 v13_1224).A)))) (.fn rfl) ?_
        refine SafeOps.nil ?_
        repeat (first | refine Safe.seq ?_ | refine Safe.skip ?_ | with_reducible refine thenQ.n ?_ | with_reducible refine blockQ.n ?_)
        refine Safe.region ?_
        refine SafeOps.quiet0 E_good rfl rfl rfl (v := V.int .i64 (IntKind.i64.wrap (v13_1224 + 1))) (.fn rfl) ?_
        refine SafeOps.quiet0 E_good rfl rfl rfl (v := V.int .i64 (IntKind.i64.wrap (v13_1224 + 1))) (.fn rfl) ?_
        refine SafeOps.nil ?_
        repeat (first | refine Safe.seq ?_ | refine Safe.skip ?_ | with_reducible refine thenQ.n ?_ | with_reducible refine blockQ.n ?_)
        exact ⟨_, next_out h, (.cov ⟨rfl, rfl, (upT_cons (.refl _) (upT_cons (.refl _) (upT_cons (.refl _) (upT_cons (.refl _) upT_nil)))), upOb_nil, upOut_nil, rfl⟩)⟩
      · skip
        refine Safe.condN rfl hc1228 ?_
        repeat (first | refine Safe.seq ?_ | refine Safe.skip ?_ | with_reducible refine thenQ.n ?_ | with_reducible refine blockQ.n ?_)
        refine Safe.region ?_
        refine SafeOps.quiet0 E_good rfl rfl rfl (v := V.int .i64 v4_1223) (.fn rfl) ?_
        refine SafeOps.quiet0 E_good rfl rfl rfl (v := V.int .i64 (IntKind.i64.wrap (v4_1223 + 1))) (.fn rfl) ?_
        refine SafeOps.quiet0 E_good rfl rfl rfl (v := V.int .i64 (IntKind.i64.wrap (v4_1223 + 1))) (.fn rfl) ?_
        refine SafeOps.nil ?_
        repeat (first | refine Safe.seq ?_ | refine Safe.skip ?_ | with_reducible refine thenQ.n ?_ | with_reducible refine blockQ.n ?_)
        refine Safe.region ?_
        refine SafeOps.quiet0 E_good rfl rfl rfl (v := V.int .i64 (IntKind.i64.wrap (v13_1224 + 1))) (.fn rfl) ?_
        refine SafeOps.quiet0 E_good rfl rfl rfl (v := V.int .i64 (IntKind.i64.wrap (v13_1224 + 1))) (.fn rfl) ?_
        refine SafeOps.nil ?_
        repeat (first | refine Safe.seq ?_ | refine Safe.skip ?_ | with_reducible refine thenQ.n ?_ | with_reducible refine blockQ.n ?_)
        exact ⟨_, next_out h, (.cov ⟨rfl, rfl, (upT_cons (.refl _) (upT_cons (.refl _) (upT_cons (.refl _) (upT_cons (.refl _) upT_nil)))), upOb_nil, upOut_nil, rfl⟩)⟩
    · skip
      refine Safe.condN rfl hc1226 ?_
      repeat (first | refine Safe.seq ?_ | refine Safe.skip ?_ | with_reducible refine thenQ.n ?_ | with_reducible refine blockQ.n ?_)
      refine Safe.exit ?_
      repeat (first | with_reducible refine thenQ.e ?_ | with_reducible refine blockQ.x rfl ?_ | with_reducible refine blockQ.y rfl ?_)
      replace h := inr_out h hr1225
      repeat (first | refine Safe.seq ?_ | refine Safe.skip ?_ | with_reducible refine thenQ.n ?_ | with_reducible refine blockQ.n ?_)
      refine Safe.region ?_
      refine SafeOps.quiet0 E_good rfl rfl rfl (v := V.int .i64 v4_1223) (.fn rfl) ?_
      refine SafeOps.quiet0 E_good rfl rfl rfl (v := V.int .i64 v4_1223) (.fn rfl) ?_
      refine SafeOps.quiet0 E_good rfl rfl rfl (v := V.int .i64 0) (.fn rfl) ?_
      refine SafeOps.nil ?_
      repeat (first | refine Safe.seq ?_ | refine Safe.skip ?_ | with_reducible refine thenQ.n ?_ | with_reducible refine blockQ.n ?_)
      refine Safe.ret ?_
      repeat (first | with_reducible refine thenQ.r ?_ | with_reducible refine blockQ.r ?_)
      obtain rfl := Option.some.inj h
      exact retQ.gen (vs := [V.int .i64 v4_1223, V.int .i64 0]) rfl (.tmp (v := V.int .i64 v4_1223) rfl (.tmp (v := V.int .i64 0) rfl .nil)) (.free rfl) (by simp) (.inr rfl)

noncomputable def go_ravelref04_CheckAll_s4 (a0_1349 : List (List api_Instr)) (v17_1463 : Int) : (Int) → Option ((Int) ⊕ ((Int) ⊕ (Int)))
  | v26_1479 =>
    if (decide (v26_1479 < ((gt a0_1349 v17_1463).length : Int))) = true then
      if 0 ≤ v26_1479 ∧ v26_1479 < ((gt a0_1349 v17_1463).length : Int) then
        if ((((gt (gt a0_1349 v17_1463) v26_1479).Op) == 2) && (decide (((gt (gt a0_1349 v17_1463) v26_1479).A) ≥ (a0_1349.length : Int)))) = true then
          inrO (
            inrO (
              some 1))
        else
          nextO (IntKind.i64.wrap (v26_1479 + 1))
      else none
    else
      inrO (
        nextO (IntKind.i64.wrap (v17_1463 + 1)))

noncomputable def go_ravelref04_CheckAll_s3 (a0_1349 : List (List api_Instr)) : (Int) → Option ((Int) ⊕ (Int))
  | v17_1463 =>
    if (decide (v17_1463 < (a0_1349.length : Int))) = true then
      if 0 ≤ v17_1463 ∧ v17_1463 < (a0_1349.length : Int) then
        (go_ravelref04_Check (gt a0_1349 v17_1463)).bind fun x_1467 =>
        if (x_1467 != 0) = true then
          inrO (
            some 1)
        else
          whileO (go_ravelref04_CheckAll_s4 a0_1349 v17_1463) 0
      else none
    else
      inrO (
        some 0)

noncomputable def go_ravelref04_CheckAll (a0_1349 : List (List api_Instr)) : Option Int :=
  if ((decide ((a0_1349.length : Int) < 1)) || (decide ((a0_1349.length : Int) > 16))) = true then
    some 1
  else
    whileO (go_ravelref04_CheckAll_s3 a0_1349) 0

theorem go_ravelref04_CheckAll_sc (a0_1349 : List (List api_Instr)) (r : Int) (h : go_ravelref04_CheckAll a0_1349 = some r) : SC Try.prog gl 19 [V.sl 1 (rws (fun l => [V.sl 3 (rws api_Instr.cells l)]) a0_1349)] (V.int .i64 r) := by
  rw [go_ravelref04_CheckAll] at h
  refine SC.of E_good Try.func19 rfl (fun _ _ => Try.call19 _ _) rfl ?_
  repeat (first | refine Safe.seq ?_ | refine Safe.skip ?_ | with_reducible refine thenQ.n ?_ | with_reducible refine blockQ.n ?_)
  refine Safe.region ?_
  refine SafeOps.quiet0 E_good rfl rfl rfl (v := V.int .i64 0) (.fn rfl) ?_
  refine SafeOps.nil ?_
  repeat (first | refine Safe.seq ?_ | refine Safe.skip ?_ | with_reducible refine thenQ.n ?_ | with_reducible refine blockQ.n ?_)
  refine Safe.region ?_
  refine SafeOps.quiet0 E_good rfl rfl rfl (v := V.sl 1 (rws (fun l => [V.sl 3 (rws api_Instr.cells l)]) a0_1349)) (.fn rfl) ?_
  refine SafeOps.quiet0 E_good rfl rfl rfl (v := V.int .i64 (a0_1349.length : Int)) (.fnE rfl lenE) ?_
  refine SafeOps.quiet0 E_good rfl rfl rfl (v := V.bool (decide ((a0_1349.length : Int) < 1))) (.fn rfl) ?_
  refine SafeOps.quiet0 E_good rfl rfl rfl (v := V.bool (decide ((a0_1349.length : Int) < 1))) (.fn rfl) ?_
  refine SafeOps.bjoin 4 14 (b := ((decide ((a0_1349.length : Int) < 1)) || (decide ((a0_1349.length : Int) > 16)))) (b1 := true) (b0 := decide ((a0_1349.length : Int) > 16)) (fun hc1420 K => ?_) (fun hc1420 K => ?_) bj_or ?_
  · skip
    refine SafeOps.skip (congrArg (fun b => some (!b)) hc1420) rfl rfl ?_
    refine SafeOps.skip (congrArg (fun b => some (!b)) hc1420) rfl rfl ?_
    refine SafeOps.skip (congrArg (fun b => some (!b)) hc1420) rfl rfl ?_
    refine SafeOps.quiet0 E_good rfl rfl rfl (v := V.bool true) (.pickK rfl hc1420 rfl) ?_
    exact SafeOps.drop' 4 rfl rfl rfl K
  · skip
    refine SafeOps.quiet0 E_good (congrArg (fun b => some (!b)) hc1420) rfl rfl (v := V.sl 1 (rws (fun l => [V.sl 3 (rws api_Instr.cells l)]) a0_1349)) (.fn rfl) ?_
    refine SafeOps.quiet0 E_good (congrArg (fun b => some (!b)) hc1420) rfl rfl (v := V.int .i64 (a0_1349.length : Int)) (.fnE rfl lenE) ?_
    refine SafeOps.quiet0 E_good (congrArg (fun b => some (!b)) hc1420) rfl rfl (v := V.bool (decide ((a0_1349.length : Int) > 16))) (.fn rfl) ?_
    refine SafeOps.quiet0 E_good rfl rfl rfl (v := V.bool (decide ((a0_1349.length : Int) > 16))) (.pickK rfl hc1420 rfl) ?_
    exact SafeOps.drop' 4 rfl rfl rfl K
  refine SafeOps.nil ?_
  repeat (first | refine Safe.seq ?_ | refine Safe.skip ?_ | with_reducible refine thenQ.n ?_ | with_reducible refine blockQ.n ?_)
  refine ifG h (fun hc1421 h => ?_) (fun hc1421 h => ?_)
  · skip
    refine Safe.condK rfl hc1421 ?_
    repeat (first | refine Safe.seq ?_ | refine Safe.skip ?_ | with_reducible refine thenQ.n ?_ | with_reducible refine blockQ.n ?_)
    refine Safe.region ?_
    refine SafeOps.quiet0 E_good rfl rfl rfl (v := V.int .i64 1) (.fn rfl) ?_
    refine SafeOps.nil ?_
    repeat (first | refine Safe.seq ?_ | refine Safe.skip ?_ | with_reducible refine thenQ.n ?_ | with_reducible refine blockQ.n ?_)
    refine Safe.ret ?_
    repeat (first | with_reducible refine thenQ.r ?_ | with_reducible refine blockQ.r ?_)
    obtain rfl := Option.some.inj h
    exact retQ.gen (vs := [V.int .i64 1]) rfl (.tmp (v := V.int .i64 1) rfl .nil) (.free rfl) (by simp) (.inr rfl)
  · skip
    refine Safe.condN rfl hc1421 ?_
    repeat (first | refine Safe.seq ?_ | refine Safe.skip ?_ | with_reducible refine thenQ.n ?_ | with_reducible refine blockQ.n ?_)
    refine Safe.region ?_
    refine SafeOps.quiet0 E_good rfl rfl rfl (v := V.sl 1 (rws (fun l => [V.sl 3 (rws api_Instr.cells l)]) a0_1349)) (.fn rfl) ?_
    refine SafeOps.quiet0 E_good rfl rfl rfl (v := V.int .i64 (a0_1349.length : Int)) (.fnE rfl lenE) ?_
    refine SafeOps.quiet0 E_good rfl rfl rfl (v := V.int .i64 0) (.fn rfl) ?_
    refine SafeOps.nil ?_
    repeat (first | refine Safe.seq ?_ | refine Safe.skip ?_ | with_reducible refine thenQ.n ?_ | with_reducible refine blockQ.n ?_)
    refine Safe.block ?_
    repeat (first | refine Safe.seq ?_ | refine Safe.skip ?_ | with_reducible refine thenQ.n ?_ | with_reducible refine blockQ.n ?_)
    refine Safe.loopW (fun (v17_1463 : Int) => ⟨Try.f19.ntmps, [(0, V.sl 1 (rws (fun l => [V.sl 3 (rws api_Instr.cells l)]) a0_1349)), (15, V.sl 1 (rws (fun l => [V.sl 3 (rws api_Instr.cells l)]) a0_1349)), (16, V.int .i64 (a0_1349.length : Int)), (17, V.int .i64 v17_1463)], [], [], []⟩) h (.cov ⟨rfl, rfl, (upT_cons (.refl _) (upT_cons (.refl _) (upT_cons (.refl _) (upT_cons (.refl _) upT_nil)))), upOb_nil, upOut_nil, rfl⟩) ?_
    intro v17_1463 ohr1464 h hr1464
    replace h : go_ravelref04_CheckAll_s3 a0_1349 v17_1463 = some ohr1464 := h
    rw [go_ravelref04_CheckAll_s3] at h
    repeat (first | refine Safe.seq ?_ | refine Safe.skip ?_ | with_reducible refine thenQ.n ?_ | with_reducible refine blockQ.n ?_)
    refine Safe.region ?_
    refine SafeOps.quiet0 E_good rfl rfl rfl (v := V.bool (decide (v17_1463 < (a0_1349.length : Int)))) (.fn rfl) ?_
    refine SafeOps.nil ?_
    repeat (first | refine Safe.seq ?_ | refine Safe.skip ?_ | with_reducible refine thenQ.n ?_ | with_reducible refine blockQ.n ?_)
    refine ifG h (fun hc1465 h => ?_) (fun hc1465 h => ?_)
    · skip
      refine Safe.condK rfl hc1465 ?_
      repeat (first | refine Safe.seq ?_ | refine Safe.skip ?_ | with_reducible refine thenQ.n ?_ | with_reducible refine blockQ.n ?_)
      refine Safe.block ?_
      repeat (first | refine Safe.seq ?_ | refine Safe.skip ?_ | with_reducible refine thenQ.n ?_ | with_reducible refine blockQ.n ?_)
      refine Safe.region ?_
      refine okG h (fun hb1466 h => ?_)
      refine SafeOps.quiet0 E_good rfl rfl rfl (v := V.spt 1 (rws (fun l => [V.sl 3 (rws api_Instr.cells l)]) a0_1349) (Int.toNat v17_1463) 0) (.idxSlM (f := (fun l => [V.sl 3 (rws api_Instr.cells l)])) rfl rfl rfl rfl rfl hb1466) ?_
      refine SafeOps.quiet0 E_good rfl rfl rfl (v := V.sl 3 (rws api_Instr.cells (gt a0_1349 v17_1463))) (.load rfl rfl (.sptM (f := (fun l => [V.sl 3 (rws api_Instr.cells l)])) hb1466 rfl) rfl) ?_
      refine SafeOps.quiet0 E_good rfl rfl rfl (v := V.sl 3 (rws api_Instr.cells (gt a0_1349 v17_1463))) (.fn rfl) ?_
      refine SafeOps.nil ?_
      repeat (first | refine Safe.seq ?_ | refine Safe.skip ?_ | with_reducible refine thenQ.n ?_ | with_reducible refine blockQ.n ?_)
      refine Safe.region ?_
      refine SafeOps.quiet0 E_good rfl rfl rfl (v := V.sl 3 (rws api_Instr.cells (gt a0_1349 v17_1463))) (.fn rfl) ?_
      refine bindG h ?_
      intro x_1467 he1468 h
      refine SafeOps.quiet0 E_good rfl rfl rfl (v := V.int .i64 x_1467) (.callP rfl rfl (go_ravelref04_Check_sc (gt a0_1349 v17_1463) _ he1468) rfl) ?_
      refine SafeOps.quiet0 E_good rfl rfl rfl (v := V.bool (x_1467 != 0)) (.fn rfl) ?_
      refine SafeOps.nil ?_
      repeat (first | refine Safe.seq ?_ | refine Safe.skip ?_ | with_reducible refine thenQ.n ?_ | with_reducible refine blockQ.n ?_)
      refine ifG h (fun hc1469 h => ?_) (fun hc1469 h => ?_)
      · skip
        refine Safe.condK rfl hc1469 ?_
        repeat (first | refine Safe.seq ?_ | refine Safe.skip ?_ | with_reducible refine thenQ.n ?_ | with_reducible refine blockQ.n ?_)
        refine Safe.region ?_
        refine SafeOps.quiet0 E_good rfl rfl rfl (v := V.int .i64 1) (.fn rfl) ?_
        refine SafeOps.nil ?_
        repeat (first | refine Safe.seq ?_ | refine Safe.skip ?_ | with_reducible refine thenQ.n ?_ | with_reducible refine blockQ.n ?_)
        refine Safe.ret ?_
        repeat (first | with_reducible refine thenQ.r ?_ | with_reducible refine blockQ.r ?_)
        replace h := inr_out h hr1464
        obtain rfl := Option.some.inj h
        exact retQ.gen (vs := [V.int .i64 1]) rfl (.tmp (v := V.int .i64 1) rfl .nil) (.free rfl) (by simp) (.inr rfl)
      · skip
        refine Safe.condN rfl hc1469 ?_
        repeat (first | refine Safe.seq ?_ | refine Safe.skip ?_ | with_reducible refine thenQ.n ?_ | with_reducible refine blockQ.n ?_)
        refine Safe.region ?_
        refine SafeOps.quiet0 E_good rfl rfl rfl (v := V.sl 3 (rws api_Instr.cells (gt a0_1349 v17_1463))) (.fn rfl) ?_
        refine SafeOps.quiet0 E_good rfl rfl rfl (v := V.int .i64 ((gt a0_1349 v17_1463).length : Int)) (.fnE rfl lenE) ?_
        refine SafeOps.quiet0 E_good rfl rfl rfl (v := V.int .i64 0) (.fn rfl) ?_
        refine SafeOps.nil ?_
        repeat (first | refine Safe.seq ?_ | refine Safe.skip ?_ | with_reducible refine thenQ.n ?_ | with_reducible refine blockQ.n ?_)
        refine Safe.block ?_
        repeat (first | refine Safe.seq ?_ | refine Safe.skip ?_ | with_reducible refine thenQ.n ?_ | with_reducible refine blockQ.n ?_)
        refine Safe.loopW (fun (v26_1479 : Int) => ⟨Try.f19.ntmps, [(0, V.sl 1 (rws (fun l => [V.sl 3 (rws api_Instr.cells l)]) a0_1349)), (15, V.sl 1 (rws (fun l => [V.sl 3 (rws api_Instr.cells l)]) a0_1349)), (16, V.int .i64 (a0_1349.length : Int)), (17, V.int .i64 v17_1463), (24, V.sl 3 (rws api_Instr.cells (gt a0_1349 v17_1463))), (25, V.int .i64 ((gt a0_1349 v17_1463).length : Int)), (26, V.int .i64 v26_1479)], [], [], []⟩) h (.cov ⟨rfl, rfl, (upT_cons (.refl _) (upT_cons (.refl _) (upT_cons (.refl _) (upT_cons (.refl _) (upT_cons (.refl _) (upT_cons (.refl _) (upT_cons (.refl _) upT_nil))))))), upOb_nil, upOut_nil, rfl⟩) ?_
        intro v26_1479 ohr1480 h hr1480
        replace h : go_ravelref04_CheckAll_s4 a0_1349 v17_1463 v26_1479 = some ohr1480 := h
        rw [go_ravelref04_CheckAll_s4] at h
        repeat (first | refine Safe.seq ?_ | refine Safe.skip ?_ | with_reducible refine thenQ.n ?_ | with_reducible refine blockQ.n ?_)
        refine Safe.region ?_
        refine SafeOps.quiet0 E_good rfl rfl rfl (v := V.bool (decide (v26_1479 < ((gt a0_1349 v17_1463).length : Int)))) (.fn rfl) ?_
        refine SafeOps.nil ?_
        repeat (first | refine Safe.seq ?_ | refine Safe.skip ?_ | with_reducible refine thenQ.n ?_ | with_reducible refine blockQ.n ?_)
        refine ifG h (fun hc1481 h => ?_) (fun hc1481 h => ?_)
        · skip
          refine Safe.condK rfl hc1481 ?_
          repeat (first | refine Safe.seq ?_ | refine Safe.skip ?_ | with_reducible refine thenQ.n ?_ | with_reducible refine blockQ.n ?_)
          refine Safe.block ?_
          repeat (first | refine Safe.seq ?_ | refine Safe.skip ?_ | with_reducible refine thenQ.n ?_ | with_reducible refine blockQ.n ?_)
          refine Safe.region ?_
          refine okG h (fun hb1482 h => ?_)
          refine SafeOps.quiet0 E_good rfl rfl rfl (v := V.spt 3 (rws api_Instr.cells (gt a0_1349 v17_1463)) (Int.toNat v26_1479) 0) (.idxSlM (f := api_Instr.cells) rfl rfl rfl rfl rfl hb1482) ?_
          refine SafeOps.quiet0 E_good rfl rfl rfl (v := V.agg [V.int .i64 ((gt (gt a0_1349 v17_1463) v26_1479).Op), V.int .i64 ((gt (gt a0_1349 v17_1463) v26_1479).A), V.int .i64 ((gt (gt a0_1349 v17_1463) v26_1479).B)]) (.load rfl rfl (.sptM (f := api_Instr.cells) hb1482 rfl) rfl) ?_
          refine SafeOps.quiet1 E_good rfl rfl rfl (.alloc rfl rfl) rfl ?_
          refine SafeOps.store (z := Obj.box [V.int .i64 ((gt (gt a0_1349 v17_1463) v26_1479).Op), V.int .i64 ((gt (gt a0_1349 v17_1463) v26_1479).A), V.int .i64 ((gt (gt a0_1349 v17_1463) v26_1479).B)]) E_good rfl rfl rfl rfl rfl rfl rfl (.boxM (c := 3) rfl rfl (Nat.le_of_ble_eq_true rfl) rfl) ?_
          refine SafeOps.nil ?_
          repeat (first | refine Safe.seq ?_ | refine Safe.skip ?_ | with_reducible refine thenQ.n ?_ | with_reducible refine blockQ.n ?_)
          refine Safe.region ?_
          refine SafeOps.quiet0 E_good rfl rfl rfl (v := V.ptr [6] 0 0) (.fn rfl) ?_
          refine SafeOps.quiet0 E_good rfl rfl rfl (v := V.int .i64 ((gt (gt a0_1349 v17_1463) v26_1479).Op)) (.load rfl rfl (.box rfl rfl) rfl) ?_
          refine SafeOps.quiet0 E_good rfl rfl rfl (v := V.bool (((gt (gt a0_1349 v17_1463) v26_1479).Op) == 2)) (.fn rfl) ?_
          refine SafeOps.quiet0 E_good rfl rfl rfl (v := V.bool (((gt (gt a0_1349 v17_1463) v26_1479).Op) == 2)) (.fn rfl) ?_
          refine SafeOps.bjoin 6 39 (b := ((((gt (gt a0_1349 v17_1463) v26_1479).Op) == 2) && (decide (((gt (gt a0_1349 v17_1463) v26_1479).A) ≥ (a0_1349.length : Int))))) (b1 := decide (((gt (gt a0_1349 v17_1463) v26_1479).A) ≥ (a0_1349.length : Int))) (b0 := false) (fun hc1483 K => ?_) (fun hc1483 K => ?_) bj_and ?_
          · skip
            refine SafeOps.quiet0 E_good (congrArg some hc1483) rfl rfl (v := V.ptr [6] 0 1) (.fn rfl) ?_
            refine SafeOps.quiet0 E_good (congrArg some hc1483) rfl rfl (v := V.int .i64 ((gt (gt a0_1349 v17_1463) v26_1479).A)) (.load rfl rfl (.box rfl rfl) rfl) ?_
            refine SafeOps.quiet0 E_good (congrArg some hc1483) rfl rfl (v := V.sl 1 (rws (fun l => [V.sl 3 (rws api_Instr.cells l)]) a0_1349)) (.fn rfl) ?_
            refine SafeOps.quiet0 E_good (congrArg some hc1483) rfl rfl (v := V.int .i64 (a0_1349.length : Int)) (.fnE rfl lenE) ?_
            refine SafeOps.quiet0 E_good (congrArg some hc1483) rfl rfl (v := V.bool (decide (((gt (gt a0_1349 v17_1463) v26_1479).A) ≥ (a0_1349.length : Int)))) (.fn rfl) ?_
            refine SafeOps.quiet0 E_good rfl rfl rfl (v := V.bool (decide (((gt (gt a0_1349 v17_1463) v26_1479).A) ≥ (a0_1349.length : Int)))) (.pickK rfl hc1483 rfl) ?_
            exact SafeOps.drop' 6 rfl rfl rfl K
          · skip
            refine SafeOps.skip (congrArg some hc1483) rfl rfl ?_
            refine SafeOps.skip (congrArg some hc1483) rfl rfl ?_
            refine SafeOps.skip (congrArg some hc1483) rfl rfl ?_
            refine SafeOps.skip (congrArg some hc1483) rfl rfl ?_
            refine SafeOps.skip (congrArg some hc1483) rfl rfl ?_
            refine SafeOps.quiet0 E_good rfl rfl rfl (v := V.bool false) (.pickK rfl hc1483 rfl) ?_
            exact SafeOps.drop' 6 rfl rfl rfl K
          refine SafeOps.nil ?_
          repeat (first | refine Safe.seq ?_ | refine Safe.skip ?_ | with_reducible refine thenQ.n ?_ | with_reducible refine blockQ.n ?_)
          refine ifG h (fun hc1484 h => ?_) (fun hc1484 h => ?_)
          · skip
            refine Safe.condK rfl hc1484 ?_
            repeat (first | refine Safe.seq ?_ | refine Safe.skip ?_ | with_reducible refine thenQ.n ?_ | with_reducible refine blockQ.n ?_)
            refine Safe.region ?_
            refine SafeOps.quiet0 E_good rfl rfl rfl (v := V.int .i64 1) (.fn rfl) ?_
            refine SafeOps.nil ?_
            repeat (first | refine Safe.seq ?_ | refine Safe.skip ?_ | with_reducible refine thenQ.n ?_ | with_reducible refine blockQ.n ?_)
            refine Safe.ret ?_
            repeat (first | with_reducible refine thenQ.r ?_ | with_reducible refine blockQ.r ?_)
            replace h := inr_out h hr1480
            replace h := inr_out h hr1464
            obtain rfl := Option.some.inj h
            exact retQ.gen (vs := [V.int .i64 1]) rfl (.tmp (v := V.int .i64 1) rfl .nil) (.free rfl) (by simp) (.inr rfl)
          · skip
            refine Safe.condN rfl hc1484 ?_
            repeat (first | refine Safe.seq ?_ | refine Safe.skip ?_ | with_reducible refine thenQ.n ?_ | with_reducible refine blockQ.n ?_)
            refine Safe.region ?_
            refine SafeOps.quiet0 E_good rfl rfl rfl (v := V.int .i64 (IntKind.i64.wrap (v26_1479 + 1))) (.fn rfl) ?_
            refine SafeOps.quiet0 E_good rfl rfl rfl (v := V.int .i64 (IntKind.i64.wrap (v26_1479 + 1))) (.fn rfl) ?_
            refine SafeOps.nil ?_
            repeat (first | refine Safe.seq ?_ | refine Safe.skip ?_ | with_reducible refine thenQ.n ?_ | with_reducible refine blockQ.n ?_)
            exact ⟨_, next_out h, (.cov ⟨rfl, rfl, (upT_cons (.refl _) (upT_cons (.refl _) (upT_cons (.refl _) (upT_cons (.refl _) (upT_cons (.refl _) (upT_cons (.refl _) (upT_cons (.refl _) upT_nil))))))), upOb_nil, upOut_nil, rfl⟩)⟩
        · skip
          refine Safe.condN rfl hc1481 ?_
          repeat (first | refine Safe.seq ?_ | refine Safe.skip ?_ | with_reducible refine thenQ.n ?_ | with_reducible refine blockQ.n ?_)
          refine Safe.exit ?_
          repeat (first | with_reducible refine thenQ.e ?_ | with_reducible refine blockQ.x rfl ?_ | with_reducible refine blockQ.y rfl ?_)
          replace h := inr_out h hr1480
          repeat (first | refine Safe.seq ?_ | refine Safe.skip ?_ | with_reducible refine thenQ.n ?_ | with_reducible refine blockQ.n ?_)
          refine Safe.region ?_
          refine SafeOps.quiet0 E_good rfl rfl rfl (v := V.int .i64 (IntKind.i64.wrap (v17_1463 + 1))) (.fn rfl) ?_
          refine SafeOps.quiet0 E_good rfl rfl rfl (v := V.int .i64 (IntKind.i64.wrap (v17_1463 + 1))) (.fn rfl) ?_
          refine SafeOps.nil ?_
          repeat (first | refine Safe.seq ?_ | refine Safe.skip ?_ | with_reducible refine thenQ.n ?_ | with_reducible refine blockQ.n ?_)
          exact ⟨_, next_out h, (.cov ⟨rfl, rfl, (upT_cons (.refl _) (upT_cons (.refl _) (upT_cons (.refl _) (upT_cons (.refl _) upT_nil)))), upOb_nil, upOut_nil, rfl⟩)⟩
    · skip
      refine Safe.condN rfl hc1465 ?_
      repeat (first | refine Safe.seq ?_ | refine Safe.skip ?_ | with_reducible refine thenQ.n ?_ | with_reducible refine blockQ.n ?_)
      refine Safe.exit ?_
      repeat (first | with_reducible refine thenQ.e ?_ | with_reducible refine blockQ.x rfl ?_ | with_reducible refine blockQ.y rfl ?_)
      replace h := inr_out h hr1464
      repeat (first | refine Safe.seq ?_ | refine Safe.skip ?_ | with_reducible refine thenQ.n ?_ | with_reducible refine blockQ.n ?_)
      refine Safe.region ?_
      refine SafeOps.quiet0 E_good rfl rfl rfl (v := V.int .i64 0) (.fn rfl) ?_
      refine SafeOps.nil ?_
      repeat (first | refine Safe.seq ?_ | refine Safe.skip ?_ | with_reducible refine thenQ.n ?_ | with_reducible refine blockQ.n ?_)
      refine Safe.ret ?_
      repeat (first | with_reducible refine thenQ.r ?_ | with_reducible refine blockQ.r ?_)
      obtain rfl := Option.some.inj h
      exact retQ.gen (vs := [V.int .i64 0]) rfl (.tmp (v := V.int .i64 0) rfl .nil) (.free rfl) (by simp) (.inr rfl)

noncomputable def go_ravelref04_table_s24 (v3_2547 : List Int) (v22_2548 : Int) (x_2552 : List api_Instr) : (Int × Int) → Option ((Int × Int) ⊕ (((List Int) × Int) ⊕ (((List Int) × Int) ⊕ (List Int))))
  | (v5_2596, v31_2597) =>
    if (decide (v31_2597 < (x_2552.length : Int))) = true then
      if 0 ≤ v31_2597 ∧ v31_2597 < (x_2552.length : Int) then
        if ((((gt x_2552 v31_2597).Op) == 2) && (decide (v5_2596 > 0))) = true then
          if 0 ≤ ((gt x_2552 v31_2597).A) ∧ ((gt x_2552 v31_2597).A) < (v3_2547.length : Int) then
            if ((gt v3_2547 ((gt x_2552 v31_2597).A)) == 0) = true then
              nextO (0, IntKind.i64.wrap (v31_2597 + 1))
            else
              if 0 ≤ ((gt x_2552 v31_2597).A) ∧ ((gt x_2552 v31_2597).A) < (v3_2547.length : Int) then
                nextO ((if 2199023255552 < (IntKind.i64.wrap (v5_2596 + (gt v3_2547 ((gt x_2552 v31_2597).A)))) then 2199023255552 else IntKind.i64.wrap (v5_2596 + (gt v3_2547 ((gt x_2552 v31_2597).A)))), IntKind.i64.wrap (v31_2597 + 1))
              else none
          else none
        else
          nextO (v5_2596, IntKind.i64.wrap (v31_2597 + 1))
      else none
    else
      inrO (
        if 0 ≤ v22_2548 ∧ v22_2548 < (v3_2547.length : Int) then
          nextO (st v3_2547 v22_2548 v5_2596, IntKind.i64.wrap (v22_2548 + 1))
        else none)

noncomputable def go_ravelref04_table_s22 (a0_1490 : List (List api_Instr)) (v18_2428 : Int) : ((List Int) × Int) → Option (((List Int) × Int) ⊕ (((List Int) × Int) ⊕ (List Int)))
  | (v3_2547, v22_2548) =>
    if (decide (v22_2548 < (a0_1490.length : Int))) = true then
      if 0 ≤ v22_2548 ∧ v22_2548 < (a0_1490.length : Int) then
        (go_ravelref04_Run (gt a0_1490 v22_2548)).bind fun x_2552 =>
        whileO (go_ravelref04_table_s24 v3_2547 v22_2548 x_2552) (1, 0)
      else none
    else
      inrO (
        nextO (v3_2547, IntKind.i64.wrap (v18_2428 + 1)))

noncomputable def go_ravelref04_table_s17 (a0_1490 : List (List api_Instr)) : ((List Int) × Int) → Option (((List Int) × Int) ⊕ (List Int))
  | (v3_2427, v18_2428) =>
    if (decide (v18_2428 < (a0_1490.length : Int))) = true then
      whileO (go_ravelref04_table_s22 a0_1490 v18_2428) (v3_2427, 0)
    else
      inrO (
        some v3_2427)

noncomputable def go_ravelref04_table_s2 (a0_1490 : List (List api_Instr)) : ((List Int) × Int) → Option (((List Int) × Int) ⊕ (List Int))
  | (v3_2067, v10_2068) =>
    if (decide (v10_2068 < (a0_1490.length : Int))) = true then
      if few (v3_2067 ++ [0]).length then
        nextO (v3_2067 ++ [0], IntKind.i64.wrap (v10_2068 + 1))
      else none
    else
      inrO (
        whileO (go_ravelref04_table_s17 a0_1490) (v3_2067, 0))

noncomputable def go_ravelref04_table (a0_1490 : List (List api_Instr)) : Option (List Int) :=
  whileO (go_ravelref04_table_s2 a0_1490) ([], 0)

theorem go_ravelref04_table_sc (a0_1490 : List (List api_Instr)) (r : List Int) (h : go_ravelref04_table a0_1490 = some r) : SC Try.prog gl 34 [V.sl 1 (rws (fun l => [V.sl 3 (rws api_Instr.cells l)]) a0_1490)] (V.own 1 (rws (fun n => [V.int .i64 n]) r)) := by
  rw [go_ravelref04_table] at h
  refine SC.of E_good Try.func34 rfl (fun _ _ => Try.call34 _ _) rfl ?_
  repeat (first | refine Safe.seq ?_ | refine Safe.skip ?_ | with_reducible refine thenQ.n ?_ | with_reducible refine blockQ.n ?_)
  refine Safe.region ?_
  refine SafeOps.quiet0 E_good rfl rfl rfl (v := V.nils) (.fn rfl) ?_
  refine SafeOps.nil ?_
  repeat (first | refine Safe.seq ?_ | refine Safe.skip ?_ | with_reducible refine thenQ.n ?_ | with_reducible refine blockQ.n ?_)
  refine Safe.region ?_
  refine SafeOps.quiet0 E_good rfl rfl rfl (v := V.nils) (.fn rfl) ?_
  refine SafeOps.nil ?_
  repeat (first | refine Safe.seq ?_ | refine Safe.skip ?_ | with_reducible refine thenQ.n ?_ | with_reducible refine blockQ.n ?_)
  refine Safe.region ?_
  refine SafeOps.quiet0 E_good rfl rfl rfl (v := V.sl 1 (rws (fun l => [V.sl 3 (rws api_Instr.cells l)]) a0_1490)) (.fn rfl) ?_
  refine SafeOps.quiet0 E_good rfl rfl rfl (v := V.int .i64 (a0_1490.length : Int)) (.fnE rfl lenE) ?_
  refine SafeOps.quiet0 E_good rfl rfl rfl (v := V.int .i64 0) (.fn rfl) ?_
  refine SafeOps.nil ?_
  repeat (first | refine Safe.seq ?_ | refine Safe.skip ?_ | with_reducible refine thenQ.n ?_ | with_reducible refine blockQ.n ?_)
  refine Safe.block ?_
  repeat (first | refine Safe.seq ?_ | refine Safe.skip ?_ | with_reducible refine thenQ.n ?_ | with_reducible refine blockQ.n ?_)
  refine Safe.loopW (fun ((v3_2067, v10_2068) : (List Int) × Int) => ⟨Try.f34.ntmps, [(0, V.sl 1 (rws (fun l => [V.sl 3 (rws api_Instr.cells l)]) a0_1490)), (3, V.ref [7000, 118, 3] 0 (rws (fun n => [V.int .i64 n]) v3_2067).length), (9, V.int .i64 (a0_1490.length : Int)), (10, V.int .i64 v10_2068)], [([7000, 118, 3], Obj.rows 1 (rws (fun n => [V.int .i64 n]) v3_2067) false)], [], []⟩) h (.empty [7000, 118, 3] 1 rfl (.cov ⟨rfl, rfl, (upT_cons (.refl _) (upT_cons (.nilref _) (upT_cons (.refl _) (upT_cons (.refl _) upT_nil)))), (upOb_cons rfl (.refl _) upOb_nil), upOut_nil, rfl⟩)) ?_
  rintro ⟨v3_2067, v10_2068⟩ ohr2069 h hr2069
  replace h : go_ravelref04_table_s2 a0_1490 (v3_2067, v10_2068) = some ohr2069 := h
  rw [go_ravelref04_table_s2] at h
  repeat (first | refine Safe.seq ?_ | refine Safe.skip ?_ | with_reducible refine thenQ.n ?_ | with_reducible refine blockQ.n ?_)
  refine Safe.region ?_
  refine SafeOps.quiet0 E_good rfl rfl rfl (v := V.bool (decide (v10_2068 < (a0_1490.length : Int)))) (.fn rfl) ?_
  refine SafeOps.nil ?_
  repeat (first | refine Safe.seq ?_ | refine Safe.skip ?_ | with_reducible refine thenQ.n ?_ | with_reducible refine blockQ.n ?_)
  refine ifG h (fun hc2070 h => ?_) (fun hc2070 h => ?_)
  · skip
    refine Safe.condK rfl hc2070 ?_
    repeat (first | refine Safe.seq ?_ | refine Safe.skip ?_ | with_reducible refine thenQ.n ?_ | with_reducible refine blockQ.n ?_)
    refine Safe.block ?_
    repeat (first | refine Safe.seq ?_ | refine Safe.skip ?_ | with_reducible refine thenQ.n ?_ | with_reducible refine blockQ.n ?_)
    refine Safe.region ?_
    refine SafeOps.quiet0 E_good rfl rfl rfl (v := V.ref [7000, 118, 3] 0 (rws (fun n => [V.int .i64 n]) v3_2067).length) (.fn rfl) ?_
    refine SafeOps.quiet1 E_good rfl rfl rfl (.litM (f := (fun n => [V.int .i64 n])) (xs := [0]) rfl rfl (by decide) rfl rfl rfl rfl rfl) rfl ?_
    refine okG h (fun hb2071 h => ?_)
    refine SafeOps.appendM (fun n => [V.int .i64 n]) (xs := v3_2067) (ys := [0]) E_good rfl rfl rfl rfl rfl rfl rfl rfl rfl (.own rfl) (.own rfl) (fun _ => rfl) hb2071 ?_
    refine SafeOps.quiet0 E_good rfl rfl rfl (v := V.ref [14] 0 (rws (fun n => [V.int .i64 n]) (v3_2067 ++ [0])).length) (.fn rfl) ?_
    refine SafeOps.nil ?_
    repeat (first | refine Safe.seq ?_ | refine Safe.skip ?_ | with_reducible refine thenQ.n ?_ | with_reducible refine blockQ.n ?_)
    refine Safe.region ?_
    refine SafeOps.quiet0 E_good rfl rfl rfl (v := V.int .i64 (IntKind.i64.wrap (v10_2068 + 1))) (.fn rfl) ?_
    refine SafeOps.quiet0 E_good rfl rfl rfl (v := V.int .i64 (IntKind.i64.wrap (v10_2068 + 1))) (.fn rfl) ?_
    refine SafeOps.nil ?_
    repeat (first | refine Safe.seq ?_ | refine Safe.skip ?_ | with_reducible refine thenQ.n ?_ | with_reducible refine blockQ.n ?_)
    exact ⟨_, next_out h, (.ren [14] [7000, 118, 3] (.cov ⟨rfl, rfl, (upT_cons (.refl _) (upT_cons (.refl _) (upT_cons (.refl _) (upT_cons (.refl _) upT_nil)))), (upOb_cons rfl (.refl _) upOb_nil), upOut_nil, rfl⟩))⟩
  · skip
    refine Safe.condN rfl hc2070 ?_
    repeat (first | refine Safe.seq ?_ | refine Safe.skip ?_ | with_reducible refine thenQ.n ?_ | with_reducible refine blockQ.n ?_)
    refine Safe.exit ?_
    repeat (first | with_reducible refine thenQ.e ?_ | with_reducible refine blockQ.x rfl ?_ | with_reducible refine blockQ.y rfl ?_)
    replace h := inr_out h hr2069
    repeat (first | refine Safe.seq ?_ | refine Safe.skip ?_ | with_reducible refine thenQ.n ?_ | with_reducible refine blockQ.n ?_)
    refine Safe.region ?_
    refine SafeOps.quiet0 E_good rfl rfl rfl (v := V.sl 1 (rws (fun l => [V.sl 3 (rws api_Instr.cells l)]) a0_1490)) (.fn rfl) ?_
    refine SafeOps.quiet0 E_good rfl rfl rfl (v := V.int .i64 (a0_1490.length : Int)) (.fnE rfl lenE) ?_
    refine SafeOps.quiet0 E_good rfl rfl rfl (v := V.int .i64 0) (.fn rfl) ?_
    refine SafeOps.nil ?_
    repeat (first | refine Safe.seq ?_ | refine Safe.skip ?_ | with_reducible refine thenQ.n ?_ | with_reducible refine blockQ.n ?_)
    refine Safe.block ?_
    repeat (first | refine Safe.seq ?_ | refine Safe.skip ?_ | with_reducible refine thenQ.n ?_ | with_reducible refine blockQ.n ?_)
    refine Safe.loopW (fun ((v3_2427, v18_2428) : (List Int) × Int) => ⟨Try.f34.ntmps, [(0, V.sl 1 (rws (fun l => [V.sl 3 (rws api_Instr.cells l)]) a0_1490)), (3, V.ref [7000, 118, 3] 0 (rws (fun n => [V.int .i64 n]) v3_2427).length), (17, V.int .i64 (a0_1490.length : Int)), (18, V.int .i64 v18_2428)], [([7000, 118, 3], Obj.rows 1 (rws (fun n => [V.int .i64 n]) v3_2427) false)], [], []⟩) h (.cov ⟨rfl, rfl, (upT_cons (.refl _) (upT_cons (.refl _) (upT_cons (.refl _) (upT_cons (.refl _) upT_nil)))), (upOb_cons rfl (.refl _) upOb_nil), upOut_nil, rfl⟩) ?_
    rintro ⟨v3_2427, v18_2428⟩ ohr2429 h hr2429
    replace h : go_ravelref04_table_s17 a0_1490 (v3_2427, v18_2428) = some ohr2429 := h
    rw [go_ravelref04_table_s17] at h
    repeat (first | refine Safe.seq ?_ | refine Safe.skip ?_ | with_reducible refine thenQ.n ?_ | with_reducible refine blockQ.n ?_)
    refine Safe.region ?_
    refine SafeOps.quiet0 E_good rfl rfl rfl (v := V.bool (decide (v18_2428 < (a0_1490.length : Int)))) (.fn rfl) ?_
    refine SafeOps.nil ?_
    repeat (first | refine Safe.seq ?_ | refine Safe.skip ?_ | with_reducible refine thenQ.n ?_ | with_reducible refine blockQ.n ?_)
    refine ifG h (fun hc2430 h => ?_) (fun hc2430 h => ?_)
    · skip
      refine Safe.condK rfl hc2430 ?_
      repeat (first | refine Safe.seq ?_ | refine Safe.skip ?_ | with_reducible refine thenQ.n ?_ | with_reducible refine blockQ.n ?_)
      refine Safe.block ?_
      repeat (first | refine Safe.seq ?_ | refine Safe.skip ?_ | with_reducible refine thenQ.n ?_ | with_reducible refine blockQ.n ?_)
      refine Safe.region ?_
      refine SafeOps.quiet0 E_good rfl rfl rfl (v := V.sl 1 (rws (fun l => [V.sl 3 (rws api_Instr.cells l)]) a0_1490)) (.fn rfl) ?_
      refine SafeOps.quiet0 E_good rfl rfl rfl (v := V.int .i64 (a0_1490.length : Int)) (.fnE rfl lenE) ?_
      refine SafeOps.quiet0 E_good rfl rfl rfl (v := V.int .i64 0) (.fn rfl) ?_
      refine SafeOps.nil ?_
      repeat (first | refine Safe.seq ?_ | refine Safe.skip ?_ | with_reducible refine thenQ.n ?_ | with_reducible refine blockQ.n ?_)
      refine Safe.block ?_
      repeat (first | refine Safe.seq ?_ | refine Safe.skip ?_ | with_reducible refine thenQ.n ?_ | with_reducible refine blockQ.n ?_)
      refine Safe.loopW (fun ((v3_2547, v22_2548) : (List Int) × Int) => ⟨Try.f34.ntmps, [(0, V.sl 1 (rws (fun l => [V.sl 3 (rws api_Instr.cells l)]) a0_1490)), (3, V.ref [7000, 118, 3] 0 (rws (fun n => [V.int .i64 n]) v3_2547).length), (17, V.int .i64 (a0_1490.length : Int)), (18, V.int .i64 v18_2428), (21, V.int .i64 (a0_1490.length : Int)), (22, V.int .i64 v22_2548)], [([7000, 118, 3], Obj.rows 1 (rws (fun n => [V.int .i64 n]) v3_2547) false)], [], []⟩) h (.cov ⟨rfl, rfl, (upT_cons (.refl _) (upT_cons (.refl _) (upT_cons (.refl _) (upT_cons (.refl _) (upT_cons (.refl _) (upT_cons (.refl _) upT_nil)))))), (upOb_cons rfl (.refl _) upOb_nil), upOut_nil, rfl⟩) ?_
      rintro ⟨v3_2547, v22_2548⟩ ohr2549 h hr2549
      replace h : go_ravelref04_table_s22 a0_1490 v18_2428 (v3_2547, v22_2548) = some ohr2549 := h
      rw [go_ravelref04_table_s22] at h
      repeat (first | refine Safe.seq ?_ | refine Safe.skip ?_ | with_reducible refine thenQ.n ?_ | with_reducible refine blockQ.n ?_)
      refine Safe.region ?_
      refine SafeOps.quiet0 E_good rfl rfl rfl (v := V.bool (decide (v22_2548 < (a0_1490.length : Int)))) (.fn rfl) ?_
      refine SafeOps.nil ?_
      repeat (first | refine Safe.seq ?_ | refine Safe.skip ?_ | with_reducible refine thenQ.n ?_ | with_reducible refine blockQ.n ?_)
      refine ifG h (fun hc2550 h => ?_) (fun hc2550 h => ?_)
      · skip
        refine Safe.condK rfl hc2550 ?_
        repeat (first | refine Safe.seq ?_ | refine Safe.skip ?_ | with_reducible refine thenQ.n ?_ | with_reducible refine blockQ.n ?_)
        refine Safe.block ?_
        repeat (first | refine Safe.seq ?_ | refine Safe.skip ?_ | with_reducible refine thenQ.n ?_ | with_reducible refine blockQ.n ?_)
        refine Safe.region ?_
        refine SafeOps.quiet0 E_good rfl rfl rfl (v := V.int .i64 v22_2548) (.fn rfl) ?_
        refine SafeOps.quiet0 E_good rfl rfl rfl (v := V.int .i64 v22_2548) (.fn rfl) ?_
        refine SafeOps.nil ?_
        repeat (first | refine Safe.seq ?_ | refine Safe.skip ?_ | with_reducible refine thenQ.n ?_ | with_reducible refine blockQ.n ?_)
        refine Safe.region ?_
        refine SafeOps.quiet0 E_good rfl rfl rfl (v := V.int .i64 1) (.fn rfl) ?_
        refine SafeOps.nil ?_
        repeat (first | refine Safe.seq ?_ | refine Safe.skip ?_ | with_reducible refine thenQ.n ?_ | with_reducible refine blockQ.n ?_)
        refine Safe.region ?_
        refine SafeOps.quiet0 E_good rfl rfl rfl (v := V.sl 1 (rws (fun l => [V.sl 3 (rws api_Instr.cells l)]) a0_1490)) (.fn rfl) ?_
        refine SafeOps.quiet0 E_good rfl rfl rfl (v := V.int .i64 v22_2548) (.fn rfl) ?_
        refine okG h (fun hb2551 h => ?_)
        refine SafeOps.quiet0 E_good rfl rfl rfl (v := V.spt 1 (rws (fun l => [V.sl 3 (rws api_Instr.cells l)]) a0_1490) (Int.toNat v22_2548) 0) (.idxSlM (f := (fun l => [V.sl 3 (rws api_Instr.cells l)])) rfl rfl rfl rfl rfl hb2551) ?_
        refine SafeOps.quiet0 E_good rfl rfl rfl (v := V.sl 3 (rws api_Instr.cells (gt a0_1490 v22_2548))) (.load rfl rfl (.sptM (f := (fun l => [V.sl 3 (rws api_Instr.cells l)])) hb2551 rfl) rfl) ?_
        refine bindG h ?_
        intro x_2552 he2553 h
        refine SafeOps.quiet0 E_good rfl rfl rfl (v := V.sl 3 (rws api_Instr.cells x_2552)) (.callP rfl rfl (go_ravelref04_Run_sc (gt a0_1490 v22_2548) _ he2553) rfl) ?_
        refine SafeOps.quiet0 E_good rfl rfl rfl (v := V.int .i64 (x_2552.length : Int)) (.fnE rfl lenE) ?_
        refine SafeOps.quiet0 E_good rfl rfl rfl (v := V.int .i64 0) (.fn rfl) ?_
        refine SafeOps.nil ?_
        repeat (first | refine Safe.seq ?_ | refine Safe.skip ?_ | with_reducible refine thenQ.n ?_ | with_reducible refine blockQ.n ?_)
        refine Safe.block ?_
        repeat (first | refine Safe.seq ?_ | refine Safe.skip ?_ | with_reducible refine thenQ.n ?_ | with_reducible refine blockQ.n ?_)
        refine Safe.loopW (fun ((v5_2596, v31_2597) : Int × Int) => ⟨Try.f34.ntmps, [(0, V.sl 1 (rws (fun l => [V.sl 3 (rws api_Instr.cells l)]) a0_1490)), (3, V.ref [7000, 118, 3] 0 (rws (fun n => [V.int .i64 n]) v3_2547).length), (4, V.int .i64 v22_2548), (5, V.int .i64 v5_2596), (17, V.int .i64 (a0_1490.length : Int)), (18, V.int .i64 v18_2428), (21, V.int .i64 (a0_1490.length : Int)), (22, V.int .i64 v22_2548), (29, V.sl 3 (rws api_Instr.cells x_2552)), (30, V.int .i64 (x_2552.length : Int)), (31, V.int .i64 v31_2597)], [([7000, 118, 3], Obj.rows 1 (rws (fun n => [V.int .i64 n]) v3_2547) false)], [], []⟩) h (.cov ⟨rfl, rfl, (upT_cons (.refl _) (upT_cons (.refl _) (upT_cons (.refl _) (upT_cons (.refl _) (upT_cons (.refl _) (upT_cons (.refl _) (upT_cons (.refl _) (upT_cons (.refl _) (upT_cons (.refl _) (upT_cons (.refl _) (upT_cons (.refl _) upT_nil))))))))))), (upOb_cons rfl (.refl _) upOb_nil), upOut_nil, rfl⟩) ?_
        rintro ⟨v5_2596, v31_2597⟩ ohr2598 h hr2598
        replace h : go_ravelref04_table_s24 v3_2547 v22_2548 x_2552 (v5_2596, v31_2597) = some ohr2598 := h
        rw [go_ravelref04_table_s24] at h
        repeat (first | refine Safe.seq ?_ | refine Safe.skip ?_ | with_reducible refine thenQ.n ?_ | with_reducible refine blockQ.n ?_)
        refine Safe.region ?_
        refine SafeOps.quiet0 E_good rfl rfl rfl (v := V.bool (decide (v31_2597 < (x_2552.length : Int)))) (.fn rfl) ?_
        refine SafeOps.nil ?_
        repeat (first | refine Safe.seq ?_ | refine Safe.skip ?_ | with_reducible refine thenQ.n ?_ | with_reducible refine blockQ.n ?_)
        refine ifG h (fun hc2599 h => ?_) (fun hc2599 h => ?_)
        · skip
          refine Safe.condK rfl hc2599 ?_
          repeat (first | refine Safe.seq ?_ | refine Safe.skip ?_ | with_reducible refine thenQ.n ?_ | with_reducible refine blockQ.n ?_)
          refine Safe.block ?_
          repeat (first | refine Safe.seq ?_ | refine Safe.skip ?_ | with_reducible refine thenQ.n ?_ | with_reducible refine blockQ.n ?_)
          refine Safe.region ?_
          refine okG h (fun hb2600 h => ?_)
          refine SafeOps.quiet0 E_good rfl rfl rfl (v := V.spt 3 (rws api_Instr.cells x_2552) (Int.toNat v31_2597) 0) (.idxSlM (f := api_Instr.cells) rfl rfl rfl rfl rfl hb2600) ?_
          refine SafeOps.quiet0 E_good rfl rfl rfl (v := V.agg [V.int .i64 ((gt x_2552 v31_2597).Op), V.int .i64 ((gt x_2552 v31_2597).A), V.int .i64 ((gt x_2552 v31_2597).B)]) (.load rfl rfl (.sptM (f := api_Instr.cells) hb2600 rfl) rfl) ?_
          refine SafeOps.quiet1 E_good rfl rfl rfl (.alloc rfl rfl) rfl ?_
          refine SafeOps.store (z := Obj.box [V.int .i64 ((gt x_2552 v31_2597).Op), V.int .i64 ((gt x_2552 v31_2597).A), V.int .i64 ((gt x_2552 v31_2597).B)]) E_good rfl rfl rfl rfl rfl rfl rfl (.boxM (c := 3) rfl rfl (Nat.le_of_ble_eq_true rfl) rfl) ?_
          refine SafeOps.nil ?_
          repeat (first | refine Safe.seq ?_ | refine Safe.skip ?_ | with_reducible refine thenQ.n ?_ | with_reducible refine blockQ.n ?_)
          refine Safe.region ?_
          refine SafeOps.quiet0 E_good rfl rfl rfl (v := V.ptr [7] 0 0) (.fn rfl) ?_
          refine SafeOps.quiet0 E_good rfl rfl rfl (v := V.int .i64 ((gt x_2552 v31_2597).Op)) (.load rfl rfl (.box rfl rfl) rfl) ?_
          refine SafeOps.quiet0 E_good rfl rfl rfl (v := V.bool (((gt x_2552 v31_2597).Op) == 2)) (.fn rfl) ?_
          refine SafeOps.quiet0 E_good rfl rfl rfl (v := V.bool (((gt x_2552 v31_2597).Op) == 2)) (.fn rfl) ?_
          refine SafeOps.bjoin 3 41 (b := ((((gt x_2552 v31_2597).Op) == 2) && (decide (v5_2596 > 0)))) (b1 := decide (v5_2596 > 0)) (b0 := false) (fun hc2601 K => ?_) (fun hc2601 K => ?_) bj_and ?_
          · skip
            refine SafeOps.quiet0 E_good (congrArg some hc2601) rfl rfl (v := V.int .i64 v5_2596) (.fn rfl) ?_
            refine SafeOps.quiet0 E_good (congrArg some hc2601) rfl rfl (v := V.bool (decide (v5_2596 > 0))) (.fn rfl) ?_
            refine SafeOps.quiet0 E_good rfl rfl rfl (v := V.bool (decide (v5_2596 > 0))) (.pickK rfl hc2601 rfl) ?_
            exact SafeOps.drop' 3 rfl rfl rfl K
          · skip
            refine SafeOps.skip (congrArg some hc2601) rfl rfl ?_
            refine SafeOps.skip (congrArg some hc2601) rfl rfl ?_
            refine SafeOps.quiet0 E_good rfl rfl rfl (v := V.bool false) (.pickK rfl hc2601 rfl) ?_
            exact SafeOps.drop' 3 rfl rfl rfl K
          refine SafeOps.nil ?_
          repeat (first | refine Safe.seq ?_ | refine Safe.skip ?_ | with_reducible refine thenQ.n ?_ | with_reducible refine blockQ.n ?_)
          refine ifG h (fun hc2602 h => ?_) (fun hc2602 h => ?_)
          · skip
            refine Safe.condK rfl hc2602 ?_
            repeat (first | refine Safe.seq ?_ | refine Safe.skip ?_ | with_reducible refine thenQ.n ?_ | with_reducible refine blockQ.n ?_)
            refine Safe.region ?_
            refine SafeOps.quiet0 E_good rfl rfl rfl (v := V.ref [7000, 118, 3] 0 (rws (fun n => [V.int .i64 n]) v3_2547).length) (.fn rfl) ?_
            refine SafeOps.quiet0 E_good rfl rfl rfl (v := V.ptr [7] 0 1) (.fn rfl) ?_
            refine SafeOps.quiet0 E_good rfl rfl rfl (v := V.int .i64 ((gt x_2552 v31_2597).A)) (.load rfl rfl (.box rfl rfl) rfl) ?_
            refine okG h (fun hb2603 h => ?_)
            refine SafeOps.quiet0 E_good rfl rfl rfl (v := V.ptr [7000, 118, 3] (0 + Int.toNat ((gt x_2552 v31_2597).A)) 0) (.idxRefM (f := (fun n => [V.int .i64 n])) (xs := v3_2547) rfl rfl rfl rfl rfl rfl hb2603) ?_
            refine SafeOps.quiet0 E_good rfl rfl rfl (v := V.int .i64 (gt v3_2547 ((gt x_2552 v31_2597).A))) (.load rfl rfl (.rowsM (f := (fun n => [V.int .i64 n])) (xs := v3_2547) hb2603 rfl rfl) rfl) ?_
            refine SafeOps.quiet0 E_good rfl rfl rfl (v := V.bool ((gt v3_2547 ((gt x_2552 v31_2597).A)) == 0)) (.fn rfl) ?_
            refine SafeOps.nil ?_
            repeat (first | refine Safe.seq ?_ | refine Safe.skip ?_ | with_reducible refine thenQ.n ?_ | with_reducible refine blockQ.n ?_)
            refine ifG h (fun hc2604 h => ?_) (fun hc2604 h => ?_)
            · skip
              refine Safe.condK rfl hc2604 ?_
              repeat (first | refine Safe.seq ?_ | refine Safe.skip ?_ | with_reducible refine thenQ.n ?_ | with_reducible refine blockQ.n ?_)
              refine Safe.region ?_
              refine SafeOps.quiet0 E_good rfl rfl rfl (v := V.int .i64 0) (.fn rfl) ?_
              refine SafeOps.nil ?_
              repeat (first | refine Safe.seq ?_ | refine Safe.skip ?_ | with_reducible refine thenQ.n ?_ | with_reducible refine blockQ.n ?_)
              refine Safe.region ?_
              refine SafeOps.quiet0 E_good rfl rfl rfl (v := V.int .i64 (IntKind.i64.wrap (v31_2597 + 1))) (.fn rfl) ?_
              refine SafeOps.quiet0 E_good rfl rfl rfl (v := V.int .i64 (IntKind.i64.wrap (v31_2597 + 1))) (.fn rfl) ?_
              refine SafeOps.nil ?_
              repeat (first | refine Safe.seq ?_ | refine Safe.skip ?_ | with_reducible refine thenQ.n ?_ | with_reducible refine blockQ.n ?_)
              exact ⟨_, next_out h, (.cov ⟨rfl, rfl, (upT_cons (.refl _) (upT_cons (.refl _) (upT_cons (.refl _) (upT_cons (.refl _) (upT_cons (.refl _) (upT_cons (.refl _) (upT_cons (.refl _) (upT_cons (.refl _) (upT_cons (.refl _) (upT_cons (.refl _) (upT_cons (.refl _) upT_nil))))))))))), (upOb_cons rfl (.refl _) upOb_nil), upOut_nil, rfl⟩)⟩
            · skip
              refine Safe.condN rfl hc2604 ?_
              repeat (first | refine Safe.seq ?_ | refine Safe.skip ?_ | with_reducible refine thenQ.n ?_ | with_reducible refine blockQ.n ?_)
              refine Safe.region ?_
              refine SafeOps.quiet0 E_good rfl rfl rfl (v := V.int .i64 v5_2596) (.fn rfl) ?_
              refine SafeOps.quiet0 E_good rfl rfl rfl (v := V.ref [7000, 118, 3] 0 (rws (fun n => [V.int .i64 n]) v3_2547).length) (.fn rfl) ?_
              refine SafeOps.quiet0 E_good rfl rfl rfl (v := V.ptr [7] 0 1) (.fn rfl) ?_
              refine SafeOps.quiet0 E_good rfl rfl rfl (v := V.int .i64 ((gt x_2552 v31_2597).A)) (.load rfl rfl (.box rfl rfl) rfl) ?_
              refine okG h (fun hb2605 h => ?_)
              refine SafeOps.quiet0 E_good rfl rfl rfl (v := V.ptr [7000, 118, 3] (0 + Int.toNat ((gt x_2552 v31_2597).A)) 0) (.idxRefM (f := (fun n => [V.int .i64 n])) (xs := v3_2547) rfl rfl rfl rfl rfl rfl hb2605) ?_
              refine SafeOps.quiet0 E_good rfl rfl rfl (v := V.int .i64 (gt v3_2547 ((gt x_2552 v31_2597).A))) (.load rfl rfl (.rowsM (f := (fun n => [V.int .i64 n])) (xs := v3_2547) hb2605 rfl rfl) rfl) ?_
              refine SafeOps.quiet0 E_good rfl rfl rfl (v := V.int .i64 (IntKind.i64.wrap (v5_2596 + (gt v3_2547 ((gt x_2552 v31_2597).A))))) (.fn rfl) ?_
              refine SafeOps.quiet0 E_good rfl rfl rfl (v := V.int .i64 (if 2199023255552 < (IntKind.i64.wrap (v5_2596 + (gt v3_2547 ((gt x_2552 v31_2597).A)))) then 2199023255552 else IntKind.i64.wrap (v5_2596 + (gt v3_2547 ((gt x_2552 v31_2597).A))))) (.fn rfl) ?_
              refine SafeOps.quiet0 E_good rfl rfl rfl (v := V.int .i64 (if 2199023255552 < (IntKind.i64.wrap (v5_2596 + (gt v3_2547 ((gt x_2552 v31_2597).A)))) then 2199023255552 else IntKind.i64.wrap (v5_2596 + (gt v3_2547 ((gt x_2552 v31_2597).A))))) (.fn rfl) ?_
              refine SafeOps.nil ?_
              repeat (first | refine Safe.seq ?_ | refine Safe.skip ?_ | with_reducible refine thenQ.n ?_ | with_reducible refine blockQ.n ?_)
              refine Safe.region ?_
              refine SafeOps.quiet0 E_good rfl rfl rfl (v := V.int .i64 (IntKind.i64.wrap (v31_2597 + 1))) (.fn rfl) ?_
              refine SafeOps.quiet0 E_good rfl rfl rfl (v := V.int .i64 (IntKind.i64.wrap (v31_2597 + 1))) (.fn rfl) ?_
              refine SafeOps.nil ?_
              repeat (first | refine Safe.seq ?_ | refine Safe.skip ?_ | with_reducible refine thenQ.n ?_ | with_reducible refine blockQ.n ?_)
              exact ⟨_, next_out h, (.cov ⟨rfl, rfl, (upT_cons (.refl _) (upT_cons (.refl _) (upT_cons (.refl _) (upT_cons (.refl _) (upT_cons (.refl _) (upT_cons (.refl _) (upT_cons (.refl _) (upT_cons (.refl _) (upT_cons (.refl _) (upT_cons (.refl _) (upT_cons (.refl _) upT_nil))))))))))), (upOb_cons rfl (.refl _) upOb_nil), upOut_nil, rfl⟩)⟩
          · skip
            refine Safe.condN rfl hc2602 ?_
            repeat (first | refine Safe.seq ?_ | refine Safe.skip ?_ | with_reducible refine thenQ.n ?_ | with_reducible refine blockQ.n ?_)
            refine Safe.region ?_
            refine SafeOps.quiet0 E_good rfl rfl rfl (v := V.int .i64 (IntKind.i64.wrap (v31_2597 + 1))) (.fn rfl) ?_
            refine SafeOps.quiet0 E_good rfl rfl rfl (v := V.int .i64 (IntKind.i64.wrap (v31_2597 + 1))) (.fn rfl) ?_
            refine SafeOps.nil ?_
            repeat (first | refine Safe.seq ?_ | refine Safe.skip ?_ | with_reducible refine thenQ.n ?_ | with_reducible refine blockQ.n ?_)
            exact ⟨_, next_out h, (.cov ⟨rfl, rfl, (upT_cons (.refl _) (upT_cons (.refl _) (upT_cons (.refl _) (upT_cons (.refl _) (upT_cons (.refl _) (upT_cons (.refl _) (upT_cons (.refl _) (upT_cons (.refl _) (upT_cons (.refl _) (upT_cons (.refl _) (upT_cons (.refl _) upT_nil))))))))))), (upOb_cons rfl (.refl _) upOb_nil), upOut_nil, rfl⟩)⟩
        · skip
          refine Safe.condN rfl hc2599 ?_
          repeat (first | refine Safe.seq ?_ | refine Safe.skip ?_ | with_reducible refine thenQ.n ?_ | with_reducible refine blockQ.n ?_)
          refine Safe.exit ?_
          repeat (first | with_reducible refine thenQ.e ?_ | with_reducible refine blockQ.x rfl ?_ | with_reducible refine blockQ.y rfl ?_)
          replace h := inr_out h hr2598
          repeat (first | refine Safe.seq ?_ | refine Safe.skip ?_ | with_reducible refine thenQ.n ?_ | with_reducible refine blockQ.n ?_)
          refine Safe.region ?_
          refine SafeOps.quiet0 E_good rfl rfl rfl (v := V.ref [7000, 118, 3] 0 (rws (fun n => [V.int .i64 n]) v3_2547).length) (.fn rfl) ?_
          refine SafeOps.quiet0 E_good rfl rfl rfl (v := V.int .i64 v22_2548) (.fn rfl) ?_
          refine SafeOps.quiet0 E_good rfl rfl rfl (v := V.int .i64 v5_2596) (.fn rfl) ?_
          refine okG h (fun hb2606 h => ?_)
          refine SafeOps.quiet0 E_good rfl rfl rfl (v := V.ptr [7000, 118, 3] (0 + Int.toNat v22_2548) 0) (.idxRefM (f := (fun n => [V.int .i64 n])) (xs := v3_2547) rfl rfl rfl rfl rfl rfl hb2606) ?_
          refine SafeOps.store (z := Obj.rows 1 (rws (fun n => [V.int .i64 n]) (st v3_2547 v22_2548 v5_2596)) false) E_good rfl rfl rfl rfl rfl rfl rfl (.rowsM (f := (fun n => [V.int .i64 n])) (xs := v3_2547) (y := v5_2596) hb2606 rfl rfl rfl rfl) ?_
          refine SafeOps.see 3 (u := V.ref [7000, 118, 3] 0 (rws (fun n => [V.int .i64 n]) (st v3_2547 v22_2548 v5_2596)).length) rfl (.len (by simp [rws, st])) ?_
          refine SafeOps.see 57 (u := V.ref [7000, 118, 3] 0 (rws (fun n => [V.int .i64 n]) (st v3_2547 v22_2548 v5_2596)).length) rfl (.len (by simp [rws, st])) ?_
          refine SafeOps.nil ?_
          repeat (first | refine Safe.seq ?_ | refine Safe.skip ?_ | with_reducible refine thenQ.n ?_ | with_reducible refine blockQ.n ?_)
          refine Safe.region ?_
          refine SafeOps.quiet0 E_good rfl rfl rfl (v := V.int .i64 (IntKind.i64.wrap (v22_2548 + 1))) (.fn rfl) ?_
          refine SafeOps.quiet0 E_good rfl rfl rfl (v := V.int .i64 (IntKind.i64.wrap (v22_2548 + 1))) (.fn rfl) ?_
          refine SafeOps.nil ?_
          repeat (first | refine Safe.seq ?_ | refine Safe.skip ?_ | with_reducible refine thenQ.n ?_ | with_reducible refine blockQ.n ?_)
          exact ⟨_, next_out h, (.cov ⟨rfl, rfl, (upT_cons (.refl _) (upT_cons (.refl _) (upT_cons (.refl _) (upT_cons (.refl _) (upT_cons (.refl _) (upT_cons (.refl _) upT_nil)))))), (upOb_cons rfl (.refl _) upOb_nil), upOut_nil, rfl⟩)⟩
      · skip
        refine Safe.condN rfl hc2550 ?_
        repeat (first | refine Safe.seq ?_ | refine Safe.skip ?_ | with_reducible refine thenQ.n ?_ | with_reducible refine blockQ.n ?_)
        refine Safe.exit ?_
        repeat (first | with_reducible refine thenQ.e ?_ | with_reducible refine blockQ.x rfl ?_ | with_reducible refine blockQ.y rfl ?_)
        replace h := inr_out h hr2549
        repeat (first | refine Safe.seq ?_ | refine Safe.skip ?_ | with_reducible refine thenQ.n ?_ | with_reducible refine blockQ.n ?_)
        refine Safe.region ?_
        refine SafeOps.quiet0 E_good rfl rfl rfl (v := V.int .i64 (IntKind.i64.wrap (v18_2428 + 1))) (.fn rfl) ?_
        refine SafeOps.quiet0 E_good rfl rfl rfl (v := V.int .i64 (IntKind.i64.wrap (v18_2428 + 1))) (.fn rfl) ?_
        refine SafeOps.nil ?_
        repeat (first | refine Safe.seq ?_ | refine Safe.skip ?_ | with_reducible refine thenQ.n ?_ | with_reducible refine blockQ.n ?_)
        exact ⟨_, next_out h, (.cov ⟨rfl, rfl, (upT_cons (.refl _) (upT_cons (.refl _) (upT_cons (.refl _) (upT_cons (.refl _) upT_nil)))), (upOb_cons rfl (.refl _) upOb_nil), upOut_nil, rfl⟩)⟩
    · skip
      refine Safe.condN rfl hc2430 ?_
      repeat (first | refine Safe.seq ?_ | refine Safe.skip ?_ | with_reducible refine thenQ.n ?_ | with_reducible refine blockQ.n ?_)
      refine Safe.exit ?_
      repeat (first | with_reducible refine thenQ.e ?_ | with_reducible refine blockQ.x rfl ?_ | with_reducible refine blockQ.y rfl ?_)
      replace h := inr_out h hr2429
      repeat (first | refine Safe.seq ?_ | refine Safe.skip ?_ | with_reducible refine thenQ.n ?_ | with_reducible refine blockQ.n ?_)
      refine Safe.region ?_
      refine SafeOps.quiet0 E_good rfl rfl rfl (v := V.ref [7000, 118, 3] 0 (rws (fun n => [V.int .i64 n]) v3_2427).length) (.fn rfl) ?_
      refine SafeOps.quiet0 E_good rfl rfl rfl (v := V.ref [7000, 118, 3] 0 (rws (fun n => [V.int .i64 n]) v3_2427).length) (.fn rfl) ?_
      refine SafeOps.nil ?_
      repeat (first | refine Safe.seq ?_ | refine Safe.skip ?_ | with_reducible refine thenQ.n ?_ | with_reducible refine blockQ.n ?_)
      refine Safe.ret ?_
      repeat (first | with_reducible refine thenQ.r ?_ | with_reducible refine blockQ.r ?_)
      obtain rfl := Option.some.inj h
      exact retQ.gen (vs := [V.ref [7000, 118, 3] 0 (rws (fun n => [V.int .i64 n]) v3_2427).length]) rfl (.tmp (v := V.ref [7000, 118, 3] 0 (rws (fun n => [V.int .i64 n]) v3_2427).length) rfl .nil) (by exact (.own rfl rfl)) (by simp) (.inr rfl)

noncomputable def go_ravelref04_Tasks (a0_1347 : List (List api_Instr)) (a1_1348 : Int) : Option (Int × Int) :=
  (go_ravelref04_CheckAll a0_1347).bind fun x_2612 =>
  if (((x_2612 != 0) || (decide (a1_1348 < 0))) || (decide (a1_1348 ≥ (a0_1347.length : Int)))) = true then
    some (0, 1)
  else
    (go_ravelref04_table a0_1347).bind fun x_2617 =>
    if 0 ≤ a1_1348 ∧ a1_1348 < (x_2617.length : Int) then
      if ((gt x_2617 a1_1348) == 0) = true then
        some (0, 9)
      else
        if (decide ((gt x_2617 a1_1348) > 1099511627776)) = true then
          some (0, 4)
        else
          some ((gt x_2617 a1_1348), 0)
    else none

theorem go_ravelref04_Tasks_sc (a0_1347 : List (List api_Instr)) (a1_1348 : Int) (r : Int × Int) (h : go_ravelref04_Tasks a0_1347 a1_1348 = some r) : SC Try.prog gl 18 [V.sl 1 (rws (fun l => [V.sl 3 (rws api_Instr.cells l)]) a0_1347), V.int .i64 a1_1348] (V.tup [V.int .i64 r.1, V.int .i64 r.2]) := by
  rw [go_ravelref04_Tasks] at h
  refine SC.of E_good Try.func18 rfl (fun _ _ => Try.call18 _ _) rfl ?_
  repeat (first | refine Safe.seq ?_ | refine Safe.skip ?_ | with_reducible refine thenQ.n ?_ | with_reducible refine blockQ.n ?_)
  refine Safe.region ?_
  refine SafeOps.quiet0 E_good rfl rfl rfl (v := V.int .i64 0) (.fn rfl) ?_
  refine SafeOps.quiet0 E_good rfl rfl rfl (v := V.int .i64 0) (.fn rfl) ?_
  refine SafeOps.nil ?_
  repeat (first | refine Safe.seq ?_ | refine Safe.skip ?_ | with_reducible refine thenQ.n ?_ | with_reducible refine blockQ.n ?_)
  refine Safe.region ?_
  refine SafeOps.quiet0 E_good rfl rfl rfl (v := V.sl 1 (rws (fun l => [V.sl 3 (rws api_Instr.cells l)]) a0_1347)) (.fn rfl) ?_
  refine bindG h ?_
  intro x_2612 he2613 h
  refine SafeOps.quiet0 E_good rfl rfl rfl (v := V.int .i64 x_2612) (.callP rfl rfl (go_ravelref04_CheckAll_sc a0_1347 _ he2613) rfl) ?_
  refine SafeOps.quiet0 E_good rfl rfl rfl (v := V.bool (x_2612 != 0)) (.fn rfl) ?_
  refine SafeOps.quiet0 E_good rfl rfl rfl (v := V.bool (x_2612 != 0)) (.fn rfl) ?_
  refine SafeOps.bjoin 3 13 (b := ((x_2612 != 0) || (decide (a1_1348 < 0)))) (b1 := true) (b0 := decide (a1_1348 < 0)) (fun hc2614 K => ?_) (fun hc2614 K => ?_) bj_or ?_
  · skip
    refine SafeOps.skip (congrArg (fun b => some (!b)) hc2614) rfl rfl ?_
    refine SafeOps.skip (congrArg (fun b => some (!b)) hc2614) rfl rfl ?_
    refine SafeOps.quiet0 E_good rfl rfl rfl (v := V.bool true) (.pickK rfl hc2614 rfl) ?_
    exact SafeOps.drop' 3 rfl rfl rfl K
  · skip
    refine SafeOps.quiet0 E_good (congrArg (fun b => some (!b)) hc2614) rfl rfl (v := V.int .i64 a1_1348) (.fn rfl) ?_
    refine SafeOps.quiet0 E_good (congrArg (fun b => some (!b)) hc2614) rfl rfl (v := V.bool (decide (a1_1348 < 0))) (.fn rfl) ?_
    refine SafeOps.quiet0 E_good rfl rfl rfl (v := V.bool (decide (a1_1348 < 0))) (.pickK rfl hc2614 rfl) ?_
    exact SafeOps.drop' 3 rfl rfl rfl K
  refine SafeOps.quiet0 E_good rfl rfl rfl (v := V.bool ((x_2612 != 0) || (decide (a1_1348 < 0)))) (.fn rfl) ?_
  refine SafeOps.bjoin 5 19 (b := (((x_2612 != 0) || (decide (a1_1348 < 0))) || (decide (a1_1348 ≥ (a0_1347.length : Int))))) (b1 := true) (b0 := decide (a1_1348 ≥ (a0_1347.length : Int))) (fun hc2615 K => ?_) (fun hc2615 K => ?_) bj_or ?_
  · skip
    refine SafeOps.skip (congrArg (fun b => some (!b)) hc2615) rfl rfl ?_
    refine SafeOps.skip (congrArg (fun b => some (!b)) hc2615) rfl rfl ?_
    refine SafeOps.skip (congrArg (fun b => some (!b)) hc2615) rfl rfl ?_
    refine SafeOps.skip (congrArg (fun b => some (!b)) hc2615) rfl rfl ?_
    refine SafeOps.quiet0 E_good rfl rfl rfl (v := V.bool true) (.pickK rfl hc2615 rfl) ?_
    exact SafeOps.drop' 5 rfl rfl rfl K
  · skip
    refine SafeOps.quiet0 E_good (congrArg (fun b => some (!b)) hc2615) rfl rfl (v := V.int .i64 a1_1348) (.fn rfl) ?_
    refine SafeOps.quiet0 E_good (congrArg (fun b => some (!b)) hc2615) rfl rfl (v := V.sl 1 (rws (fun l => [V.sl 3 (rws api_Instr.cells l)]) a0_1347)) (.fn rfl) ?_
    refine SafeOps.quiet0 E_good (congrArg (fun b => some (!b)) hc2615) rfl rfl (v := V.int .i64 (a0_1347.length : Int)) (.fnE rfl lenE) ?_
    refine SafeOps.quiet0 E_good (congrArg (fun b => some (!b)) hc2615) rfl rfl (v := V.bool (decide (a1_1348 ≥ (a0_1347.length : Int)))) (.fn rfl) ?_
    refine SafeOps.quiet0 E_good rfl rfl rfl (v := V.bool (decide (a1_1348 ≥ (a0_1347.length : Int)))) (.pickK rfl hc2615 rfl) ?_
    exact SafeOps.drop' 5 rfl rfl rfl K
  refine SafeOps.nil ?_
  repeat (first | refine Safe.seq ?_ | refine Safe.skip ?_ | with_reducible refine thenQ.n ?_ | with_reducible refine blockQ.n ?_)
  refine ifG h (fun hc2616 h => ?_) (fun hc2616 h => ?_)
  · skip
    refine Safe.condK rfl hc2616 ?_
    repeat (first | refine Safe.seq ?_ | refine Safe.skip ?_ | with_reducible refine thenQ.n ?_ | with_reducible refine blockQ.n ?_)
    refine Safe.region ?_
    refine SafeOps.quiet0 E_good rfl rfl rfl (v := V.int .i64 0) (.fn rfl) ?_
    refine SafeOps.quiet0 E_good rfl rfl rfl (v := V.int .i64 1) (.fn rfl) ?_
    refine SafeOps.nil ?_
    repeat (first | refine Safe.seq ?_ | refine Safe.skip ?_ | with_reducible refine thenQ.n ?_ | with_reducible refine blockQ.n ?_)
    refine Safe.ret ?_
    repeat (first | with_reducible refine thenQ.r ?_ | with_reducible refine blockQ.r ?_)
    obtain rfl := Option.some.inj h
    exact retQ.gen (vs := [V.int .i64 0, V.int .i64 1]) rfl (.tmp (v := V.int .i64 0) rfl (.tmp (v := V.int .i64 1) rfl .nil)) (.free rfl) (by simp) (.inr rfl)
  · skip
    refine Safe.condN rfl hc2616 ?_
    repeat (first | refine Safe.seq ?_ | refine Safe.skip ?_ | with_reducible refine thenQ.n ?_ | with_reducible refine blockQ.n ?_)
    refine Safe.region ?_
    refine SafeOps.quiet0 E_good rfl rfl rfl (v := V.sl 1 (rws (fun l => [V.sl 3 (rws api_Instr.cells l)]) a0_1347)) (.fn rfl) ?_
    refine bindG h ?_
    intro x_2617 he2618 h
    refine SafeOps.quiet E_good rfl rfl rfl (v := V.ref [21, 0] 0 (rws (fun n => [V.int .i64 n]) x_2617).length) (.callP rfl rfl (go_ravelref04_table_sc a0_1347 _ he2618) rfl) rfl ?_
    refine SafeOps.quiet0 E_good rfl rfl rfl (v := V.int .i64 a1_1348) (.fn rfl) ?_
    refine okG h (fun hb2619 h => ?_)
    refine SafeOps.quiet0 E_good rfl rfl rfl (v := V.ptr [21, 0] (0 + Int.toNat a1_1348) 0) (.idxRefM (f := (fun n => [V.int .i64 n])) (xs := x_2617) rfl rfl rfl rfl rfl rfl hb2619) ?_
    refine SafeOps.quiet0 E_good rfl rfl rfl (v := V.int .i64 (gt x_2617 a1_1348)) (.load rfl rfl (.rowsM (f := (fun n => [V.int .i64 n])) (xs := x_2617) hb2619 rfl rfl) rfl) ?_
    refine SafeOps.quiet0 E_good rfl rfl rfl (v := V.int .i64 (gt x_2617 a1_1348)) (.fn rfl) ?_
    refine SafeOps.nil ?_
    repeat (first | refine Safe.seq ?_ | refine Safe.skip ?_ | with_reducible refine thenQ.n ?_ | with_reducible refine blockQ.n ?_)
    refine Safe.region ?_
    refine SafeOps.quiet0 E_good rfl rfl rfl (v := V.int .i64 (gt x_2617 a1_1348)) (.fn rfl) ?_
    refine SafeOps.quiet0 E_good rfl rfl rfl (v := V.bool ((gt x_2617 a1_1348) == 0)) (.fn rfl) ?_
    refine SafeOps.nil ?_
    repeat (first | refine Safe.seq ?_ | refine Safe.skip ?_ | with_reducible refine thenQ.n ?_ | with_reducible refine blockQ.n ?_)
    refine ifG h (fun hc2620 h => ?_) (fun hc2620 h => ?_)
    · skip
      refine Safe.condK rfl hc2620 ?_
      repeat (first | refine Safe.seq ?_ | refine Safe.skip ?_ | with_reducible refine thenQ.n ?_ | with_reducible refine blockQ.n ?_)
      refine Safe.region ?_
      refine SafeOps.quiet0 E_good rfl rfl rfl (v := V.int .i64 0) (.fn rfl) ?_
      refine SafeOps.quiet0 E_good rfl rfl rfl (v := V.int .i64 9) (.fn rfl) ?_
      refine SafeOps.nil ?_
      repeat (first | refine Safe.seq ?_ | refine Safe.skip ?_ | with_reducible refine thenQ.n ?_ | with_reducible refine blockQ.n ?_)
      refine Safe.ret ?_
      repeat (first | with_reducible refine thenQ.r ?_ | with_reducible refine blockQ.r ?_)
      obtain rfl := Option.some.inj h
      exact retQ.gen (vs := [V.int .i64 0, V.int .i64 9]) rfl (.tmp (v := V.int .i64 0) rfl (.tmp (v := V.int .i64 9) rfl .nil)) (.free rfl) (by simp) (.inr rfl)
    · skip
      refine Safe.condN rfl hc2620 ?_
      repeat (first | refine Safe.seq ?_ | refine Safe.skip ?_ | with_reducible refine thenQ.n ?_ | with_reducible refine blockQ.n ?_)
      refine Safe.region ?_
      refine SafeOps.quiet0 E_good rfl rfl rfl (v := V.int .i64 (gt x_2617 a1_1348)) (.fn rfl) ?_
      refine SafeOps.quiet0 E_good rfl rfl rfl (v := V.bool (decide ((gt x_2617 a1_1348) > 1099511627776))) (.fn rfl) ?_
      refine SafeOps.nil ?_
      repeat (first | refine Safe.seq ?_ | refine Safe.skip ?_ | with_reducible refine thenQ.n ?_ | with_reducible refine blockQ.n ?_)
      refine ifG h (fun hc2621 h => ?_) (fun hc2621 h => ?_)
      · skip
        refine Safe.condK rfl hc2621 ?_
        repeat (first | refine Safe.seq ?_ | refine Safe.skip ?_ | with_reducible refine thenQ.n ?_ | with_reducible refine blockQ.n ?_)
        refine Safe.region ?_
        refine SafeOps.quiet0 E_good rfl rfl rfl (v := V.int .i64 0) (.fn rfl) ?_
        refine SafeOps.quiet0 E_good rfl rfl rfl (v := V.int .i64 4) (.fn rfl) ?_
        refine SafeOps.nil ?_
        repeat (first | refine Safe.seq ?_ | refine Safe.skip ?_ | with_reducible refine thenQ.n ?_ | with_reducible refine blockQ.n ?_)
        refine Safe.ret ?_
        repeat (first | with_reducible refine thenQ.r ?_ | with_reducible refine blockQ.r ?_)
        obtain rfl := Option.some.inj h
        exact retQ.gen (vs := [V.int .i64 0, V.int .i64 4]) rfl (.tmp (v := V.int .i64 0) rfl (.tmp (v := V.int .i64 4) rfl .nil)) (.free rfl) (by simp) (.inr rfl)
      · skip
        refine Safe.condN rfl hc2621 ?_
        repeat (first | refine Safe.seq ?_ | refine Safe.skip ?_ | with_reducible refine thenQ.n ?_ | with_reducible refine blockQ.n ?_)
        refine Safe.region ?_
        refine SafeOps.quiet0 E_good rfl rfl rfl (v := V.int .i64 (gt x_2617 a1_1348)) (.fn rfl) ?_
        refine SafeOps.quiet0 E_good rfl rfl rfl (v := V.int .i64 (gt x_2617 a1_1348)) (.fn rfl) ?_
        refine SafeOps.quiet0 E_good rfl rfl rfl (v := V.int .i64 0) (.fn rfl) ?_
        refine SafeOps.nil ?_
        repeat (first | refine Safe.seq ?_ | refine Safe.skip ?_ | with_reducible refine thenQ.n ?_ | with_reducible refine blockQ.n ?_)
        refine Safe.ret ?_
        repeat (first | with_reducible refine thenQ.r ?_ | with_reducible refine blockQ.r ?_)
        obtain rfl := Option.some.inj h
        exact retQ.gen (vs := [V.int .i64 (gt x_2617 a1_1348), V.int .i64 0]) rfl (.tmp (v := V.int .i64 (gt x_2617 a1_1348)) rfl (.tmp (v := V.int .i64 0) rfl .nil)) (.free rfl) (by simp) (.inr rfl)

theorem okT31 : (eqOk Try.prog E 20 31 && !Try.prog.eqGuardType Try.prog.depth 31) = true := by kernel_rfl

noncomputable def go_slices_Equal_api_Instr_api_Instr_s1 (a0_2645 : List api_Instr) (a1_2646 : List api_Instr) : (Int) → Option ((Int) ⊕ (Bool))
  | v13_2675 =>
    if (decide (v13_2675 < (a0_2645.length : Int))) = true then
      if 0 ≤ v13_2675 ∧ v13_2675 < (a0_2645.length : Int) then
        if 0 ≤ v13_2675 ∧ v13_2675 < (a1_2646.length : Int) then
          if (!(api_Instr.beq (gt a0_2645 v13_2675) (gt a1_2646 v13_2675))) = true then
            inrO (
              some false)
          else
            nextO (IntKind.i64.wrap (v13_2675 + 1))
        else none
      else none
    else
      inrO (
        some true)

noncomputable def go_slices_Equal_api_Instr_api_Instr (a0_2645 : List api_Instr) (a1_2646 : List api_Instr) : Option Bool :=
  if ((a0_2645.length : Int) != (a1_2646.length : Int)) = true then
    some false
  else
    whileO (go_slices_Equal_api_Instr_api_Instr_s1 a0_2645 a1_2646) 0

theorem go_slices_Equal_api_Instr_api_Instr_sc (a0_2645 : List api_Instr) (a1_2646 : List api_Instr) (r : Bool) (h : go_slices_Equal_api_Instr_api_Instr a0_2645 a1_2646 = some r) : SC Try.prog gl 36 [V.sl 3 (rws api_Instr.cells a0_2645), V.sl 3 (rws api_Instr.cells a1_2646)] (V.bool r) := by
  rw [go_slices_Equal_api_Instr_api_Instr] at h
  refine SC.of E_good Try.func36 rfl (fun _ _ => Try.call36 _ _) rfl ?_
  repeat (first | refine Safe.seq ?_ | refine Safe.skip ?_ | with_reducible refine thenQ.n ?_ | with_reducible refine blockQ.n ?_)
  refine Safe.region ?_
  refine SafeOps.quiet0 E_good rfl rfl rfl (v := V.bool false) (.fn rfl) ?_
  refine SafeOps.nil ?_
  repeat (first | refine Safe.seq ?_ | refine Safe.skip ?_ | with_reducible refine thenQ.n ?_ | with_reducible refine blockQ.n ?_)
  refine Safe.region ?_
  refine SafeOps.quiet0 E_good rfl rfl rfl (v := V.sl 3 (rws api_Instr.cells a0_2645)) (.fn rfl) ?_
  refine SafeOps.quiet0 E_good rfl rfl rfl (v := V.int .i64 (a0_2645.length : Int)) (.fnE rfl lenE) ?_
  refine SafeOps.quiet0 E_good rfl rfl rfl (v := V.sl 3 (rws api_Instr.cells a1_2646)) (.fn rfl) ?_
  refine SafeOps.quiet0 E_good rfl rfl rfl (v := V.int .i64 (a1_2646.length : Int)) (.fnE rfl lenE) ?_
  refine SafeOps.quiet0 E_good rfl rfl rfl (v := V.bool ((a0_2645.length : Int) != (a1_2646.length : Int))) (.fn rfl) ?_
  refine SafeOps.nil ?_
  repeat (first | refine Safe.seq ?_ | refine Safe.skip ?_ | with_reducible refine thenQ.n ?_ | with_reducible refine blockQ.n ?_)
  refine ifG h (fun hc2665 h => ?_) (fun hc2665 h => ?_)
  · skip
    refine Safe.condK rfl hc2665 ?_
    repeat (first | refine Safe.seq ?_ | refine Safe.skip ?_ | with_reducible refine thenQ.n ?_ | with_reducible refine blockQ.n ?_)
    refine Safe.region ?_
    refine SafeOps.quiet0 E_good rfl rfl rfl (v := V.bool false) (.fn rfl) ?_
    refine SafeOps.nil ?_
    repeat (first | refine Safe.seq ?_ | refine Safe.skip ?_ | with_reducible refine thenQ.n ?_ | with_reducible refine blockQ.n ?_)
    refine Safe.ret ?_
    repeat (first | with_reducible refine thenQ.r ?_ | with_reducible refine blockQ.r ?_)
    obtain rfl := Option.some.inj h
    exact retQ.gen (vs := [V.bool false]) rfl (.tmp (v := V.bool false) rfl .nil) (.free rfl) (by simp) (.inr rfl)
  · skip
    refine Safe.condN rfl hc2665 ?_
    repeat (first | refine Safe.seq ?_ | refine Safe.skip ?_ | with_reducible refine thenQ.n ?_ | with_reducible refine blockQ.n ?_)
    refine Safe.region ?_
    refine SafeOps.quiet0 E_good rfl rfl rfl (v := V.sl 3 (rws api_Instr.cells a0_2645)) (.fn rfl) ?_
    refine SafeOps.quiet0 E_good rfl rfl rfl (v := V.int .i64 (a0_2645.length : Int)) (.fnE rfl lenE) ?_
    refine SafeOps.quiet0 E_good rfl rfl rfl (v := V.int .i64 0) (.fn rfl) ?_
    refine SafeOps.nil ?_
    repeat (first | refine Safe.seq ?_ | refine Safe.skip ?_ | with_reducible refine thenQ.n ?_ | with_reducible refine blockQ.n ?_)
    refine Safe.block ?_
    repeat (first | refine Safe.seq ?_ | refine Safe.skip ?_ | with_reducible refine thenQ.n ?_ | with_reducible refine blockQ.n ?_)
    refine Safe.loopW (fun (v13_2675 : Int) => ⟨Try.f36.ntmps, [(0, V.sl 3 (rws api_Instr.cells a0_2645)), (1, V.sl 3 (rws api_Instr.cells a1_2646)), (12, V.int .i64 (a0_2645.length : Int)), (13, V.int .i64 v13_2675)], [], [], []⟩) h (.cov ⟨rfl, rfl, (upT_cons (.refl _) (upT_cons (.refl _) (upT_cons (.refl _) (upT_cons (.refl _) upT_nil)))), upOb_nil, upOut_nil, rfl⟩) ?_
    intro v13_2675 ohr2676 h hr2676
    replace h : go_slices_Equal_api_Instr_api_Instr_s1 a0_2645 a1_2646 v13_2675 = some ohr2676 := h
    rw [go_slices_Equal_api_Instr_api_Instr_s1] at h
    repeat (first | refine Safe.seq ?_ | refine Safe.skip ?_ | with_reducible refine thenQ.n ?_ | with_reducible refine blockQ.n ?_)
    refine Safe.region ?_
    refine SafeOps.quiet0 E_good rfl rfl rfl (v := V.bool (decide (v13_2675 < (a0_2645.length : Int)))) (.fn rfl) ?_
    refine SafeOps.nil ?_
    repeat (first | refine Safe.seq ?_ | refine Safe.skip ?_ | with_reducible refine thenQ.n ?_ | with_reducible refine blockQ.n ?_)
    refine ifG h (fun hc2677 h => ?_) (fun hc2677 h => ?_)
    · skip
      refine Safe.condK rfl hc2677 ?_
      repeat (first | refine Safe.seq ?_ | refine Safe.skip ?_ | with_reducible refine thenQ.n ?_ | with_reducible refine blockQ.n ?_)
      refine Safe.block ?_
      repeat (first | refine Safe.seq ?_ | refine Safe.skip ?_ | with_reducible refine thenQ.n ?_ | with_reducible refine blockQ.n ?_)
      refine Safe.region ?_
      refine SafeOps.quiet0 E_good rfl rfl rfl (v := V.int .i64 v13_2675) (.fn rfl) ?_
      refine SafeOps.quiet0 E_good rfl rfl rfl (v := V.int .i64 v13_2675) (.fn rfl) ?_
      refine SafeOps.nil ?_
      repeat (first | refine Safe.seq ?_ | refine Safe.skip ?_ | with_reducible refine thenQ.n ?_ | with_reducible refine blockQ.n ?_)
      refine Safe.regionD (n := 9) [] [] E_good mixed rfl ?_
      refine DAny.take (i := 0) rfl (by kernel_rfl) [] (by kernel_rfl) (by kernel_rfl) (by kernel_rfl) rfl rfl rfl (v := V.sl 3 (rws api_Instr.cells a0_2645)) (fun _ hz => (.fn rfl)) ?_
      refine DAny.take (i := 1) rfl (by kernel_rfl) [] (by kernel_rfl) (by kernel_rfl) (by kernel_rfl) rfl rfl rfl (v := V.int .i64 v13_2675) (fun _ hz => (.fn rfl)) ?_
      refine okG h (fun hb2678 h => ?_)
      refine DAny.take (i := 2) rfl (by kernel_rfl) [] (by kernel_rfl) (by kernel_rfl) (by kernel_rfl) rfl rfl rfl (v := V.spt 3 (rws api_Instr.cells a0_2645) (Int.toNat v13_2675) 0) (fun _ hz => (.idxSlM (f := api_Instr.cells) rfl rfl rfl rfl rfl hb2678)) ?_
      refine DAny.take (i := 3) rfl (by kernel_rfl) [] (by kernel_rfl) (by kernel_rfl) (by kernel_rfl) rfl rfl rfl (v := V.agg [V.int .i64 ((gt a0_2645 v13_2675).Op), V.int .i64 ((gt a0_2645 v13_2675).A), V.int .i64 ((gt a0_2645 v13_2675).B)]) (fun _ hz => (.load rfl rfl (.sptM (f := api_Instr.cells) hb2678 rfl) rfl)) ?_
      refine DAny.take (i := 4) rfl (by kernel_rfl) [] (by kernel_rfl) (by kernel_rfl) (by kernel_rfl) rfl rfl rfl (v := V.sl 3 (rws api_Instr.cells a1_2646)) (fun _ hz => (.fn rfl)) ?_
      refine DAny.take (i := 5) rfl (by kernel_rfl) [] (by kernel_rfl) (by kernel_rfl) (by kernel_rfl) rfl rfl rfl (v := V.int .i64 v13_2675) (fun _ hz => (.fn rfl)) ?_
      refine okG h (fun hb2679 h => ?_)
      refine DAny.take (i := 6) rfl (by kernel_rfl) [] (by kernel_rfl) (by kernel_rfl) (by kernel_rfl) rfl rfl rfl (v := V.spt 3 (rws api_Instr.cells a1_2646) (Int.toNat v13_2675) 0) (fun _ hz => (.idxSlM (f := api_Instr.cells) rfl rfl rfl rfl rfl hb2679)) ?_
      refine DAny.take (i := 7) rfl (by kernel_rfl) [] (by kernel_rfl) (by kernel_rfl) (by kernel_rfl) rfl rfl rfl (v := V.agg [V.int .i64 ((gt a1_2646 v13_2675).Op), V.int .i64 ((gt a1_2646 v13_2675).A), V.int .i64 ((gt a1_2646 v13_2675).B)]) (fun _ hz => (.load rfl rfl (.sptM (f := api_Instr.cells) hb2679 rfl) rfl)) ?_
      refine DAny.take (i := 8) rfl (by kernel_rfl) [] (by kernel_rfl) (by kernel_rfl) (by kernel_rfl) rfl rfl rfl (v := V.bool (!(api_Instr.beq (gt a0_2645 v13_2675) (gt a1_2646 v13_2675)))) (fun _ hz => (.neA rfl rfl rfl rfl okT31 rfl)) ?_
      refine DAny.nil (by kernel_rfl) ?_
      repeat (first | refine Safe.seq ?_ | refine Safe.skip ?_ | with_reducible refine thenQ.n ?_ | with_reducible refine blockQ.n ?_)
      refine ifG h (fun hc2680 h => ?_) (fun hc2680 h => ?_)
      · skip
        refine Safe.condK rfl hc2680 ?_
        repeat (first | refine Safe.seq ?_ | refine Safe.skip ?_ | with_reducible refine thenQ.n ?_ | with_reducible refine blockQ.n ?_)
        refine Safe.region ?_
        refine SafeOps.quiet0 E_good rfl rfl rfl (v := V.bool false) (.fn rfl) ?_
        refine SafeOps.nil ?_
        repeat (first | refine Safe.seq ?_ | refine Safe.skip ?_ | with_reducible refine thenQ.n ?_ | with_reducible refine blockQ.n ?_)
        refine Safe.ret ?_
        repeat (first | with_reducible refine thenQ.r ?_ | with_reducible refine blockQ.r ?_)
        replace h := inr_out h hr2676
        obtain rfl := Option.some.inj h
        exact retQ.gen (vs := [V.bool false]) rfl (.tmp (v := V.bool false) rfl .nil) (.free rfl) (by simp) (.inr rfl)
      · skip
        refine Safe.condN rfl hc2680 ?_
        repeat (first | refine Safe.seq ?_ | refine Safe.skip ?_ | with_reducible refine thenQ.n ?_ | with_reducible refine blockQ.n ?_)
        refine Safe.region ?_
        refine SafeOps.quiet0 E_good rfl rfl rfl (v := V.int .i64 (IntKind.i64.wrap (v13_2675 + 1))) (.fn rfl) ?_
        refine SafeOps.quiet0 E_good rfl rfl rfl (v := V.int .i64 (IntKind.i64.wrap (v13_2675 + 1))) (.fn rfl) ?_
        refine SafeOps.nil ?_
        repeat (first | refine Safe.seq ?_ | refine Safe.skip ?_ | with_reducible refine thenQ.n ?_ | with_reducible refine blockQ.n ?_)
        exact ⟨_, next_out h, (.cov ⟨rfl, rfl, (upT_cons (.refl _) (upT_cons (.refl _) (upT_cons (.refl _) (upT_cons (.refl _) upT_nil)))), upOb_nil, upOut_nil, rfl⟩)⟩
    · skip
      refine Safe.condN rfl hc2677 ?_
      repeat (first | refine Safe.seq ?_ | refine Safe.skip ?_ | with_reducible refine thenQ.n ?_ | with_reducible refine blockQ.n ?_)
      refine Safe.exit ?_
      repeat (first | with_reducible refine thenQ.e ?_ | with_reducible refine blockQ.x rfl ?_ | with_reducible refine blockQ.y rfl ?_)
      replace h := inr_out h hr2676
      repeat (first | refine Safe.seq ?_ | refine Safe.skip ?_ | with_reducible refine thenQ.n ?_ | with_reducible refine blockQ.n ?_)
      refine Safe.region ?_
      refine SafeOps.quiet0 E_good rfl rfl rfl (v := V.bool true) (.fn rfl) ?_
      refine SafeOps.nil ?_
      repeat (first | refine Safe.seq ?_ | refine Safe.skip ?_ | with_reducible refine thenQ.n ?_ | with_reducible refine blockQ.n ?_)
      refine Safe.ret ?_
      repeat (first | with_reducible refine thenQ.r ?_ | with_reducible refine blockQ.r ?_)
      obtain rfl := Option.some.inj h
      exact retQ.gen (vs := [V.bool true]) rfl (.tmp (v := V.bool true) rfl .nil) (.free rfl) (by simp) (.inr rfl)

noncomputable def go_slices_EqualFunc_api_Instr_api_Instr_api_Instr_api_Instr_Instr36_s1 (a0_2637 : List (List api_Instr)) (a1_2638 : List (List api_Instr)) : (Int) → Option ((Int) ⊕ (Bool))
  | v17_2713 =>
    if (decide (v17_2713 < (a0_2637.length : Int))) = true then
      if 0 ≤ v17_2713 ∧ v17_2713 < (a0_2637.length : Int) then
        if 0 ≤ v17_2713 ∧ v17_2713 < (a1_2638.length : Int) then
          (go_slices_Equal_api_Instr_api_Instr (gt a0_2637 v17_2713) (gt a1_2638 v17_2713)).bind fun x_2718 =>
          if (!x_2718) = true then
            inrO (
              some false)
          else
            nextO (IntKind.i64.wrap (v17_2713 + 1))
        else none
      else none
    else
      inrO (
        some true)

noncomputable def go_slices_EqualFunc_api_Instr_api_Instr_api_Instr_api_Instr_Instr36 (a0_2637 : List (List api_Instr)) (a1_2638 : List (List api_Instr)) : Option Bool :=
  if ((a0_2637.length : Int) != (a1_2638.length : Int)) = true then
    some false
  else
    whileO (go_slices_EqualFunc_api_Instr_api_Instr_api_Instr_api_Instr_Instr36_s1 a0_2637 a1_2638) 0

theorem go_slices_EqualFunc_api_Instr_api_Instr_api_Instr_api_Instr_Instr36_sc (a0_2637 : List (List api_Instr)) (a1_2638 : List (List api_Instr)) (r : Bool) (h : go_slices_EqualFunc_api_Instr_api_Instr_api_Instr_api_Instr_Instr36 a0_2637 a1_2638 = some r) : SC Try.prog gl 35 [V.sl 1 (rws (fun l => [V.sl 3 (rws api_Instr.cells l)]) a0_2637), V.sl 1 (rws (fun l => [V.sl 3 (rws api_Instr.cells l)]) a1_2638), V.fn 36 []] (V.bool r) := by
  rw [go_slices_EqualFunc_api_Instr_api_Instr_api_Instr_api_Instr_Instr36] at h
  refine SC.of E_good Try.func35 rfl (fun _ _ => Try.call35 _ _) rfl ?_
  repeat (first | refine Safe.seq ?_ | refine Safe.skip ?_ | with_reducible refine thenQ.n ?_ | with_reducible refine blockQ.n ?_)
  refine Safe.region ?_
  refine SafeOps.quiet0 E_good rfl rfl rfl (v := V.bool false) (.fn rfl) ?_
  refine SafeOps.nil ?_
  repeat (first | refine Safe.seq ?_ | refine Safe.skip ?_ | with_reducible refine thenQ.n ?_ | with_reducible refine blockQ.n ?_)
  refine Safe.region ?_
  refine SafeOps.quiet0 E_good rfl rfl rfl (v := V.sl 1 (rws (fun l => [V.sl 3 (rws api_Instr.cells l)]) a0_2637)) (.fn rfl) ?_
  refine SafeOps.quiet0 E_good rfl rfl rfl (v := V.int .i64 (a0_2637.length : Int)) (.fnE rfl lenE) ?_
  refine SafeOps.quiet0 E_good rfl rfl rfl (v := V.sl 1 (rws (fun l => [V.sl 3 (rws api_Instr.cells l)]) a1_2638)) (.fn rfl) ?_
  refine SafeOps.quiet0 E_good rfl rfl rfl (v := V.int .i64 (a1_2638.length : Int)) (.fnE rfl lenE) ?_
  refine SafeOps.quiet0 E_good rfl rfl rfl (v := V.bool ((a0_2637.length : Int) != (a1_2638.length : Int))) (.fn rfl) ?_
  refine SafeOps.nil ?_
  repeat (first | refine Safe.seq ?_ | refine Safe.skip ?_ | with_reducible refine thenQ.n ?_ | with_reducible refine blockQ.n ?_)
  refine ifG h (fun hc2699 h => ?_) (fun hc2699 h => ?_)
  · skip
    refine Safe.condK rfl hc2699 ?_
    repeat (first | refine Safe.seq ?_ | refine Safe.skip ?_ | with_reducible refine thenQ.n ?_ | with_reducible refine blockQ.n ?_)
    refine Safe.region ?_
    refine SafeOps.quiet0 E_good rfl rfl rfl (v := V.bool false) (.fn rfl) ?_
    refine SafeOps.nil ?_
    repeat (first | refine Safe.seq ?_ | refine Safe.skip ?_ | with_reducible refine thenQ.n ?_ | with_reducible refine blockQ.n ?_)
    refine Safe.ret ?_
    repeat (first | with_reducible refine thenQ.r ?_ | with_reducible refine blockQ.r ?_)
    obtain rfl := Option.some.inj h
    exact retQ.gen (vs := [V.bool false]) rfl (.tmp (v := V.bool false) rfl .nil) (.free rfl) (by simp) (.inr rfl)
  · skip
    refine Safe.condN rfl hc2699 ?_
    repeat (first | refine Safe.seq ?_ | refine Safe.skip ?_ | with_reducible refine thenQ.n ?_ | with_reducible refine blockQ.n ?_)
    refine Safe.region ?_
    refine SafeOps.quiet0 E_good rfl rfl rfl (v := V.sl 1 (rws (fun l => [V.sl 3 (rws api_Instr.cells l)]) a0_2637)) (.fn rfl) ?_
    refine SafeOps.quiet0 E_good rfl rfl rfl (v := V.int .i64 (a0_2637.length : Int)) (.fnE rfl lenE) ?_
    refine SafeOps.quiet0 E_good rfl rfl rfl (v := V.int .i64 0) (.fn rfl) ?_
    refine SafeOps.nil ?_
    repeat (first | refine Safe.seq ?_ | refine Safe.skip ?_ | with_reducible refine thenQ.n ?_ | with_reducible refine blockQ.n ?_)
    refine Safe.block ?_
    repeat (first | refine Safe.seq ?_ | refine Safe.skip ?_ | with_reducible refine thenQ.n ?_ | with_reducible refine blockQ.n ?_)
    refine Safe.loopW (fun (v17_2713 : Int) => ⟨Try.f35.ntmps, [(1, V.sl 1 (rws (fun l => [V.sl 3 (rws api_Instr.cells l)]) a1_2638)), (2, V.fn 36 []), (15, V.sl 1 (rws (fun l => [V.sl 3 (rws api_Instr.cells l)]) a0_2637)), (16, V.int .i64 (a0_2637.length : Int)), (17, V.int .i64 v17_2713)], [], [], []⟩) h (.cov ⟨rfl, rfl, (upT_cons (.refl _) (upT_cons (.refl _) (upT_cons (.refl _) (upT_cons (.refl _) (upT_cons (.refl _) upT_nil))))), upOb_nil, upOut_nil, rfl⟩) ?_
    intro v17_2713 ohr2714 h hr2714
    replace h : go_slices_EqualFunc_api_Instr_api_Instr_api_Instr_api_Instr_Instr36_s1 a0_2637 a1_2638 v17_2713 = some ohr2714 := h
    rw [go_slices_EqualFunc_api_Instr_api_Instr_api_Instr_api_Instr_Instr36_s1] at h
    repeat (first | refine Safe.seq ?_ | refine Safe.skip ?_ | with_reducible refine thenQ.n ?_ | with_reducible refine blockQ.n ?_)
    refine Safe.region ?_
    refine SafeOps.quiet0 E_good rfl rfl rfl (v := V.bool (decide (v17_2713 < (a0_2637.length : Int)))) (.fn rfl) ?_
    refine SafeOps.nil ?_
    repeat (first | refine Safe.seq ?_ | refine Safe.skip ?_ | with_reducible refine thenQ.n ?_ | with_reducible refine blockQ.n ?_)
    refine ifG h (fun hc2715 h => ?_) (fun hc2715 h => ?_)
    · skip
      refine Safe.condK rfl hc2715 ?_
      repeat (first | refine Safe.seq ?_ | refine Safe.skip ?_ | with_reducible refine thenQ.n ?_ | with_reducible refine blockQ.n ?_)
      refine Safe.block ?_
      repeat (first | refine Safe.seq ?_ | refine Safe.skip ?_ | with_reducible refine thenQ.n ?_ | with_reducible refine blockQ.n ?_)
      refine Safe.region ?_
      refine SafeOps.quiet0 E_good rfl rfl rfl (v := V.int .i64 v17_2713) (.fn rfl) ?_
      refine okG h (fun hb2716 h => ?_)
      refine SafeOps.quiet0 E_good rfl rfl rfl (v := V.spt 1 (rws (fun l => [V.sl 3 (rws api_Instr.cells l)]) a0_2637) (Int.toNat v17_2713) 0) (.idxSlM (f := (fun l => [V.sl 3 (rws api_Instr.cells l)])) rfl rfl rfl rfl rfl hb2716) ?_
      refine SafeOps.quiet0 E_good rfl rfl rfl (v := V.sl 3 (rws api_Instr.cells (gt a0_2637 v17_2713))) (.load rfl rfl (.sptM (f := (fun l => [V.sl 3 (rws api_Instr.cells l)])) hb2716 rfl) rfl) ?_
      refine SafeOps.quiet0 E_good rfl rfl rfl (v := V.int .i64 v17_2713) (.fn rfl) ?_
      refine SafeOps.quiet0 E_good rfl rfl rfl (v := V.sl 3 (rws api_Instr.cells (gt a0_2637 v17_2713))) (.fn rfl) ?_
      refine SafeOps.nil ?_
      repeat (first | refine Safe.seq ?_ | refine Safe.skip ?_ | with_reducible refine thenQ.n ?_ | with_reducible refine blockQ.n ?_)
      refine Safe.region ?_
      refine SafeOps.quiet0 E_good rfl rfl rfl (v := V.sl 1 (rws (fun l => [V.sl 3 (rws api_Instr.cells l)]) a1_2638)) (.fn rfl) ?_
      refine SafeOps.quiet0 E_good rfl rfl rfl (v := V.int .i64 v17_2713) (.fn rfl) ?_
      refine okG h (fun hb2717 h => ?_)
      refine SafeOps.quiet0 E_good rfl rfl rfl (v := V.spt 1 (rws (fun l => [V.sl 3 (rws api_Instr.cells l)]) a1_2638) (Int.toNat v17_2713) 0) (.idxSlM (f := (fun l => [V.sl 3 (rws api_Instr.cells l)])) rfl rfl rfl rfl rfl hb2717) ?_
      refine SafeOps.quiet0 E_good rfl rfl rfl (v := V.sl 3 (rws api_Instr.cells (gt a1_2638 v17_2713))) (.load rfl rfl (.sptM (f := (fun l => [V.sl 3 (rws api_Instr.cells l)])) hb2717 rfl) rfl) ?_
      refine SafeOps.quiet0 E_good rfl rfl rfl (v := V.sl 3 (rws api_Instr.cells (gt a1_2638 v17_2713))) (.fn rfl) ?_
      refine SafeOps.nil ?_
      repeat (first | refine Safe.seq ?_ | refine Safe.skip ?_ | with_reducible refine thenQ.n ?_ | with_reducible refine blockQ.n ?_)
      refine Safe.region ?_
      refine SafeOps.quiet0 E_good rfl rfl rfl (v := V.fn 36 []) (.fn rfl) ?_
      refine SafeOps.quiet0 E_good rfl rfl rfl (v := V.sl 3 (rws api_Instr.cells (gt a0_2637 v17_2713))) (.fn rfl) ?_
      refine SafeOps.quiet0 E_good rfl rfl rfl (v := V.sl 3 (rws api_Instr.cells (gt a1_2638 v17_2713))) (.fn rfl) ?_
      refine bindG h ?_
      intro x_2718 he2719 h
      refine SafeOps.quiet0 E_good rfl rfl rfl (v := V.bool x_2718) (.callP rfl rfl (go_slices_Equal_api_Instr_api_Instr_sc (gt a0_2637 v17_2713) (gt a1_2638 v17_2713) _ he2719) rfl) ?_
      refine SafeOps.quiet0 E_good rfl rfl rfl (v := V.bool (!x_2718)) (.fn rfl) ?_
      refine SafeOps.nil ?_
      repeat (first | refine Safe.seq ?_ | refine Safe.skip ?_ | with_reducible refine thenQ.n ?_ | with_reducible refine blockQ.n ?_)
      refine ifG h (fun hc2720 h => ?_) (fun hc2720 h => ?_)
      · skip
        refine Safe.condK rfl hc2720 ?_
        repeat (first | refine Safe.seq ?_ | refine Safe.skip ?_ | with_reducible refine thenQ.n ?_ | with_reducible refine blockQ.n ?_)
        refine Safe.region ?_
        refine SafeOps.quiet0 E_good rfl rfl rfl (v := V.bool false) (.fn rfl) ?_
        refine SafeOps.nil ?_
        repeat (first | refine Safe.seq ?_ | refine Safe.skip ?_ | with_reducible refine thenQ.n ?_ | with_reducible refine blockQ.n ?_)
        refine Safe.ret ?_
        repeat (first | with_reducible refine thenQ.r ?_ | with_reducible refine blockQ.r ?_)
        replace h := inr_out h hr2714
        obtain rfl := Option.some.inj h
        exact retQ.gen (vs := [V.bool false]) rfl (.tmp (v := V.bool false) rfl .nil) (.free rfl) (by simp) (.inr rfl)
      · skip
        refine Safe.condN rfl hc2720 ?_
        repeat (first | refine Safe.seq ?_ | refine Safe.skip ?_ | with_reducible refine thenQ.n ?_ | with_reducible refine blockQ.n ?_)
        refine Safe.region ?_
        refine SafeOps.quiet0 E_good rfl rfl rfl (v := V.int .i64 (IntKind.i64.wrap (v17_2713 + 1))) (.fn rfl) ?_
        refine SafeOps.quiet0 E_good rfl rfl rfl (v := V.int .i64 (IntKind.i64.wrap (v17_2713 + 1))) (.fn rfl) ?_
        refine SafeOps.nil ?_
        repeat (first | refine Safe.seq ?_ | refine Safe.skip ?_ | with_reducible refine thenQ.n ?_ | with_reducible refine blockQ.n ?_)
        exact ⟨_, next_out h, (.cov ⟨rfl, rfl, (upT_cons (.refl _) (upT_cons (.refl _) (upT_cons (.refl _) (upT_cons (.refl _) (upT_cons (.refl _) upT_nil))))), upOb_nil, upOut_nil, rfl⟩)⟩
    · skip
      refine Safe.condN rfl hc2715 ?_
      repeat (first | refine Safe.seq ?_ | refine Safe.skip ?_ | with_reducible refine thenQ.n ?_ | with_reducible refine blockQ.n ?_)
      refine Safe.exit ?_
      repeat (first | with_reducible refine thenQ.e ?_ | with_reducible refine blockQ.x rfl ?_ | with_reducible refine blockQ.y rfl ?_)
      replace h := inr_out h hr2714
      repeat (first | refine Safe.seq ?_ | refine Safe.skip ?_ | with_reducible refine thenQ.n ?_ | with_reducible refine blockQ.n ?_)
      refine Safe.region ?_
      refine SafeOps.quiet0 E_good rfl rfl rfl (v := V.bool true) (.fn rfl) ?_
      refine SafeOps.nil ?_
      repeat (first | refine Safe.seq ?_ | refine Safe.skip ?_ | with_reducible refine thenQ.n ?_ | with_reducible refine blockQ.n ?_)
      refine Safe.ret ?_
      repeat (first | with_reducible refine thenQ.r ?_ | with_reducible refine blockQ.r ?_)
      obtain rfl := Option.some.inj h
      exact retQ.gen (vs := [V.bool true]) rfl (.tmp (v := V.bool true) rfl .nil) (.free rfl) (by simp) (.inr rfl)

noncomputable def go_code_Same (a0_2635 : List (List api_Instr)) (a1_2636 : List (List api_Instr)) : Option Bool :=
  (go_slices_EqualFunc_api_Instr_api_Instr_api_Instr_api_Instr_Instr36 a0_2635 a1_2636).bind fun x_2723 =>
  some x_2723

theorem go_code_Same_sc (a0_2635 : List (List api_Instr)) (a1_2636 : List (List api_Instr)) (r : Bool) (h : go_code_Same a0_2635 a1_2636 = some r) : SC Try.prog gl 20 [V.sl 1 (rws (fun l => [V.sl 3 (rws api_Instr.cells l)]) a0_2635), V.sl 1 (rws (fun l => [V.sl 3 (rws api_Instr.cells l)]) a1_2636)] (V.bool r) := by
  rw [go_code_Same] at h
  refine SC.of E_good Try.func20 rfl (fun _ _ => Try.call20 _ _) rfl ?_
  repeat (first | refine Safe.seq ?_ | refine Safe.skip ?_ | with_reducible refine thenQ.n ?_ | with_reducible refine blockQ.n ?_)
  refine Safe.region ?_
  refine SafeOps.quiet0 E_good rfl rfl rfl (v := V.bool false) (.fn rfl) ?_
  refine SafeOps.nil ?_
  repeat (first | refine Safe.seq ?_ | refine Safe.skip ?_ | with_reducible refine thenQ.n ?_ | with_reducible refine blockQ.n ?_)
  refine Safe.region ?_
  refine SafeOps.quiet0 E_good rfl rfl rfl (v := V.sl 1 (rws (fun l => [V.sl 3 (rws api_Instr.cells l)]) a0_2635)) (.fn rfl) ?_
  refine SafeOps.quiet0 E_good rfl rfl rfl (v := V.sl 1 (rws (fun l => [V.sl 3 (rws api_Instr.cells l)]) a1_2636)) (.fn rfl) ?_
  refine bindG h ?_
  intro x_2723 he2724 h
  refine SafeOps.quiet0 E_good rfl rfl rfl (v := V.bool x_2723) (.callP rfl rfl (go_slices_EqualFunc_api_Instr_api_Instr_api_Instr_api_Instr_Instr36_sc a0_2635 a1_2636 _ he2724) rfl) ?_
  refine SafeOps.quiet0 E_good rfl rfl rfl (v := V.bool x_2723) (.fn rfl) ?_
  refine SafeOps.nil ?_
  repeat (first | refine Safe.seq ?_ | refine Safe.skip ?_ | with_reducible refine thenQ.n ?_ | with_reducible refine blockQ.n ?_)
  refine Safe.ret ?_
  repeat (first | with_reducible refine thenQ.r ?_ | with_reducible refine blockQ.r ?_)
  obtain rfl := Option.some.inj h
  exact retQ.gen (vs := [V.bool x_2723]) rfl (.tmp (v := V.bool x_2723) rfl .nil) (.free rfl) (by simp) (.inr rfl)

noncomputable def go_ravelref04_SameOne_s1 (a0_2735 : List api_Instr) (a1_2736 : List api_Instr) : (Int) → Option ((Int) ⊕ (Bool))
  | v13_2765 =>
    if (decide (v13_2765 < (a0_2735.length : Int))) = true then
      if 0 ≤ v13_2765 ∧ v13_2765 < (a0_2735.length : Int) then
        if 0 ≤ v13_2765 ∧ v13_2765 < (a1_2736.length : Int) then
          if (!(api_Instr.beq (gt a0_2735 v13_2765) (gt a1_2736 v13_2765))) = true then
            inrO (
              some false)
          else
            nextO (IntKind.i64.wrap (v13_2765 + 1))
        else none
      else none
    else
      inrO (
        some true)

noncomputable def go_ravelref04_SameOne (a0_2735 : List api_Instr) (a1_2736 : List api_Instr) : Option Bool :=
  if ((a0_2735.length : Int) != (a1_2736.length : Int)) = true then
    some false
  else
    whileO (go_ravelref04_SameOne_s1 a0_2735 a1_2736) 0

theorem go_ravelref04_SameOne_sc (a0_2735 : List api_Instr) (a1_2736 : List api_Instr) (r : Bool) (h : go_ravelref04_SameOne a0_2735 a1_2736 = some r) : SC Try.prog gl 37 [V.sl 3 (rws api_Instr.cells a0_2735), V.sl 3 (rws api_Instr.cells a1_2736)] (V.bool r) := by
  rw [go_ravelref04_SameOne] at h
  refine SC.of E_good Try.func37 rfl (fun _ _ => Try.call37 _ _) rfl ?_
  repeat (first | refine Safe.seq ?_ | refine Safe.skip ?_ | with_reducible refine thenQ.n ?_ | with_reducible refine blockQ.n ?_)
  refine Safe.region ?_
  refine SafeOps.quiet0 E_good rfl rfl rfl (v := V.bool false) (.fn rfl) ?_
  refine SafeOps.nil ?_
  repeat (first | refine Safe.seq ?_ | refine Safe.skip ?_ | with_reducible refine thenQ.n ?_ | with_reducible refine blockQ.n ?_)
  refine Safe.region ?_
  refine SafeOps.quiet0 E_good rfl rfl rfl (v := V.sl 3 (rws api_Instr.cells a0_2735)) (.fn rfl) ?_
  refine SafeOps.quiet0 E_good rfl rfl rfl (v := V.int .i64 (a0_2735.length : Int)) (.fnE rfl lenE) ?_
  refine SafeOps.quiet0 E_good rfl rfl rfl (v := V.sl 3 (rws api_Instr.cells a1_2736)) (.fn rfl) ?_
  refine SafeOps.quiet0 E_good rfl rfl rfl (v := V.int .i64 (a1_2736.length : Int)) (.fnE rfl lenE) ?_
  refine SafeOps.quiet0 E_good rfl rfl rfl (v := V.bool ((a0_2735.length : Int) != (a1_2736.length : Int))) (.fn rfl) ?_
  refine SafeOps.nil ?_
  repeat (first | refine Safe.seq ?_ | refine Safe.skip ?_ | with_reducible refine thenQ.n ?_ | with_reducible refine blockQ.n ?_)
  refine ifG h (fun hc2755 h => ?_) (fun hc2755 h => ?_)
  · skip
    refine Safe.condK rfl hc2755 ?_
    repeat (first | refine Safe.seq ?_ | refine Safe.skip ?_ | with_reducible refine thenQ.n ?_ | with_reducible refine blockQ.n ?_)
    refine Safe.region ?_
    refine SafeOps.quiet0 E_good rfl rfl rfl (v := V.bool false) (.fn rfl) ?_
    refine SafeOps.nil ?_
    repeat (first | refine Safe.seq ?_ | refine Safe.skip ?_ | with_reducible refine thenQ.n ?_ | with_reducible refine blockQ.n ?_)
    refine Safe.ret ?_
    repeat (first | with_reducible refine thenQ.r ?_ | with_reducible refine blockQ.r ?_)
    obtain rfl := Option.some.inj h
    exact retQ.gen (vs := [V.bool false]) rfl (.tmp (v := V.bool false) rfl .nil) (.free rfl) (by simp) (.inr rfl)
  · skip
    refine Safe.condN rfl hc2755 ?_
    repeat (first | refine Safe.seq ?_ | refine Safe.skip ?_ | with_reducible refine thenQ.n ?_ | with_reducible refine blockQ.n ?_)
    refine Safe.region ?_
    refine SafeOps.quiet0 E_good rfl rfl rfl (v := V.sl 3 (rws api_Instr.cells a0_2735)) (.fn rfl) ?_
    refine SafeOps.quiet0 E_good rfl rfl rfl (v := V.int .i64 (a0_2735.length : Int)) (.fnE rfl lenE) ?_
    refine SafeOps.quiet0 E_good rfl rfl rfl (v := V.int .i64 0) (.fn rfl) ?_
    refine SafeOps.nil ?_
    repeat (first | refine Safe.seq ?_ | refine Safe.skip ?_ | with_reducible refine thenQ.n ?_ | with_reducible refine blockQ.n ?_)
    refine Safe.block ?_
    repeat (first | refine Safe.seq ?_ | refine Safe.skip ?_ | with_reducible refine thenQ.n ?_ | with_reducible refine blockQ.n ?_)
    refine Safe.loopW (fun (v13_2765 : Int) => ⟨Try.f37.ntmps, [(0, V.sl 3 (rws api_Instr.cells a0_2735)), (1, V.sl 3 (rws api_Instr.cells a1_2736)), (12, V.int .i64 (a0_2735.length : Int)), (13, V.int .i64 v13_2765)], [], [], []⟩) h (.cov ⟨rfl, rfl, (upT_cons (.refl _) (upT_cons (.refl _) (upT_cons (.refl _) (upT_cons (.refl _) upT_nil)))), upOb_nil, upOut_nil, rfl⟩) ?_
    intro v13_2765 ohr2766 h hr2766
    replace h : go_ravelref04_SameOne_s1 a0_2735 a1_2736 v13_2765 = some ohr2766 := h
    rw [go_ravelref04_SameOne_s1] at h
    repeat (first | refine Safe.seq ?_ | refine Safe.skip ?_ | with_reducible refine thenQ.n ?_ | with_reducible refine blockQ.n ?_)
    refine Safe.region ?_
    refine SafeOps.quiet0 E_good rfl rfl rfl (v := V.bool (decide (v13_2765 < (a0_2735.length : Int)))) (.fn rfl) ?_
    refine SafeOps.nil ?_
    repeat (first | refine Safe.seq ?_ | refine Safe.skip ?_ | with_reducible refine thenQ.n ?_ | with_reducible refine blockQ.n ?_)
    refine ifG h (fun hc2767 h => ?_) (fun hc2767 h => ?_)
    · skip
      refine Safe.condK rfl hc2767 ?_
      repeat (first | refine Safe.seq ?_ | refine Safe.skip ?_ | with_reducible refine thenQ.n ?_ | with_reducible refine blockQ.n ?_)
      refine Safe.block ?_
      repeat (first | refine Safe.seq ?_ | refine Safe.skip ?_ | with_reducible refine thenQ.n ?_ | with_reducible refine blockQ.n ?_)
      refine Safe.region ?_
      refine SafeOps.quiet0 E_good rfl rfl rfl (v := V.int .i64 v13_2765) (.fn rfl) ?_
      refine SafeOps.quiet0 E_good rfl rfl rfl (v := V.int .i64 v13_2765) (.fn rfl) ?_
      refine SafeOps.nil ?_
      repeat (first | refine Safe.seq ?_ | refine Safe.skip ?_ | with_reducible refine thenQ.n ?_ | with_reducible refine blockQ.n ?_)
      refine Safe.regionD (n := 9) [] [] E_good mixed rfl ?_
      refine DAny.take (i := 0) rfl (by kernel_rfl) [] (by kernel_rfl) (by kernel_rfl) (by kernel_rfl) rfl rfl rfl (v := V.sl 3 (rws api_Instr.cells a0_2735)) (fun _ hz => (.fn rfl)) ?_
      refine DAny.take (i := 1) rfl (by kernel_rfl) [] (by kernel_rfl) (by kernel_rfl) (by kernel_rfl) rfl rfl rfl (v := V.int .i64 v13_2765) (fun _ hz => (.fn rfl)) ?_
      refine okG h (fun hb2768 h => ?_)
      refine DAny.take (i := 2) rfl (by kernel_rfl) [] (by kernel_rfl) (by kernel_rfl) (by kernel_rfl) rfl rfl rfl (v := V.spt 3 (rws api_Instr.cells a0_2735) (Int.toNat v13_2765) 0) (fun _ hz => (.idxSlM (f := api_Instr.cells) rfl rfl rfl rfl rfl hb2768)) ?_
      refine DAny.take (i := 3) rfl (by kernel_rfl) [] (by kernel_rfl) (by kernel_rfl) (by kernel_rfl) rfl rfl rfl (v := V.agg [V.int .i64 ((gt a0_2735 v13_2765).Op), V.int .i64 ((gt a0_2735 v13_2765).A), V.int .i64 ((gt a0_2735 v13_2765).B)]) (fun _ hz => (.load rfl rfl (.sptM (f := api_Instr.cells) hb2768 rfl) rfl)) ?_
      refine DAny.take (i := 4) rfl (by kernel_rfl) [] (by kernel_rfl) (by kernel_rfl) (by kernel_rfl) rfl rfl rfl (v := V.sl 3 (rws api_Instr.cells a1_2736)) (fun _ hz => (.fn rfl)) ?_
      refine DAny.take (i := 5) rfl (by kernel_rfl) [] (by kernel_rfl) (by kernel_rfl) (by kernel_rfl) rfl rfl rfl (v := V.int .i64 v13_2765) (fun _ hz => (.fn rfl)) ?_
      refine okG h (fun hb2769 h => ?_)
      refine DAny.take (i := 6) rfl (by kernel_rfl) [] (by kernel_rfl) (by kernel_rfl) (by kernel_rfl) rfl rfl rfl (v := V.spt 3 (rws api_Instr.cells a1_2736) (Int.toNat v13_2765) 0) (fun _ hz => (.idxSlM (f := api_Instr.cells) rfl rfl rfl rfl rfl hb2769)) ?_
      refine DAny.take (i := 7) rfl (by kernel_rfl) [] (by kernel_rfl) (by kernel_rfl) (by kernel_rfl) rfl rfl rfl (v := V.agg [V.int .i64 ((gt a1_2736 v13_2765).Op), V.int .i64 ((gt a1_2736 v13_2765).A), V.int .i64 ((gt a1_2736 v13_2765).B)]) (fun _ hz => (.load rfl rfl (.sptM (f := api_Instr.cells) hb2769 rfl) rfl)) ?_
      refine DAny.take (i := 8) rfl (by kernel_rfl) [] (by kernel_rfl) (by kernel_rfl) (by kernel_rfl) rfl rfl rfl (v := V.bool (!(api_Instr.beq (gt a0_2735 v13_2765) (gt a1_2736 v13_2765)))) (fun _ hz => (.neA rfl rfl rfl rfl okT31 rfl)) ?_
      refine DAny.nil (by kernel_rfl) ?_
      repeat (first | refine Safe.seq ?_ | refine Safe.skip ?_ | with_reducible refine thenQ.n ?_ | with_reducible refine blockQ.n ?_)
      refine ifG h (fun hc2770 h => ?_) (fun hc2770 h => ?_)
      · skip
        refine Safe.condK rfl hc2770 ?_
        repeat (first | refine Safe.seq ?_ | refine Safe.skip ?_ | with_reducible refine thenQ.n ?_ | with_reducible refine blockQ.n ?_)
        refine Safe.region ?_
        refine SafeOps.quiet0 E_good rfl rfl rfl (v := V.bool false) (.fn rfl) ?_
        refine SafeOps.nil ?_
        repeat (first | refine Safe.seq ?_ | refine Safe.skip ?_ | with_reducible refine thenQ.n ?_ | with_reducible refine blockQ.n ?_)
        refine Safe.ret ?_
        repeat (first | with_reducible refine thenQ.r ?_ | with_reducible refine blockQ.r ?_)
        replace h := inr_out h hr2766
        obtain rfl := Option.some.inj h
        exact retQ.gen (vs := [V.bool false]) rfl (.tmp (v := V.bool false) rfl .nil) (.free rfl) (by simp) (.inr rfl)
      · skip
        refine Safe.condN rfl hc2770 ?_
        repeat (first | refine Safe.seq ?_ | refine Safe.skip ?_ | with_reducible refine thenQ.n ?_ | with_reducible refine blockQ.n ?_)
        refine Safe.region ?_
        refine SafeOps.quiet0 E_good rfl rfl rfl (v := V.int .i64 (IntKind.i64.wrap (v13_2765 + 1))) (.fn rfl) ?_
        refine SafeOps.quiet0 E_good rfl rfl rfl (v := V.int .i64 (IntKind.i64.wrap (v13_2765 + 1))) (.fn rfl) ?_
        refine SafeOps.nil ?_
        repeat (first | refine Safe.seq ?_ | refine Safe.skip ?_ | with_reducible refine thenQ.n ?_ | with_reducible refine blockQ.n ?_)
        exact ⟨_, next_out h, (.cov ⟨rfl, rfl, (upT_cons (.refl _) (upT_cons (.refl _) (upT_cons (.refl _) (upT_cons (.refl _) upT_nil)))), upOb_nil, upOut_nil, rfl⟩)⟩
    · skip
      refine Safe.condN rfl hc2767 ?_
      repeat (first | refine Safe.seq ?_ | refine Safe.skip ?_ | with_reducible refine thenQ.n ?_ | with_reducible refine blockQ.n ?_)
      refine Safe.exit ?_
      repeat (first | with_reducible refine thenQ.e ?_ | with_reducible refine blockQ.x rfl ?_ | with_reducible refine blockQ.y rfl ?_)
      replace h := inr_out h hr2766
      repeat (first | refine Safe.seq ?_ | refine Safe.skip ?_ | with_reducible refine thenQ.n ?_ | with_reducible refine blockQ.n ?_)
      refine Safe.region ?_
      refine SafeOps.quiet0 E_good rfl rfl rfl (v := V.bool true) (.fn rfl) ?_
      refine SafeOps.nil ?_
      repeat (first | refine Safe.seq ?_ | refine Safe.skip ?_ | with_reducible refine thenQ.n ?_ | with_reducible refine blockQ.n ?_)
      refine Safe.ret ?_
      repeat (first | with_reducible refine thenQ.r ?_ | with_reducible refine blockQ.r ?_)
      obtain rfl := Option.some.inj h
      exact retQ.gen (vs := [V.bool true]) rfl (.tmp (v := V.bool true) rfl .nil) (.free rfl) (by simp) (.inr rfl)

noncomputable def go_ravelref04_Same_s1 (a0_2727 : List (List api_Instr)) (a1_2728 : List (List api_Instr)) : (Int) → Option ((Int) ⊕ (Bool))
  | v13_2803 =>
    if (decide (v13_2803 < (a0_2727.length : Int))) = true then
      if 0 ≤ v13_2803 ∧ v13_2803 < (a0_2727.length : Int) then
        if 0 ≤ v13_2803 ∧ v13_2803 < (a1_2728.length : Int) then
          (go_ravelref04_SameOne (gt a0_2727 v13_2803) (gt a1_2728 v13_2803)).bind fun x_2808 =>
          if (!x_2808) = true then
            inrO (
              some false)
          else
            nextO (IntKind.i64.wrap (v13_2803 + 1))
        else none
      else none
    else
      inrO (
        some true)

noncomputable def go_ravelref04_Same (a0_2727 : List (List api_Instr)) (a1_2728 : List (List api_Instr)) : Option Bool :=
  if ((a0_2727.length : Int) != (a1_2728.length : Int)) = true then
    some false
  else
    whileO (go_ravelref04_Same_s1 a0_2727 a1_2728) 0

theorem go_ravelref04_Same_sc (a0_2727 : List (List api_Instr)) (a1_2728 : List (List api_Instr)) (r : Bool) (h : go_ravelref04_Same a0_2727 a1_2728 = some r) : SC Try.prog gl 21 [V.sl 1 (rws (fun l => [V.sl 3 (rws api_Instr.cells l)]) a0_2727), V.sl 1 (rws (fun l => [V.sl 3 (rws api_Instr.cells l)]) a1_2728)] (V.bool r) := by
  rw [go_ravelref04_Same] at h
  refine SC.of E_good Try.func21 rfl (fun _ _ => Try.call21 _ _) rfl ?_
  repeat (first | refine Safe.seq ?_ | refine Safe.skip ?_ | with_reducible refine thenQ.n ?_ | with_reducible refine blockQ.n ?_)
  refine Safe.region ?_
  refine SafeOps.quiet0 E_good rfl rfl rfl (v := V.bool false) (.fn rfl) ?_
  refine SafeOps.nil ?_
  repeat (first | refine Safe.seq ?_ | refine Safe.skip ?_ | with_reducible refine thenQ.n ?_ | with_reducible refine blockQ.n ?_)
  refine Safe.region ?_
  refine SafeOps.quiet0 E_good rfl rfl rfl (v := V.sl 1 (rws (fun l => [V.sl 3 (rws api_Instr.cells l)]) a0_2727)) (.fn rfl) ?_
  refine SafeOps.quiet0 E_good rfl rfl rfl (v := V.int .i64 (a0_2727.length : Int)) (.fnE rfl lenE) ?_
  refine SafeOps.quiet0 E_good rfl rfl rfl (v := V.sl 1 (rws (fun l => [V.sl 3 (rws api_Instr.cells l)]) a1_2728)) (.fn rfl) ?_
  refine SafeOps.quiet0 E_good rfl rfl rfl (v := V.int .i64 (a1_2728.length : Int)) (.fnE rfl lenE) ?_
  refine SafeOps.quiet0 E_good rfl rfl rfl (v := V.bool ((a0_2727.length : Int) != (a1_2728.length : Int))) (.fn rfl) ?_
  refine SafeOps.nil ?_
  repeat (first | refine Safe.seq ?_ | refine Safe.skip ?_ | with_reducible refine thenQ.n ?_ | with_reducible refine blockQ.n ?_)
  refine ifG h (fun hc2789 h => ?_) (fun hc2789 h => ?_)
  · skip
    refine Safe.condK rfl hc2789 ?_
    repeat (first | refine Safe.seq ?_ | refine Safe.skip ?_ | with_reducible refine thenQ.n ?_ | with_reducible refine blockQ.n ?_)
    refine Safe.region ?_
    refine SafeOps.quiet0 E_good rfl rfl rfl (v := V.bool false) (.fn rfl) ?_
    refine SafeOps.nil ?_
    repeat (first | refine Safe.seq ?_ | refine Safe.skip ?_ | with_reducible refine thenQ.n ?_ | with_reducible refine blockQ.n ?_)
    refine Safe.ret ?_
    repeat (first | with_reducible refine thenQ.r ?_ | with_reducible refine blockQ.r ?_)
    obtain rfl := Option.some.inj h
    exact retQ.gen (vs := [V.bool false]) rfl (.tmp (v := V.bool false) rfl .nil) (.free rfl) (by simp) (.inr rfl)
  · skip
    refine Safe.condN rfl hc2789 ?_
    repeat (first | refine Safe.seq ?_ | refine Safe.skip ?_ | with_reducible refine thenQ.n ?_ | with_reducible refine blockQ.n ?_)
    refine Safe.region ?_
    refine SafeOps.quiet0 E_good rfl rfl rfl (v := V.sl 1 (rws (fun l => [V.sl 3 (rws api_Instr.cells l)]) a0_2727)) (.fn rfl) ?_
    refine SafeOps.quiet0 E_good rfl rfl rfl (v := V.int .i64 (a0_2727.length : Int)) (.fnE rfl lenE) ?_
    refine SafeOps.quiet0 E_good rfl rfl rfl (v := V.int .i64 0) (.fn rfl) ?_
    refine SafeOps.nil ?_
    repeat (first | refine Safe.seq ?_ | refine Safe.skip ?_ | with_reducible refine thenQ.n ?_ | with_reducible refine blockQ.n ?_)
    refine Safe.block ?_
    repeat (first | refine Safe.seq ?_ | refine Safe.skip ?_ | with_reducible refine thenQ.n ?_ | with_reducible refine blockQ.n ?_)
    refine Safe.loopW (fun (v13_2803 : Int) => ⟨Try.f21.ntmps, [(0, V.sl 1 (rws (fun l => [V.sl 3 (rws api_Instr.cells l)]) a0_2727)), (1, V.sl 1 (rws (fun l => [V.sl 3 (rws api_Instr.cells l)]) a1_2728)), (12, V.int .i64 (a0_2727.length : Int)), (13, V.int .i64 v13_2803)], [], [], []⟩) h (.cov ⟨rfl, rfl, (upT_cons (.refl _) (upT_cons (.refl _) (upT_cons (.refl _) (upT_cons (.refl _) upT_nil)))), upOb_nil, upOut_nil, rfl⟩) ?_
    intro v13_2803 ohr2804 h hr2804
    replace h : go_ravelref04_Same_s1 a0_2727 a1_2728 v13_2803 = some ohr2804 := h
    rw [go_ravelref04_Same_s1] at h
    repeat (first | refine Safe.seq ?_ | refine Safe.skip ?_ | with_reducible refine thenQ.n ?_ | with_reducible refine blockQ.n ?_)
    refine Safe.region ?_
    refine SafeOps.quiet0 E_good rfl rfl rfl (v := V.bool (decide (v13_2803 < (a0_2727.length : Int)))) (.fn rfl) ?_
    refine SafeOps.nil ?_
    repeat (first | refine Safe.seq ?_ | refine Safe.skip ?_ | with_reducible refine thenQ.n ?_ | with_reducible refine blockQ.n ?_)
    refine ifG h (fun hc2805 h => ?_) (fun hc2805 h => ?_)
    · skip
      refine Safe.condK rfl hc2805 ?_
      repeat (first | refine Safe.seq ?_ | refine Safe.skip ?_ | with_reducible refine thenQ.n ?_ | with_reducible refine blockQ.n ?_)
      refine Safe.block ?_
      repeat (first | refine Safe.seq ?_ | refine Safe.skip ?_ | with_reducible refine thenQ.n ?_ | with_reducible refine blockQ.n ?_)
      refine Safe.region ?_
      refine SafeOps.quiet0 E_good rfl rfl rfl (v := V.int .i64 v13_2803) (.fn rfl) ?_
      refine SafeOps.quiet0 E_good rfl rfl rfl (v := V.int .i64 v13_2803) (.fn rfl) ?_
      refine SafeOps.nil ?_
      repeat (first | refine Safe.seq ?_ | refine Safe.skip ?_ | with_reducible refine thenQ.n ?_ | with_reducible refine blockQ.n ?_)
      refine Safe.regionD (n := 10) [] [] E_good mixed rfl ?_
      refine DAny.take (i := 0) rfl (by kernel_rfl) [] (by kernel_rfl) (by kernel_rfl) (by kernel_rfl) rfl rfl rfl (v := V.sl 1 (rws (fun l => [V.sl 3 (rws api_Instr.cells l)]) a0_2727)) (fun _ hz => (.fn rfl)) ?_
      refine DAny.take (i := 1) rfl (by kernel_rfl) [] (by kernel_rfl) (by kernel_rfl) (by kernel_rfl) rfl rfl rfl (v := V.int .i64 v13_2803) (fun _ hz => (.fn rfl)) ?_
      refine okG h (fun hb2806 h => ?_)
      refine DAny.take (i := 2) rfl (by kernel_rfl) [] (by kernel_rfl) (by kernel_rfl) (by kernel_rfl) rfl rfl rfl (v := V.spt 1 (rws (fun l => [V.sl 3 (rws api_Instr.cells l)]) a0_2727) (Int.toNat v13_2803) 0) (fun _ hz => (.idxSlM (f := (fun l => [V.sl 3 (rws api_Instr.cells l)])) rfl rfl rfl rfl rfl hb2806)) ?_
      refine DAny.take (i := 3) rfl (by kernel_rfl) [] (by kernel_rfl) (by kernel_rfl) (by kernel_rfl) rfl rfl rfl (v := V.sl 3 (rws api_Instr.cells (gt a0_2727 v13_2803))) (fun _ hz => (.load rfl rfl (.sptM (f := (fun l => [V.sl 3 (rws api_Instr.cells l)])) hb2806 rfl) rfl)) ?_
      refine DAny.take (i := 4) rfl (by kernel_rfl) [] (by kernel_rfl) (by kernel_rfl) (by kernel_rfl) rfl rfl rfl (v := V.sl 1 (rws (fun l => [V.sl 3 (rws api_Instr.cells l)]) a1_2728)) (fun _ hz => (.fn rfl)) ?_
      refine DAny.take (i := 5) rfl (by kernel_rfl) [] (by kernel_rfl) (by kernel_rfl) (by kernel_rfl) rfl rfl rfl (v := V.int .i64 v13_2803) (fun _ hz => (.fn rfl)) ?_
      refine okG h (fun hb2807 h => ?_)
      refine DAny.take (i := 6) rfl (by kernel_rfl) [] (by kernel_rfl) (by kernel_rfl) (by kernel_rfl) rfl rfl rfl (v := V.spt 1 (rws (fun l => [V.sl 3 (rws api_Instr.cells l)]) a1_2728) (Int.toNat v13_2803) 0) (fun _ hz => (.idxSlM (f := (fun l => [V.sl 3 (rws api_Instr.cells l)])) rfl rfl rfl rfl rfl hb2807)) ?_
      refine DAny.take (i := 7) rfl (by kernel_rfl) [] (by kernel_rfl) (by kernel_rfl) (by kernel_rfl) rfl rfl rfl (v := V.sl 3 (rws api_Instr.cells (gt a1_2728 v13_2803))) (fun _ hz => (.load rfl rfl (.sptM (f := (fun l => [V.sl 3 (rws api_Instr.cells l)])) hb2807 rfl) rfl)) ?_
      refine bindG h ?_
      intro x_2808 he2809 h
      refine DAny.take (i := 8) rfl (by kernel_rfl) [] (by kernel_rfl) (by kernel_rfl) (by kernel_rfl) rfl rfl rfl (v := V.bool x_2808) (fun _ hz => (.callP rfl rfl (go_ravelref04_SameOne_sc (gt a0_2727 v13_2803) (gt a1_2728 v13_2803) _ he2809) rfl)) ?_
      refine DAny.take (i := 9) rfl (by kernel_rfl) [] (by kernel_rfl) (by kernel_rfl) (by kernel_rfl) rfl rfl rfl (v := V.bool (!x_2808)) (fun _ hz => (.fn rfl)) ?_
      refine DAny.nil (by kernel_rfl) ?_
      repeat (first | refine Safe.seq ?_ | refine Safe.skip ?_ | with_reducible refine thenQ.n ?_ | with_reducible refine blockQ.n ?_)
      refine ifG h (fun hc2810 h => ?_) (fun hc2810 h => ?_)
      · skip
        refine Safe.condK rfl hc2810 ?_
        repeat (first | refine Safe.seq ?_ | refine Safe.skip ?_ | with_reducible refine thenQ.n ?_ | with_reducible refine blockQ.n ?_)
        refine Safe.region ?_
        refine SafeOps.quiet0 E_good rfl rfl rfl (v := V.bool false) (.fn rfl) ?_
        refine SafeOps.nil ?_
        repeat (first | refine Safe.seq ?_ | refine Safe.skip ?_ | with_reducible refine thenQ.n ?_ | with_reducible refine blockQ.n ?_)
        refine Safe.ret ?_
        repeat (first | with_reducible refine thenQ.r ?_ | with_reducible refine blockQ.r ?_)
        replace h := inr_out h hr2804
        obtain rfl := Option.some.inj h
        exact retQ.gen (vs := [V.bool false]) rfl (.tmp (v := V.bool false) rfl .nil) (.free rfl) (by simp) (.inr rfl)
      · skip
        refine Safe.condN rfl hc2810 ?_
        repeat (first | refine Safe.seq ?_ | refine Safe.skip ?_ | with_reducible refine thenQ.n ?_ | with_reducible refine blockQ.n ?_)
        refine Safe.region ?_
        refine SafeOps.quiet0 E_good rfl rfl rfl (v := V.int .i64 (IntKind.i64.wrap (v13_2803 + 1))) (.fn rfl) ?_
        refine SafeOps.quiet0 E_good rfl rfl rfl (v := V.int .i64 (IntKind.i64.wrap (v13_2803 + 1))) (.fn rfl) ?_
        refine SafeOps.nil ?_
        repeat (first | refine Safe.seq ?_ | refine Safe.skip ?_ | with_reducible refine thenQ.n ?_ | with_reducible refine blockQ.n ?_)
        exact ⟨_, next_out h, (.cov ⟨rfl, rfl, (upT_cons (.refl _) (upT_cons (.refl _) (upT_cons (.refl _) (upT_cons (.refl _) upT_nil)))), upOb_nil, upOut_nil, rfl⟩)⟩
    · skip
      refine Safe.condN rfl hc2805 ?_
      repeat (first | refine Safe.seq ?_ | refine Safe.skip ?_ | with_reducible refine thenQ.n ?_ | with_reducible refine blockQ.n ?_)
      refine Safe.exit ?_
      repeat (first | with_reducible refine thenQ.e ?_ | with_reducible refine blockQ.x rfl ?_ | with_reducible refine blockQ.y rfl ?_)
      replace h := inr_out h hr2804
      repeat (first | refine Safe.seq ?_ | refine Safe.skip ?_ | with_reducible refine thenQ.n ?_ | with_reducible refine blockQ.n ?_)
      refine Safe.region ?_
      refine SafeOps.quiet0 E_good rfl rfl rfl (v := V.bool true) (.fn rfl) ?_
      refine SafeOps.nil ?_
      repeat (first | refine Safe.seq ?_ | refine Safe.skip ?_ | with_reducible refine thenQ.n ?_ | with_reducible refine blockQ.n ?_)
      refine Safe.ret ?_
      repeat (first | with_reducible refine thenQ.r ?_ | with_reducible refine blockQ.r ?_)
      obtain rfl := Option.some.inj h
      exact retQ.gen (vs := [V.bool true]) rfl (.tmp (v := V.bool true) rfl .nil) (.free rfl) (by simp) (.inr rfl)
end Go.Proofs.Ytdlpecjbafadkaa
