/- Helper lemmas for the claim's theorem: an abstract machine over the model, proved sound; no condition beyond each lemma's own. -/
import Derived.Test.YthhpnmfcmgdghaaT2
set_option linter.unusedVariables false
set_option linter.unusedSimpArgs false
set_option linter.unnecessarySimpa false
set_option linter.unusedSectionVars false
namespace Go.Proofs.Ythhpnmfcmgdghaa
open Go Go.AM
set_option maxRecDepth 100000
set_option maxHeartbeats 1000000
set_option linter.unusedVariables false
set_option linter.unusedSimpArgs false
variable {gl : List (Nat × List V)}
def go_ravelref19_may (a0_3919 : api_Entry) : Bool :=
  (((((go_ravelref19_in a0_3919.Kind 0 7) && (go_ravelref19_in a0_3919.A 0 255)) && (go_ravelref19_in a0_3919.B 0 255)) && (((a0_3919.B == 0) || (a0_3919.Kind == 1)) || (a0_3919.Kind == 4))) && ((a0_3919.A == 0) || (a0_3919.Kind != 7)))

theorem go_ravelref19_may_sc (a0_3919 : api_Entry) (r : Bool) (h : go_ravelref19_may a0_3919 = r) : SC Try.prog gl 30 [V.agg [V.int .i64 a0_3919.Kind, V.int .i64 a0_3919.A, V.int .i64 a0_3919.B]] (V.bool r) := by
  rw [go_ravelref19_may] at h
  refine SC.of E_good Try.func30 rfl (fun _ _ => Try.call30 _ _) rfl ?_
  repeat (first | refine Safe.seq ?_ | refine Safe.skip ?_ | with_reducible refine thenQ.n ?_ | with_reducible refine blockQ.n ?_)
  refine Safe.region ?_
  refine SafeOps.quiet1 E_good rfl rfl rfl (.box rfl rfl) rfl ?_
  refine SafeOps.quiet0 E_good rfl rfl rfl (v := V.bool false) (.fn rfl) ?_
  refine SafeOps.nil ?_
  repeat (first | refine Safe.seq ?_ | refine Safe.skip ?_ | with_reducible refine thenQ.n ?_ | with_reducible refine blockQ.n ?_)
  refine Safe.region ?_
  refine SafeOps.quiet0 E_good rfl rfl rfl (v := V.ptr [1] 0 0) (.fn rfl) ?_
  refine SafeOps.quiet0 E_good rfl rfl rfl (v := V.int .i64 a0_3919.Kind) (.load rfl rfl (.box rfl rfl) rfl) ?_
  refine SafeOps.quiet0 E_good rfl rfl rfl (v := V.bool (go_ravelref19_in a0_3919.Kind 0 7)) (.callP rfl rfl (go_ravelref19_in_sc a0_3919.Kind 0 7 _ rfl) rfl) ?_
  refine SafeOps.quiet0 E_good rfl rfl rfl (v := V.bool (go_ravelref19_in a0_3919.Kind 0 7)) (.fn rfl) ?_
  refine SafeOps.bjoin 4 10 (b := ((go_ravelref19_in a0_3919.Kind 0 7) && (go_ravelref19_in a0_3919.A 0 255))) (b1 := go_ravelref19_in a0_3919.A 0 255) (b0 := false) (fun hc3927 K => ?_) (fun hc3927 K => ?_) bj_and ?_
  · skip
    refine SafeOps.quiet0 E_good (congrArg some hc3927) rfl rfl (v := V.ptr [1] 0 1) (.fn rfl) ?_
    refine SafeOps.quiet0 E_good (congrArg some hc3927) rfl rfl (v := V.int .i64 a0_3919.A) (.load rfl rfl (.box rfl rfl) rfl) ?_
    refine SafeOps.quiet0 E_good (congrArg some hc3927) rfl rfl (v := V.bool (go_ravelref19_in a0_3919.A 0 255)) (.callP rfl rfl (go_ravelref19_in_sc a0_3919.A 0 255 _ rfl) rfl) ?_
    refine SafeOps.quiet0 E_good rfl rfl rfl (v := V.bool (go_ravelref19_in a0_3919.A 0 255)) (.pickK rfl hc3927 rfl) ?_
    exact SafeOps.drop' 4 rfl rfl rfl K
  · skip
    refine SafeOps.skip (congrArg some hc3927) rfl rfl ?_
    refine SafeOps.skip (congrArg some hc3927) rfl rfl ?_
    refine SafeOps.skip (congrArg some hc3927) rfl rfl ?_
    refine SafeOps.quiet0 E_good rfl rfl rfl (v := V.bool false) (.pickK rfl hc3927 rfl) ?_
    exact SafeOps.drop' 4 rfl rfl rfl K
  refine SafeOps.quiet0 E_good rfl rfl rfl (v := V.bool ((go_ravelref19_in a0_3919.Kind 0 7) && (go_ravelref19_in a0_3919.A 0 255))) (.fn rfl) ?_
  refine SafeOps.bjoin 4 15 (b := (((go_ravelref19_in a0_3919.Kind 0 7) && (go_ravelref19_in a0_3919.A 0 255)) && (go_ravelref19_in a0_3919.B 0 255))) (b1 := go_ravelref19_in a0_3919.B 0 255) (b0 := false) (fun hc3928 K => ?_) (fun hc3928 K => ?_) bj_and ?_
  · skip
    refine SafeOps.quiet0 E_good (congrArg some hc3928) rfl rfl (v := V.ptr [1] 0 2) (.fn rfl) ?_
    refine SafeOps.quiet0 E_good (congrArg some hc3928) rfl rfl (v := V.int .i64 a0_3919.B) (.load rfl rfl (.box rfl rfl) rfl) ?_
    refine SafeOps.quiet0 E_good (congrArg some hc3928) rfl rfl (v := V.bool (go_ravelref19_in a0_3919.B 0 255)) (.callP rfl rfl (go_ravelref19_in_sc a0_3919.B 0 255 _ rfl) rfl) ?_
    refine SafeOps.quiet0 E_good rfl rfl rfl (v := V.bool (go_ravelref19_in a0_3919.B 0 255)) (.pickK rfl hc3928 rfl) ?_
    exact SafeOps.drop' 4 rfl rfl rfl K
  · skip
    refine SafeOps.skip (congrArg some hc3928) rfl rfl ?_
    refine SafeOps.skip (congrArg some hc3928) rfl rfl ?_
    refine SafeOps.skip (congrArg some hc3928) rfl rfl ?_
    refine SafeOps.quiet0 E_good rfl rfl rfl (v := V.bool false) (.pickK rfl hc3928 rfl) ?_
    exact SafeOps.drop' 4 rfl rfl rfl K
  refine SafeOps.quiet0 E_good rfl rfl rfl (v := V.bool (((go_ravelref19_in a0_3919.Kind 0 7) && (go_ravelref19_in a0_3919.A 0 255)) && (go_ravelref19_in a0_3919.B 0 255))) (.fn rfl) ?_
  refine SafeOps.bjoin 14 30 (b := ((((go_ravelref19_in a0_3919.Kind 0 7) && (go_ravelref19_in a0_3919.A 0 255)) && (go_ravelref19_in a0_3919.B 0 255)) && (((a0_3919.B == 0) || (a0_3919.Kind == 1)) || (a0_3919.Kind == 4)))) (b1 := (((a0_3919.B == 0) || (a0_3919.Kind == 1)) || (a0_3919.Kind == 4))) (b0 := false) (fun hc3929 K => ?_) (fun hc3929 K => ?_) bj_and ?_
  · skip
    refine SafeOps.quiet0 E_good (congrArg some hc3929) rfl rfl (v := V.ptr [1] 0 2) (.fn rfl) ?_
    refine SafeOps.quiet0 E_good (congrArg some hc3929) rfl rfl (v := V.int .i64 a0_3919.B) (.load rfl rfl (.box rfl rfl) rfl) ?_
    refine SafeOps.quiet0 E_good (congrArg some hc3929) rfl rfl (v := V.bool (a0_3919.B == 0)) (.fn rfl) ?_
    refine SafeOps.quiet0 E_good (congrArg some hc3929) rfl rfl (v := V.bool (a0_3919.B == 0)) (.fn rfl) ?_
    refine SafeOps.bjoin 4 24 (b := ((a0_3919.B == 0) || (a0_3919.Kind == 1))) (b1 := true) (b0 := (a0_3919.Kind == 1)) (fun hc3930 K => ?_) (fun hc3930 K => ?_) bj_or ?_
    · skip
      refine SafeOps.skip (congrArg (fun b => some (!b)) hc3930) rfl rfl ?_
      refine SafeOps.skip (congrArg (fun b => some (!b)) hc3930) rfl rfl ?_
      refine SafeOps.skip (congrArg (fun b => some (!b)) hc3930) rfl rfl ?_
      refine SafeOps.quiet0 E_good (congrArg some hc3929) rfl rfl (v := V.bool true) (.pickK rfl hc3930 rfl) ?_
      exact SafeOps.drop' 4 rfl rfl rfl K
    · skip
      refine SafeOps.quiet0 E_good (congrArg (fun b => some (!b)) hc3930) rfl rfl (v := V.ptr [1] 0 0) (.fn rfl) ?_
      refine SafeOps.quiet0 E_good (congrArg (fun b => some (!b)) hc3930) rfl rfl (v := V.int .i64 a0_3919.Kind) (.load rfl rfl (.box rfl rfl) rfl) ?_
      refine SafeOps.quiet0 E_good (congrArg (fun b => some (!b)) hc3930) rfl rfl (v := V.bool (a0_3919.Kind == 1)) (.fn rfl) ?_
      refine SafeOps.quiet0 E_good (congrArg some hc3929) rfl rfl (v := V.bool (a0_3919.Kind == 1)) (.pickK rfl hc3930 rfl) ?_
      exact SafeOps.drop' 4 rfl rfl rfl K
    refine SafeOps.quiet0 E_good (congrArg some hc3929) rfl rfl (v := V.bool ((a0_3919.B == 0) || (a0_3919.Kind == 1))) (.fn rfl) ?_
    refine SafeOps.bjoin 4 29 (b := (((a0_3919.B == 0) || (a0_3919.Kind == 1)) || (a0_3919.Kind == 4))) (b1 := true) (b0 := (a0_3919.Kind == 4)) (fun hc3931 K => ?_) (fun hc3931 K => ?_) bj_or ?_
    · skip
      refine SafeOps.skip (congrArg (fun b => some (!b)) hc3931) rfl rfl ?_
      refine SafeOps.skip (congrArg (fun b => some (!b)) hc3931) rfl rfl ?_
      refine SafeOps.skip (congrArg (fun b => some (!b)) hc3931) rfl rfl ?_
      refine SafeOps.quiet0 E_good (congrArg some hc3929) rfl rfl (v := V.bool true) (.pickK rfl hc3931 rfl) ?_
      exact SafeOps.drop' 4 rfl rfl rfl K
    · skip
      refine SafeOps.quiet0 E_good (congrArg (fun b => some (!b)) hc3931) rfl rfl (v := V.ptr [1] 0 0) (.fn rfl) ?_
      refine SafeOps.quiet0 E_good (congrArg (fun b => some (!b)) hc3931) rfl rfl (v := V.int .i64 a0_3919.Kind) (.load rfl rfl (.box rfl rfl) rfl) ?_
      refine SafeOps.quiet0 E_good (congrArg (fun b => some (!b)) hc3931) rfl rfl (v := V.bool (a0_3919.Kind == 4)) (.fn rfl) ?_
      refine SafeOps.quiet0 E_good (congrArg some hc3929) rfl rfl (v := V.bool (a0_3919.Kind == 4)) (.pickK rfl hc3931 rfl) ?_
      exact SafeOps.drop' 4 rfl rfl rfl K
    refine SafeOps.quiet0 E_good rfl rfl rfl (v := V.bool (((a0_3919.B == 0) || (a0_3919.Kind == 1)) || (a0_3919.Kind == 4))) (.pickK rfl hc3929 rfl) ?_
    exact SafeOps.drop' 8 rfl rfl rfl K
  · skip
    refine SafeOps.skip (congrArg some hc3929) rfl rfl ?_
    refine SafeOps.skip (congrArg some hc3929) rfl rfl ?_
    refine SafeOps.skip (congrArg some hc3929) rfl rfl ?_
    refine SafeOps.skip (congrArg some hc3929) rfl rfl ?_
    refine SafeOps.skip rfl rfl rfl ?_
    refine SafeOps.skip rfl rfl rfl ?_
    refine SafeOps.skip rfl rfl rfl ?_
    refine SafeOps.skip (congrArg some hc3929) rfl rfl ?_
    refine SafeOps.skip (congrArg some hc3929) rfl rfl ?_
    refine SafeOps.skip rfl rfl rfl ?_
    refine SafeOps.skip rfl rfl rfl ?_
    refine SafeOps.skip rfl rfl rfl ?_
    refine SafeOps.skip (congrArg some hc3929) rfl rfl ?_
    refine SafeOps.quiet0 E_good rfl rfl rfl (v := V.bool false) (.pickK rfl hc3929 rfl) ?_
    exact SafeOps.drop' 14 rfl rfl rfl K
  refine SafeOps.quiet0 E_good rfl rfl rfl (v := V.bool ((((go_ravelref19_in a0_3919.Kind 0 7) && (go_ravelref19_in a0_3919.A 0 255)) && (go_ravelref19_in a0_3919.B 0 255)) && (((a0_3919.B == 0) || (a0_3919.Kind == 1)) || (a0_3919.Kind == 4)))) (.fn rfl) ?_
  refine SafeOps.bjoin 9 40 (b := (((((go_ravelref19_in a0_3919.Kind 0 7) && (go_ravelref19_in a0_3919.A 0 255)) && (go_ravelref19_in a0_3919.B 0 255)) && (((a0_3919.B == 0) || (a0_3919.Kind == 1)) || (a0_3919.Kind == 4))) && ((a0_3919.A == 0) || (a0_3919.Kind != 7)))) (b1 := ((a0_3919.A == 0) || (a0_3919.Kind != 7))) (b0 := false) (fun hc3932 K => ?_) (fun hc3932 K => ?_) bj_and ?_
  · skip
    refine SafeOps.quiet0 E_good (congrArg some hc3932) rfl rfl (v := V.ptr [1] 0 1) (.fn rfl) ?_
    refine SafeOps.quiet0 E_good (congrArg some hc3932) rfl rfl (v := V.int .i64 a0_3919.A) (.load rfl rfl (.box rfl rfl) rfl) ?_
    refine SafeOps.quiet0 E_good (congrArg some hc3932) rfl rfl (v := V.bool (a0_3919.A == 0)) (.fn rfl) ?_
    refine SafeOps.quiet0 E_good (congrArg some hc3932) rfl rfl (v := V.bool (a0_3919.A == 0)) (.fn rfl) ?_
    refine SafeOps.bjoin 4 39 (b := ((a0_3919.A == 0) || (a0_3919.Kind != 7))) (b1 := true) (b0 := (a0_3919.Kind != 7)) (fun hc3933 K => ?_) (fun hc3933 K => ?_) bj_or ?_
    · skip
      refine SafeOps.skip (congrArg (fun b => some (!b)) hc3933) rfl rfl ?_
      refine SafeOps.skip (congrArg (fun b => some (!b)) hc3933) rfl rfl ?_
      refine SafeOps.skip (congrArg (fun b => some (!b)) hc3933) rfl rfl ?_
      refine SafeOps.quiet0 E_good (congrArg some hc3932) rfl rfl (v := V.bool true) (.pickK rfl hc3933 rfl) ?_
      exact SafeOps.drop' 4 rfl rfl rfl K
    · skip
      refine SafeOps.quiet0 E_good (congrArg (fun b => some (!b)) hc3933) rfl rfl (v := V.ptr [1] 0 0) (.fn rfl) ?_
      refine SafeOps.quiet0 E_good (congrArg (fun b => some (!b)) hc3933) rfl rfl (v := V.int .i64 a0_3919.Kind) (.load rfl rfl (.box rfl rfl) rfl) ?_
      refine SafeOps.quiet0 E_good (congrArg (fun b => some (!b)) hc3933) rfl rfl (v := V.bool (a0_3919.Kind != 7)) (.fn rfl) ?_
      refine SafeOps.quiet0 E_good (congrArg some hc3932) rfl rfl (v := V.bool (a0_3919.Kind != 7)) (.pickK rfl hc3933 rfl) ?_
      exact SafeOps.drop' 4 rfl rfl rfl K
    refine SafeOps.quiet0 E_good rfl rfl rfl (v := V.bool ((a0_3919.A == 0) || (a0_3919.Kind != 7))) (.pickK rfl hc3932 rfl) ?_
    exact SafeOps.drop' 6 rfl rfl rfl K
  · skip
    refine SafeOps.skip (congrArg some hc3932) rfl rfl ?_
    refine SafeOps.skip (congrArg some hc3932) rfl rfl ?_
    refine SafeOps.skip (congrArg some hc3932) rfl rfl ?_
    refine SafeOps.skip (congrArg some hc3932) rfl rfl ?_
    refine SafeOps.skip rfl rfl rfl ?_
    refine SafeOps.skip rfl rfl rfl ?_
    refine SafeOps.skip rfl rfl rfl ?_
    refine SafeOps.skip (congrArg some hc3932) rfl rfl ?_
    refine SafeOps.quiet0 E_good rfl rfl rfl (v := V.bool false) (.pickK rfl hc3932 rfl) ?_
    exact SafeOps.drop' 9 rfl rfl rfl K
  refine SafeOps.quiet0 E_good rfl rfl rfl (v := V.bool (((((go_ravelref19_in a0_3919.Kind 0 7) && (go_ravelref19_in a0_3919.A 0 255)) && (go_ravelref19_in a0_3919.B 0 255)) && (((a0_3919.B == 0) || (a0_3919.Kind == 1)) || (a0_3919.Kind == 4))) && ((a0_3919.A == 0) || (a0_3919.Kind != 7)))) (.fn rfl) ?_
  refine SafeOps.nil ?_
  repeat (first | refine Safe.seq ?_ | refine Safe.skip ?_ | with_reducible refine thenQ.n ?_ | with_reducible refine blockQ.n ?_)
  refine Safe.ret ?_
  repeat (first | with_reducible refine thenQ.r ?_ | with_reducible refine blockQ.r ?_)
  obtain rfl := h
  exact retQ.gen (vs := [V.bool (((((go_ravelref19_in a0_3919.Kind 0 7) && (go_ravelref19_in a0_3919.A 0 255)) && (go_ravelref19_in a0_3919.B 0 255)) && (((a0_3919.B == 0) || (a0_3919.Kind == 1)) || (a0_3919.Kind == 4))) && ((a0_3919.A == 0) || (a0_3919.Kind != 7)))]) rfl (.tmp (v := V.bool (((((go_ravelref19_in a0_3919.Kind 0 7) && (go_ravelref19_in a0_3919.A 0 255)) && (go_ravelref19_in a0_3919.B 0 255)) && (((a0_3919.B == 0) || (a0_3919.Kind == 1)) || (a0_3919.Kind == 4))) && ((a0_3919.A == 0) || (a0_3919.Kind != 7)))) rfl .nil) (.free rfl) (by simp) (.inr rfl)

noncomputable def go_ravelref19_Check_s1 (a0_3913 : List api_Entry) : (Int) → Option ((Int) ⊕ (Int))
  | v10_3952 =>
    if (decide (v10_3952 < (a0_3913.length : Int))) = true then
      if 0 ≤ v10_3952 ∧ v10_3952 < (a0_3913.length : Int) then
        if (!(go_ravelref19_may (gt a0_3913 v10_3952))) = true then
          inrO (
            some 1)
        else
          nextO (IntKind.i64.wrap (v10_3952 + 1))
      else none
    else
      inrO (
        some 0)

noncomputable def go_ravelref19_Check (a0_3913 : List api_Entry) : Option Int :=
  if (decide ((a0_3913.length : Int) > 65536)) = true then
    some 3
  else
    whileO (go_ravelref19_Check_s1 a0_3913) 0

theorem go_ravelref19_Check_sc (a0_3913 : List api_Entry) (r : Int) (h : go_ravelref19_Check a0_3913 = some r) : SC Try.prog gl 19 [V.sl 3 (rws api_Entry.cells a0_3913)] (V.int .i64 r) := by
  rw [go_ravelref19_Check] at h
  refine SC.of E_good Try.func19 rfl (fun _ _ => Try.call19 _ _) rfl ?_
  repeat (first | refine Safe.seq ?_ | refine Safe.skip ?_ | with_reducible refine thenQ.n ?_ | with_reducible refine blockQ.n ?_)
  refine Safe.region ?_
  refine SafeOps.quiet0 E_good rfl rfl rfl (v := V.int .i64 0) (.fn rfl) ?_
  refine SafeOps.nil ?_
  repeat (first | refine Safe.seq ?_ | refine Safe.skip ?_ | with_reducible refine thenQ.n ?_ | with_reducible refine blockQ.n ?_)
  refine Safe.region ?_
  refine SafeOps.quiet0 E_good rfl rfl rfl (v := V.sl 3 (rws api_Entry.cells a0_3913)) (.fn rfl) ?_
  refine SafeOps.quiet0 E_good rfl rfl rfl (v := V.int .i64 (a0_3913.length : Int)) (.fnE rfl lenE) ?_
  refine SafeOps.quiet0 E_good rfl rfl rfl (v := V.bool (decide ((a0_3913.length : Int) > 65536))) (.fn rfl) ?_
  refine SafeOps.nil ?_
  repeat (first | refine Safe.seq ?_ | refine Safe.skip ?_ | with_reducible refine thenQ.n ?_ | with_reducible refine blockQ.n ?_)
  refine ifG h (fun hc3944 h => ?_) (fun hc3944 h => ?_)
  · skip
    refine Safe.condK rfl hc3944 ?_
    repeat (first | refine Safe.seq ?_ | refine Safe.skip ?_ | with_reducible refine thenQ.n ?_ | with_reducible refine blockQ.n ?_)
    refine Safe.region ?_
    refine SafeOps.quiet0 E_good rfl rfl rfl (v := V.int .i64 3) (.fn rfl) ?_
    refine SafeOps.nil ?_
    repeat (first | refine Safe.seq ?_ | refine Safe.skip ?_ | with_reducible refine thenQ.n ?_ | with_reducible refine blockQ.n ?_)
    refine Safe.ret ?_
    repeat (first | with_reducible refine thenQ.r ?_ | with_reducible refine blockQ.r ?_)
    obtain rfl := Option.some.inj h
    exact retQ.gen (vs := [V.int .i64 3]) rfl (.tmp (v := V.int .i64 3) rfl .nil) (.free rfl) (by simp) (.inr rfl)
  · skip
    refine Safe.condN rfl hc3944 ?_
    repeat (first | refine Safe.seq ?_ | refine Safe.skip ?_ | with_reducible refine thenQ.n ?_ | with_reducible refine blockQ.n ?_)
    refine Safe.region ?_
    refine SafeOps.quiet0 E_good rfl rfl rfl (v := V.sl 3 (rws api_Entry.cells a0_3913)) (.fn rfl) ?_
    refine SafeOps.quiet0 E_good rfl rfl rfl (v := V.int .i64 (a0_3913.length : Int)) (.fnE rfl lenE) ?_
    refine SafeOps.quiet0 E_good rfl rfl rfl (v := V.int .i64 0) (.fn rfl) ?_
    refine SafeOps.nil ?_
    repeat (first | refine Safe.seq ?_ | refine Safe.skip ?_ | with_reducible refine thenQ.n ?_ | with_reducible refine blockQ.n ?_)
    refine Safe.block ?_
    repeat (first | refine Safe.seq ?_ | refine Safe.skip ?_ | with_reducible refine thenQ.n ?_ | with_reducible refine blockQ.n ?_)
    refine Safe.loopW (fun (v10_3952 : Int) => ⟨Try.f19.ntmps, [(8, V.sl 3 (rws api_Entry.cells a0_3913)), (9, V.int .i64 (a0_3913.length : Int)), (10, V.int .i64 v10_3952)], [], [], []⟩) h (.cov ⟨rfl, rfl, (upT_cons (.refl _) (upT_cons (.refl _) (upT_cons (.refl _) upT_nil))), upOb_nil, upOut_nil, rfl⟩) ?_
    intro v10_3952 ohr3953 h hr3953
    replace h : go_ravelref19_Check_s1 a0_3913 v10_3952 = some ohr3953 := h
    rw [go_ravelref19_Check_s1] at h
    repeat (first | refine Safe.seq ?_ | refine Safe.skip ?_ | with_reducible refine thenQ.n ?_ | with_reducible refine blockQ.n ?_)
    refine Safe.region ?_
    refine SafeOps.quiet0 E_good rfl rfl rfl (v := V.bool (decide (v10_3952 < (a0_3913.length : Int)))) (.fn rfl) ?_
    refine SafeOps.nil ?_
    repeat (first | refine Safe.seq ?_ | refine Safe.skip ?_ | with_reducible refine thenQ.n ?_ | with_reducible refine blockQ.n ?_)
    refine ifG h (fun hc3954 h => ?_) (fun hc3954 h => ?_)
    · skip
      refine Safe.condK rfl hc3954 ?_
      repeat (first | refine Safe.seq ?_ | refine Safe.skip ?_ | with_reducible refine thenQ.n ?_ | with_reducible refine blockQ.n ?_)
      refine Safe.block ?_
      repeat (first | refine Safe.seq ?_ | refine Safe.skip ?_ | with_reducible refine thenQ.n ?_ | with_reducible refine blockQ.n ?_)
      refine Safe.region ?_
      refine okG h (fun hb3955 h => ?_)
      refine SafeOps.quiet0 E_good rfl rfl rfl (v := V.spt 3 (rws api_Entry.cells a0_3913) (Int.toNat v10_3952) 0) (.idxSlM (f := api_Entry.cells) rfl rfl rfl rfl rfl hb3955) ?_
      refine SafeOps.quiet0 E_good rfl rfl rfl (v := V.agg [V.int .i64 ((gt a0_3913 v10_3952).Kind), V.int .i64 ((gt a0_3913 v10_3952).A), V.int .i64 ((gt a0_3913 v10_3952).B)]) (.load rfl rfl (.sptM (f := api_Entry.cells) hb3955 rfl) rfl) ?_
      refine SafeOps.quiet1 E_good rfl rfl rfl (.alloc rfl rfl) rfl ?_
      refine SafeOps.store (z := Obj.box [V.int .i64 ((gt a0_3913 v10_3952).Kind), V.int .i64 ((gt a0_3913 v10_3952).A), V.int .i64 ((gt a0_3913 v10_3952).B)]) E_good rfl rfl rfl rfl rfl rfl rfl (.boxM (c := 3) rfl rfl (Nat.le_of_ble_eq_true rfl) rfl) ?_
      refine SafeOps.nil ?_
      repeat (first | refine Safe.seq ?_ | refine Safe.skip ?_ | with_reducible refine thenQ.n ?_ | with_reducible refine blockQ.n ?_)
      refine Safe.region ?_
      refine SafeOps.quiet0 E_good rfl rfl rfl (v := V.agg [V.int .i64 ((gt a0_3913 v10_3952).Kind), V.int .i64 ((gt a0_3913 v10_3952).A), V.int .i64 ((gt a0_3913 v10_3952).B)]) (.load rfl rfl (.box rfl rfl) rfl) ?_
      refine SafeOps.quiet0 E_good rfl rfl rfl (v := V.bool (go_ravelref19_may (gt a0_3913 v10_3952))) (.callP rfl rfl (go_ravelref19_may_sc (gt a0_3913 v10_3952) _ rfl) rfl) ?_
      refine SafeOps.quiet0 E_good rfl rfl rfl (v := V.bool (!(go_ravelref19_may (gt a0_3913 v10_3952)))) (.fn rfl) ?_
      refine SafeOps.nil ?_
      repeat (first | refine Safe.seq ?_ | refine Safe.skip ?_ | with_reducible refine thenQ.n ?_ | with_reducible refine blockQ.n ?_)
      refine ifG h (fun hc3956 h => ?_) (fun hc3956 h => ?_)
      · skip
        refine Safe.condK rfl hc3956 ?_
        repeat (first | refine Safe.seq ?_ | refine Safe.skip ?_ | with_reducible refine thenQ.n ?_ | with_reducible refine blockQ.n ?_)
        refine Safe.region ?_
        refine SafeOps.quiet0 E_good rfl rfl rfl (v := V.int .i64 1) (.fn rfl) ?_
        refine SafeOps.nil ?_
        repeat (first | refine Safe.seq ?_ | refine Safe.skip ?_ | with_reducible refine thenQ.n ?_ | with_reducible refine blockQ.n ?_)
        refine Safe.ret ?_
        repeat (first | with_reducible refine thenQ.r ?_ | with_reducible refine blockQ.r ?_)
        replace h := inr_out h hr3953
        obtain rfl := Option.some.inj h
        exact retQ.gen (vs := [V.int .i64 1]) rfl (.tmp (v := V.int .i64 1) rfl .nil) (.free rfl) (by simp) (.inr rfl)
      · skip
        refine Safe.condN rfl hc3956 ?_
        repeat (first | refine Safe.seq ?_ | refine Safe.skip ?_ | with_reducible refine thenQ.n ?_ | with_reducible refine blockQ.n ?_)
        refine Safe.region ?_
        refine SafeOps.quiet0 E_good rfl rfl rfl (v := V.int .i64 (IntKind.i64.wrap (v10_3952 + 1))) (.fn rfl) ?_
        refine SafeOps.quiet0 E_good rfl rfl rfl (v := V.int .i64 (IntKind.i64.wrap (v10_3952 + 1))) (.fn rfl) ?_
        refine SafeOps.nil ?_
        repeat (first | refine Safe.seq ?_ | refine Safe.skip ?_ | with_reducible refine thenQ.n ?_ | with_reducible refine blockQ.n ?_)
        exact ⟨_, next_out h, (.cov ⟨rfl, rfl, (upT_cons (.refl _) (upT_cons (.refl _) (upT_cons (.refl _) upT_nil))), upOb_nil, upOut_nil, rfl⟩)⟩
    · skip
      refine Safe.condN rfl hc3954 ?_
      repeat (first | refine Safe.seq ?_ | refine Safe.skip ?_ | with_reducible refine thenQ.n ?_ | with_reducible refine blockQ.n ?_)
      refine Safe.exit ?_
      repeat (first | with_reducible refine thenQ.e ?_ | with_reducible refine blockQ.x rfl ?_ | with_reducible refine blockQ.y rfl ?_)
      replace h := inr_out h hr3953
      repeat (first | refine Safe.seq ?_ | refine Safe.skip ?_ | with_reducible refine thenQ.n ?_ | with_reducible refine blockQ.n ?_)
      refine Safe.region ?_
      refine SafeOps.quiet0 E_good rfl rfl rfl (v := V.int .i64 0) (.fn rfl) ?_
      refine SafeOps.nil ?_
      repeat (first | refine Safe.seq ?_ | refine Safe.skip ?_ | with_reducible refine thenQ.n ?_ | with_reducible refine blockQ.n ?_)
      refine Safe.ret ?_
      repeat (first | with_reducible refine thenQ.r ?_ | with_reducible refine blockQ.r ?_)
      obtain rfl := Option.some.inj h
      exact retQ.gen (vs := [V.int .i64 0]) rfl (.tmp (v := V.int .i64 0) rfl .nil) (.free rfl) (by simp) (.inr rfl)

noncomputable def go_ravelref19_Write_s1 (a0_3912 : List api_Entry) : ((List Int) × Int) → Option (((List Int) × Int) ⊕ ((List Int) × Int))
  | (v5_3985, v15_3986) =>
    if (decide (v15_3986 < (a0_3912.length : Int))) = true then
      if 0 ≤ v15_3986 ∧ v15_3986 < (a0_3912.length : Int) then
        if few (v5_3985 ++ [IntKind.u8.wrap ((gt a0_3912 v15_3986).Kind), IntKind.u8.wrap ((gt a0_3912 v15_3986).A), IntKind.u8.wrap ((gt a0_3912 v15_3986).B)]).length then
          nextO (v5_3985 ++ [IntKind.u8.wrap ((gt a0_3912 v15_3986).Kind), IntKind.u8.wrap ((gt a0_3912 v15_3986).A), IntKind.u8.wrap ((gt a0_3912 v15_3986).B)], IntKind.i64.wrap (v15_3986 + 1))
        else none
      else none
    else
      inrO (
        some (v5_3985, 0))

noncomputable def go_ravelref19_Write (a0_3912 : List api_Entry) : Option ((List Int) × Int) :=
  (go_ravelref19_Check a0_3912).bind fun x_3974 =>
  if (x_3974 != 0) = true then
    some ([], x_3974)
  else
    whileO (go_ravelref19_Write_s1 a0_3912) ([], 0)

theorem go_ravelref19_Write_sc (a0_3912 : List api_Entry) (r : (List Int) × Int) (h : go_ravelref19_Write a0_3912 = some r) : SC Try.prog gl 14 [V.sl 3 (rws api_Entry.cells a0_3912)] (V.tup [V.own 1 (rws (fun n => [V.int .u8 n]) r.1), V.int .i64 r.2]) := by
  rw [go_ravelref19_Write] at h
  refine SC.of E_good Try.func14 rfl (fun _ _ => Try.call14 _ _) rfl ?_
  repeat (first | refine Safe.seq ?_ | refine Safe.skip ?_ | with_reducible refine thenQ.n ?_ | with_reducible refine blockQ.n ?_)
  refine Safe.region ?_
  refine SafeOps.quiet0 E_good rfl rfl rfl (v := V.nils) (.fn rfl) ?_
  refine SafeOps.quiet0 E_good rfl rfl rfl (v := V.int .i64 0) (.fn rfl) ?_
  refine SafeOps.nil ?_
  repeat (first | refine Safe.seq ?_ | refine Safe.skip ?_ | with_reducible refine thenQ.n ?_ | with_reducible refine blockQ.n ?_)
  refine Safe.region ?_
  refine SafeOps.quiet0 E_good rfl rfl rfl (v := V.sl 3 (rws api_Entry.cells a0_3912)) (.fn rfl) ?_
  refine bindG h ?_
  intro x_3974 he3975 h
  refine SafeOps.quiet0 E_good rfl rfl rfl (v := V.int .i64 x_3974) (.callP rfl rfl (go_ravelref19_Check_sc a0_3912 _ he3975) rfl) ?_
  refine SafeOps.quiet0 E_good rfl rfl rfl (v := V.int .i64 x_3974) (.fn rfl) ?_
  refine SafeOps.nil ?_
  repeat (first | refine Safe.seq ?_ | refine Safe.skip ?_ | with_reducible refine thenQ.n ?_ | with_reducible refine blockQ.n ?_)
  refine Safe.region ?_
  refine SafeOps.quiet0 E_good rfl rfl rfl (v := V.int .i64 x_3974) (.fn rfl) ?_
  refine SafeOps.quiet0 E_good rfl rfl rfl (v := V.bool (x_3974 != 0)) (.fn rfl) ?_
  refine SafeOps.nil ?_
  repeat (first | refine Safe.seq ?_ | refine Safe.skip ?_ | with_reducible refine thenQ.n ?_ | with_reducible refine blockQ.n ?_)
  refine ifG h (fun hc3976 h => ?_) (fun hc3976 h => ?_)
  · skip
    refine Safe.condK rfl hc3976 ?_
    repeat (first | refine Safe.seq ?_ | refine Safe.skip ?_ | with_reducible refine thenQ.n ?_ | with_reducible refine blockQ.n ?_)
    refine Safe.region ?_
    refine SafeOps.quiet0 E_good rfl rfl rfl (v := V.int .i64 x_3974) (.fn rfl) ?_
    refine SafeOps.quiet0 E_good rfl rfl rfl (v := V.nils) (.fn rfl) ?_
    refine SafeOps.quiet0 E_good rfl rfl rfl (v := V.int .i64 x_3974) (.fn rfl) ?_
    refine SafeOps.nil ?_
    repeat (first | refine Safe.seq ?_ | refine Safe.skip ?_ | with_reducible refine thenQ.n ?_ | with_reducible refine blockQ.n ?_)
    refine Safe.ret ?_
    repeat (first | with_reducible refine thenQ.r ?_ | with_reducible refine blockQ.r ?_)
    obtain rfl := Option.some.inj h
    exact retQ.gen (vs := [V.nils, V.int .i64 x_3974]) rfl (.tmp (v := V.nils) rfl (.tmp (v := V.int .i64 x_3974) rfl .nil)) (by exact (.tup (.cons (.nils _) (.cons (.free rfl) .nil)))) (by simp) (.inr rfl)
  · skip
    refine Safe.condN rfl hc3976 ?_
    repeat (first | refine Safe.seq ?_ | refine Safe.skip ?_ | with_reducible refine thenQ.n ?_ | with_reducible refine blockQ.n ?_)
    refine Safe.region ?_
    refine SafeOps.quiet0 E_good rfl rfl rfl (v := V.nils) (.fn rfl) ?_
    refine SafeOps.nil ?_
    repeat (first | refine Safe.seq ?_ | refine Safe.skip ?_ | with_reducible refine thenQ.n ?_ | with_reducible refine blockQ.n ?_)
    refine Safe.region ?_
    refine SafeOps.quiet0 E_good rfl rfl rfl (v := V.sl 3 (rws api_Entry.cells a0_3912)) (.fn rfl) ?_
    refine SafeOps.quiet0 E_good rfl rfl rfl (v := V.int .i64 (a0_3912.length : Int)) (.fnE rfl lenE) ?_
    refine SafeOps.quiet0 E_good rfl rfl rfl (v := V.int .i64 0) (.fn rfl) ?_
    refine SafeOps.nil ?_
    repeat (first | refine Safe.seq ?_ | refine Safe.skip ?_ | with_reducible refine thenQ.n ?_ | with_reducible refine blockQ.n ?_)
    refine Safe.block ?_
    repeat (first | refine Safe.seq ?_ | refine Safe.skip ?_ | with_reducible refine thenQ.n ?_ | with_reducible refine blockQ.n ?_)
    refine Safe.loopW (fun ((v5_3985, v15_3986) : (List Int) × Int) => ⟨Try.f14.ntmps, [(5, V.ref [7000, 118, 5] 0 (rws (fun n => [V.int .u8 n]) v5_3985).length), (13, V.sl 3 (rws api_Entry.cells a0_3912)), (14, V.int .i64 (a0_3912.length : Int)), (15, V.int .i64 v15_3986)], [([7000, 118, 5], Obj.rows 1 (rws (fun n => [V.int .u8 n]) v5_3985) false)], [], []⟩) h (.empty [7000, 118, 5] 1 rfl (.cov ⟨rfl, rfl, (upT_cons (.nilref _) (upT_cons (.refl _) (upT_cons (.refl _) (upT_cons (.refl _) upT_nil)))), (upOb_cons rfl (.refl _) upOb_nil), upOut_nil, rfl⟩)) ?_
    rintro ⟨v5_3985, v15_3986⟩ ohr3987 h hr3987
    replace h : go_ravelref19_Write_s1 a0_3912 (v5_3985, v15_3986) = some ohr3987 := h
    rw [go_ravelref19_Write_s1] at h
    repeat (first | refine Safe.seq ?_ | refine Safe.skip ?_ | with_reducible refine thenQ.n ?_ | with_reducible refine blockQ.n ?_)
    refine Safe.region ?_
    refine SafeOps.quiet0 E_good rfl rfl rfl (v := V.bool (decide (v15_3986 < (a0_3912.length : Int)))) (.fn rfl) ?_
    refine SafeOps.nil ?_
    repeat (first | refine Safe.seq ?_ | refine Safe.skip ?_ | with_reducible refine thenQ.n ?_ | with_reducible refine blockQ.n ?_)
    refine ifG h (fun hc3988 h => ?_) (fun hc3988 h => ?_)
    · skip
      refine Safe.condK rfl hc3988 ?_
      repeat (first | refine Safe.seq ?_ | refine Safe.skip ?_ | with_reducible refine thenQ.n ?_ | with_reducible refine blockQ.n ?_)
      refine Safe.block ?_
      repeat (first | refine Safe.seq ?_ | refine Safe.skip ?_ | with_reducible refine thenQ.n ?_ | with_reducible refine blockQ.n ?_)
      refine Safe.region ?_
      refine okG h (fun hb3989 h => ?_)
      refine SafeOps.quiet0 E_good rfl rfl rfl (v := V.spt 3 (rws api_Entry.cells a0_3912) (Int.toNat v15_3986) 0) (.idxSlM (f := api_Entry.cells) rfl rfl rfl rfl rfl hb3989) ?_
      refine SafeOps.quiet0 E_good rfl rfl rfl (v := V.agg [V.int .i64 ((gt a0_3912 v15_3986).Kind), V.int .i64 ((gt a0_3912 v15_3986).A), V.int .i64 ((gt a0_3912 v15_3986).B)]) (.load rfl rfl (.sptM (f := api_Entry.cells) hb3989 rfl) rfl) ?_
      refine SafeOps.quiet1 E_good rfl rfl rfl (.alloc rfl rfl) rfl ?_
      refine SafeOps.store (z := Obj.box [V.int .i64 ((gt a0_3912 v15_3986).Kind), V.int .i64 ((gt a0_3912 v15_3986).A), V.int .i64 ((gt a0_3912 v15_3986).B)]) E_good rfl rfl rfl rfl rfl rfl rfl (.boxM (c := 3) rfl rfl (Nat.le_of_ble_eq_true rfl) rfl) ?_
      refine SafeOps.nil ?_
      repeat (first | refine Safe.seq ?_ | refine Safe.skip ?_ | with_reducible refine thenQ.n ?_ | with_reducible refine blockQ.n ?_)
      refine Safe.region ?_
      refine SafeOps.quiet0 E_good rfl rfl rfl (v := V.ref [7000, 118, 5] 0 (rws (fun n => [V.int .u8 n]) v5_3985).length) (.fn rfl) ?_
      refine SafeOps.quiet0 E_good rfl rfl rfl (v := V.ptr [7] 0 0) (.fn rfl) ?_
      refine SafeOps.quiet0 E_good rfl rfl rfl (v := V.int .i64 ((gt a0_3912 v15_3986).Kind)) (.load rfl rfl (.box rfl rfl) rfl) ?_
      refine SafeOps.quiet0 E_good rfl rfl rfl (v := V.int .u8 (IntKind.u8.wrap ((gt a0_3912 v15_3986).Kind))) (.fn rfl) ?_
      refine SafeOps.quiet0 E_good rfl rfl rfl (v := V.ptr [7] 0 1) (.fn rfl) ?_
      refine SafeOps.quiet0 E_good rfl rfl rfl (v := V.int .i64 ((gt a0_3912 v15_3986).A)) (.load rfl rfl (.box rfl rfl) rfl) ?_
      refine SafeOps.quiet0 E_good rfl rfl rfl (v := V.int .u8 (IntKind.u8.wrap ((gt a0_3912 v15_3986).A))) (.fn rfl) ?_
      refine SafeOps.quiet0 E_good rfl rfl rfl (v := V.ptr [7] 0 2) (.fn rfl) ?_
      refine SafeOps.quiet0 E_good rfl rfl rfl (v := V.int .i64 ((gt a0_3912 v15_3986).B)) (.load rfl rfl (.box rfl rfl) rfl) ?_
      refine SafeOps.quiet0 E_good rfl rfl rfl (v := V.int .u8 (IntKind.u8.wrap ((gt a0_3912 v15_3986).B))) (.fn rfl) ?_
      refine SafeOps.quiet1 E_good rfl rfl rfl (.litM (f := (fun n => [V.int .u8 n])) (xs := [IntKind.u8.wrap ((gt a0_3912 v15_3986).Kind), IntKind.u8.wrap ((gt a0_3912 v15_3986).A), IntKind.u8.wrap ((gt a0_3912 v15_3986).B)]) rfl rfl (by decide) rfl rfl rfl rfl rfl) rfl ?_
      refine okG h (fun hb3990 h => ?_)
      refine SafeOps.appendM (fun n => [V.int .u8 n]) (xs := v5_3985) (ys := [IntKind.u8.wrap ((gt a0_3912 v15_3986).Kind), IntKind.u8.wrap ((gt a0_3912 v15_3986).A), IntKind.u8.wrap ((gt a0_3912 v15_3986).B)]) E_good rfl rfl rfl rfl rfl rfl rfl rfl rfl (.own rfl) (.own rfl) (fun _ => rfl) hb3990 ?_
      refine SafeOps.quiet0 E_good rfl rfl rfl (v := V.ref [30] 0 (rws (fun n => [V.int .u8 n]) (v5_3985 ++ [IntKind.u8.wrap ((gt a0_3912 v15_3986).Kind), IntKind.u8.wrap ((gt a0_3912 v15_3986).A), IntKind.u8.wrap ((gt a0_3912 v15_3986).B)])).length) (.fn rfl) ?_
      refine SafeOps.nil ?_
      repeat (first | refine Safe.seq ?_ | refine Safe.skip ?_ | with_reducible refine thenQ.n ?_ | with_reducible refine blockQ.n ?_)
      refine Safe.region ?_
      refine SafeOps.quiet0 E_good rfl rfl rfl (v := V.int .i64 (IntKind.i64.wrap (v15_3986 + 1))) (.fn rfl) ?_
      refine SafeOps.quiet0 E_good rfl rfl rfl (v := V.int .i64 (IntKind.i64.wrap (v15_3986 + 1))) (.fn rfl) ?_
      refine SafeOps.nil ?_
      repeat (first | refine Safe.seq ?_ | refine Safe.skip ?_ | with_reducible refine thenQ.n ?_ | with_reducible refine blockQ.n ?_)
      exact ⟨_, next_out h, (.ren [30] [7000, 118, 5] (.cov ⟨rfl, rfl, (upT_cons (.refl _) (upT_cons (.refl _) (upT_cons (.refl _) (upT_cons (.refl _) upT_nil)))), (upOb_cons rfl (.refl _) upOb_nil), upOut_nil, rfl⟩))⟩
    · skip
      refine Safe.condN rfl hc3988 ?_
      repeat (first | refine Safe.seq ?_ | refine Safe.skip ?_ | with_reducible refine thenQ.n ?_ | with_reducible refine blockQ.n ?_)
      refine Safe.exit ?_
      repeat (first | with_reducible refine thenQ.e ?_ | with_reducible refine blockQ.x rfl ?_ | with_reducible refine blockQ.y rfl ?_)
      replace h := inr_out h hr3987
      repeat (first | refine Safe.seq ?_ | refine Safe.skip ?_ | with_reducible refine thenQ.n ?_ | with_reducible refine blockQ.n ?_)
      refine Safe.region ?_
      refine SafeOps.quiet0 E_good rfl rfl rfl (v := V.ref [7000, 118, 5] 0 (rws (fun n => [V.int .u8 n]) v5_3985).length) (.fn rfl) ?_
      refine SafeOps.quiet0 E_good rfl rfl rfl (v := V.ref [7000, 118, 5] 0 (rws (fun n => [V.int .u8 n]) v5_3985).length) (.fn rfl) ?_
      refine SafeOps.quiet0 E_good rfl rfl rfl (v := V.int .i64 0) (.fn rfl) ?_
      refine SafeOps.nil ?_
      repeat (first | refine Safe.seq ?_ | refine Safe.skip ?_ | with_reducible refine thenQ.n ?_ | with_reducible refine blockQ.n ?_)
      refine Safe.ret ?_
      repeat (first | with_reducible refine thenQ.r ?_ | with_reducible refine blockQ.r ?_)
      obtain rfl := Option.some.inj h
      exact retQ.gen (vs := [V.ref [7000, 118, 5] 0 (rws (fun n => [V.int .u8 n]) v5_3985).length, V.int .i64 0]) rfl (.tmp (v := V.ref [7000, 118, 5] 0 (rws (fun n => [V.int .u8 n]) v5_3985).length) rfl (.tmp (v := V.int .i64 0) rfl .nil)) (by exact (.tup (.cons (.own rfl rfl) (.cons (.free rfl) .nil)))) (by simp) (.inr rfl)

noncomputable def go_entry_Read_s2 (a0_3994 : List Int) : (Int × (List api_Entry)) → Option ((Int × (List api_Entry)) ⊕ ((List api_Entry) × Int))
  | (v4_4109, v40_4110) =>
    if (decide (v4_4109 < (a0_3994.length : Int))) = true then
      if 0 ≤ v4_4109 ∧ v4_4109 ≤ (a0_3994.length : Int) then
        if 0 ≤ v4_4109 ∧ v4_4109 ≤ (IntKind.i64.wrap (v4_4109 + (if ((sub a0_3994 v4_4109 (a0_3994.length : Int)).length : Int) < (3 : Int) then ((sub a0_3994 v4_4109 (a0_3994.length : Int)).length : Int) else (3 : Int)))) ∧ (IntKind.i64.wrap (v4_4109 + (if ((sub a0_3994 v4_4109 (a0_3994.length : Int)).length : Int) < (3 : Int) then ((sub a0_3994 v4_4109 (a0_3994.length : Int)).length : Int) else (3 : Int)))) ≤ (IntKind.i64.wrap (v4_4109 + (if ((sub a0_3994 v4_4109 (a0_3994.length : Int)).length : Int) < (3 : Int) then ((sub a0_3994 v4_4109 (a0_3994.length : Int)).length : Int) else (3 : Int)))) ∧ (IntKind.i64.wrap (v4_4109 + (if ((sub a0_3994 v4_4109 (a0_3994.length : Int)).length : Int) < (3 : Int) then ((sub a0_3994 v4_4109 (a0_3994.length : Int)).length : Int) else (3 : Int)))) ≤ (a0_3994.length : Int) then
          if 0 ≤ (0 : Int) ∧ (0 : Int) < ((sub a0_3994 v4_4109 (IntKind.i64.wrap (v4_4109 + (if ((sub a0_3994 v4_4109 (a0_3994.length : Int)).length : Int) < (3 : Int) then ((sub a0_3994 v4_4109 (a0_3994.length : Int)).length : Int) else (3 : Int))))).length : Int) then
            if 0 ≤ (1 : Int) ∧ (1 : Int) < ((sub a0_3994 v4_4109 (IntKind.i64.wrap (v4_4109 + (if ((sub a0_3994 v4_4109 (a0_3994.length : Int)).length : Int) < (3 : Int) then ((sub a0_3994 v4_4109 (a0_3994.length : Int)).length : Int) else (3 : Int))))).length : Int) then
              if 0 ≤ (2 : Int) ∧ (2 : Int) < ((sub a0_3994 v4_4109 (IntKind.i64.wrap (v4_4109 + (if ((sub a0_3994 v4_4109 (a0_3994.length : Int)).length : Int) < (3 : Int) then ((sub a0_3994 v4_4109 (a0_3994.length : Int)).length : Int) else (3 : Int))))).length : Int) then
                if few (v40_4110 ++ [(api_Entry.mk (IntKind.i64.wrap (gt (sub a0_3994 v4_4109 (IntKind.i64.wrap (v4_4109 + (if ((sub a0_3994 v4_4109 (a0_3994.length : Int)).length : Int) < (3 : Int) then ((sub a0_3994 v4_4109 (a0_3994.length : Int)).length : Int) else (3 : Int))))) 0)) (IntKind.i64.wrap (gt (sub a0_3994 v4_4109 (IntKind.i64.wrap (v4_4109 + (if ((sub a0_3994 v4_4109 (a0_3994.length : Int)).length : Int) < (3 : Int) then ((sub a0_3994 v4_4109 (a0_3994.length : Int)).length : Int) else (3 : Int))))) 1)) (IntKind.i64.wrap (gt (sub a0_3994 v4_4109 (IntKind.i64.wrap (v4_4109 + (if ((sub a0_3994 v4_4109 (a0_3994.length : Int)).length : Int) < (3 : Int) then ((sub a0_3994 v4_4109 (a0_3994.length : Int)).length : Int) else (3 : Int))))) 2)))]).length then
                  nextO (IntKind.i64.wrap (v4_4109 + 3), v40_4110 ++ [(api_Entry.mk (IntKind.i64.wrap (gt (sub a0_3994 v4_4109 (IntKind.i64.wrap (v4_4109 + (if ((sub a0_3994 v4_4109 (a0_3994.length : Int)).length : Int) < (3 : Int) then ((sub a0_3994 v4_4109 (a0_3994.length : Int)).length : Int) else (3 : Int))))) 0)) (IntKind.i64.wrap (gt (sub a0_3994 v4_4109 (IntKind.i64.wrap (v4_4109 + (if ((sub a0_3994 v4_4109 (a0_3994.length : Int)).length : Int) < (3 : Int) then ((sub a0_3994 v4_4109 (a0_3994.length : Int)).length : Int) else (3 : Int))))) 1)) (IntKind.i64.wrap (gt (sub a0_3994 v4_4109 (IntKind.i64.wrap (v4_4109 + (if ((sub a0_3994 v4_4109 (a0_3994.length : Int)).length : Int) < (3 : Int) then ((sub a0_3994 v4_4109 (a0_3994.length : Int)).length : Int) else (3 : Int))))) 2)))])
                else none
              else none
            else none
          else none
        else none
      else none
    else
      inrO (
        (go_entry_Check v40_4110).bind fun x_4119 =>
        if (x_4119 != 0) = true then
          some ([], 2)
        else
          some (v40_4110, 0))

noncomputable def go_entry_Read (a0_3994 : List Int) : Option ((List api_Entry) × Int) :=
  if (decide ((a0_3994.length : Int) > 196608)) = true then
    some ([], 3)
  else
    if ((Int.tmod (a0_3994.length : Int) 3) != 0) = true then
      some ([], 2)
    else
      whileO (go_entry_Read_s2 a0_3994) (0, [])

theorem go_entry_Read_sc (a0_3994 : List Int) (r : (List api_Entry) × Int) (h : go_entry_Read a0_3994 = some r) : SC Try.prog gl 15 [V.sl 1 (rws (fun n => [V.int .u8 n]) a0_3994)] (V.tup [V.own 3 (rws api_Entry.cells r.1), V.int .i64 r.2]) := by
  rw [go_entry_Read] at h
  refine SC.of E_good Try.func15 rfl (fun _ _ => Try.call15 _ _) rfl ?_
  repeat (first | refine Safe.seq ?_ | refine Safe.skip ?_ | with_reducible refine thenQ.n ?_ | with_reducible refine blockQ.n ?_)
  refine Safe.region ?_
  refine SafeOps.quiet0 E_good rfl rfl rfl (v := V.nils) (.fn rfl) ?_
  refine SafeOps.quiet0 E_good rfl rfl rfl (v := V.int .i64 0) (.fn rfl) ?_
  refine SafeOps.nil ?_
  repeat (first | refine Safe.seq ?_ | refine Safe.skip ?_ | with_reducible refine thenQ.n ?_ | with_reducible refine blockQ.n ?_)
  refine Safe.block ?_
  repeat (first | refine Safe.seq ?_ | refine Safe.skip ?_ | with_reducible refine thenQ.n ?_ | with_reducible refine blockQ.n ?_)
  refine Safe.region ?_
  refine SafeOps.quiet0 E_good rfl rfl rfl (v := V.sl 1 (rws (fun n => [V.int .u8 n]) a0_3994)) (.fn rfl) ?_
  refine SafeOps.quiet0 E_good rfl rfl rfl (v := V.int .i64 (a0_3994.length : Int)) (.fnE rfl lenE) ?_
  refine SafeOps.quiet0 E_good rfl rfl rfl (v := V.bool (decide ((a0_3994.length : Int) > 196608))) (.fn rfl) ?_
  refine SafeOps.quiet0 E_good rfl rfl rfl (v := V.bool (decide ((a0_3994.length : Int) > 196608))) (.fn rfl) ?_
  refine SafeOps.nil ?_
  repeat (first | refine Safe.seq ?_ | refine Safe.skip ?_ | with_reducible refine thenQ.n ?_ | with_reducible refine blockQ.n ?_)
  refine ifG h (fun hc4065 h => ?_) (fun hc4065 h => ?_)
  · skip
    refine Safe.condK rfl hc4065 ?_
    repeat (first | refine Safe.seq ?_ | refine Safe.skip ?_ | with_reducible refine thenQ.n ?_ | with_reducible refine blockQ.n ?_)
    refine Safe.region ?_
    refine SafeOps.quiet0 E_good rfl rfl rfl (v := V.nils) (.fn rfl) ?_
    refine SafeOps.quiet0 E_good rfl rfl rfl (v := V.int .i64 3) (.fn rfl) ?_
    refine SafeOps.nil ?_
    repeat (first | refine Safe.seq ?_ | refine Safe.skip ?_ | with_reducible refine thenQ.n ?_ | with_reducible refine blockQ.n ?_)
    refine Safe.ret ?_
    repeat (first | with_reducible refine thenQ.r ?_ | with_reducible refine blockQ.r ?_)
    obtain rfl := Option.some.inj h
    exact retQ.gen (vs := [V.nils, V.int .i64 3]) rfl (.tmp (v := V.nils) rfl (.tmp (v := V.int .i64 3) rfl .nil)) (by exact (.tup (.cons (.nils _) (.cons (.free rfl) .nil)))) (by simp) (.inr rfl)
  · skip
    refine Safe.condN rfl hc4065 ?_
    repeat (first | refine Safe.seq ?_ | refine Safe.skip ?_ | with_reducible refine thenQ.n ?_ | with_reducible refine blockQ.n ?_)
    refine Safe.region ?_
    refine SafeOps.quiet0 E_good rfl rfl rfl (v := V.sl 1 (rws (fun n => [V.int .u8 n]) a0_3994)) (.fn rfl) ?_
    refine SafeOps.quiet0 E_good rfl rfl rfl (v := V.int .i64 (a0_3994.length : Int)) (.fnE rfl lenE) ?_
    refine SafeOps.quiet0 E_good rfl rfl rfl (v := V.int .i64 (Int.tmod (a0_3994.length : Int) 3)) (.remV rfl rfl (by decide)) ?_
    refine SafeOps.quiet0 E_good rfl rfl rfl (v := V.bool ((Int.tmod (a0_3994.length : Int) 3) != 0)) (.fn rfl) ?_
    refine SafeOps.quiet0 E_good rfl rfl rfl (v := V.bool ((Int.tmod (a0_3994.length : Int) 3) != 0)) (.fn rfl) ?_
    refine SafeOps.nil ?_
    repeat (first | refine Safe.seq ?_ | refine Safe.skip ?_ | with_reducible refine thenQ.n ?_ | with_reducible refine blockQ.n ?_)
    refine ifG h (fun hc4066 h => ?_) (fun hc4066 h => ?_)
    · skip
      refine Safe.condK rfl hc4066 ?_
      repeat (first | refine Safe.seq ?_ | refine Safe.skip ?_ | with_reducible refine thenQ.n ?_ | with_reducible refine blockQ.n ?_)
      refine Safe.region ?_
      refine SafeOps.quiet0 E_good rfl rfl rfl (v := V.nils) (.fn rfl) ?_
      refine SafeOps.quiet0 E_good rfl rfl rfl (v := V.int .i64 2) (.fn rfl) ?_
      refine SafeOps.nil ?_
      repeat (first | refine Safe.seq ?_ | refine Safe.skip ?_ | with_reducible refine thenQ.n ?_ | with_reducible refine blockQ.n ?_)
      refine Safe.ret ?_
      repeat (first | with_reducible refine thenQ.r ?_ | with_reducible refine blockQ.r ?_)
      obtain rfl := Option.some.inj h
      exact retQ.gen (vs := [V.nils, V.int .i64 2]) rfl (.tmp (v := V.nils) rfl (.tmp (v := V.int .i64 2) rfl .nil)) (by exact (.tup (.cons (.nils _) (.cons (.free rfl) .nil)))) (by simp) (.inr rfl)
    · skip
      refine Safe.condN rfl hc4066 ?_
      repeat (first | refine Safe.seq ?_ | refine Safe.skip ?_ | with_reducible refine thenQ.n ?_ | with_reducible refine blockQ.n ?_)
      refine Safe.region ?_
      refine SafeOps.quiet1 E_good rfl rfl rfl (.alloc rfl rfl) rfl ?_
      refine SafeOps.nil ?_
      repeat (first | refine Safe.seq ?_ | refine Safe.skip ?_ | with_reducible refine thenQ.n ?_ | with_reducible refine blockQ.n ?_)
      refine Safe.region ?_
      refine SafeOps.quiet0 E_good rfl rfl rfl (v := V.sl 1 (rws (fun n => [V.int .u8 n]) a0_3994)) (.fn rfl) ?_
      refine SafeOps.inline E_good rfl rfl rfl rfl rfl Try.func29 rfl (fun _ _ => Try.call29 _ _) rfl ?_
      repeat (first | refine Safe.seq ?_ | refine Safe.skip ?_ | with_reducible refine thenQ.n ?_ | with_reducible refine blockQ.n ?_)
      refine Safe.region ?_
      refine SafeOps.quiet1 E_good rfl rfl rfl (.box rfl rfl) rfl ?_
      refine SafeOps.quiet1 E_good rfl rfl rfl (.box rfl rfl) rfl ?_
      refine SafeOps.quiet0 E_good rfl rfl rfl (v := V.nilf) (.fn rfl) ?_
      refine SafeOps.nil ?_
      repeat (first | refine Safe.seq ?_ | refine Safe.skip ?_ | with_reducible refine thenQ.n ?_ | with_reducible refine blockQ.n ?_)
      refine Safe.region ?_
      refine SafeOps.quiet0 E_good rfl rfl rfl (v := V.int .i64 3) (.load rfl rfl (.box rfl rfl) rfl) ?_
      refine SafeOps.quiet0 E_good rfl rfl rfl (v := V.bool false) (.fn rfl) ?_
      refine SafeOps.nil ?_
      repeat (first | refine Safe.seq ?_ | refine Safe.skip ?_ | with_reducible refine thenQ.n ?_ | with_reducible refine blockQ.n ?_)
      refine Safe.condN rfl rfl ?_
      repeat (first | refine Safe.seq ?_ | refine Safe.skip ?_ | with_reducible refine thenQ.n ?_ | with_reducible refine blockQ.n ?_)
      refine Safe.region ?_
      refine SafeOps.quiet0 E_good rfl rfl rfl (v := V.fn 50 [V.ptr [16, 2] 0 0, V.ptr [16, 3] 0 0]) (.fn rfl) ?_
      refine SafeOps.quiet0 E_good rfl rfl rfl (v := V.fn 50 [V.ptr [16, 2] 0 0, V.ptr [16, 3] 0 0]) (.fn rfl) ?_
      refine SafeOps.nil ?_
      repeat (first | refine Safe.seq ?_ | refine Safe.skip ?_ | with_reducible refine thenQ.n ?_ | with_reducible refine blockQ.n ?_)
      refine Safe.ret ?_
      repeat (first | with_reducible refine thenQ.r ?_ | with_reducible refine blockQ.r ?_)
      refine inQ.gen (vs := [V.fn 50 [V.ptr [16, 2] 0 0, V.ptr [16, 3] 0 0]]) (v := V.fn 50 [V.ptr [16, 2] 0 0, V.ptr [16, 3] 0 0]) (.inr rfl) rfl (.tmp (v := V.fn 50 [V.ptr [16, 2] 0 0, V.ptr [16, 3] 0 0]) rfl .nil) rfl ?_
      refine SafeOps.nil ?_
      repeat (first | refine Safe.seq ?_ | refine Safe.skip ?_ | with_reducible refine thenQ.n ?_ | with_reducible refine blockQ.n ?_)
      refine Safe.block ?_
      repeat (first | refine Safe.seq ?_ | refine Safe.skip ?_ | with_reducible refine thenQ.n ?_ | with_reducible refine blockQ.n ?_)
      refine Safe.rangeFunc (k := 9017) rfl rfl Try.func50 rfl (fun _ _ => Try.call50 _ _) rfl rfl rfl ?_
      repeat (first | refine Safe.seq ?_ | refine Safe.skip ?_ | with_reducible refine thenQ.n ?_ | with_reducible refine blockQ.n ?_)
      refine Safe.region ?_
      refine SafeOps.quiet0 E_good rfl rfl rfl (v := V.int .i64 0) (.fn rfl) ?_
      refine SafeOps.nil ?_
      repeat (first | refine Safe.seq ?_ | refine Safe.skip ?_ | with_reducible refine thenQ.n ?_ | with_reducible refine blockQ.n ?_)
      refine Safe.block ?_
      repeat (first | refine Safe.seq ?_ | refine Safe.skip ?_ | with_reducible refine thenQ.n ?_ | with_reducible refine blockQ.n ?_)
      refine Safe.loopW (fun ((v4_4109, v40_4110) : Int × (List api_Entry)) => ⟨Try.f50.ntmps, [(0, V.yld [9017]), (1, V.ptr [16, 2] 0 0), (2, V.ptr [16, 3] 0 0), (4, V.int .i64 v4_4109)], [([4], Obj.box [V.ref [7000, 114, 4, 0] 0 (rws api_Entry.cells v40_4110).length]), ([16, 2], Obj.box [V.sl 1 (rws (fun n => [V.int .u8 n]) a0_3994)]), ([16, 3], Obj.box [V.int .i64 3]), ([7000, 114, 4, 0], Obj.rows 3 (rws api_Entry.cells v40_4110) false), ([9017], Go.AM.Obj.loop Try.f15.ntmps [(4, V.ptr [4] 0 0)] [17] (rfA Try.f15 0) (rfB Try.f15 0) .ready none)], [(1, [(0, V.yld [9017])]), (Try.f15.ntmps, [(4, V.ptr [4] 0 0)])], [9017, 0]⟩) h (.empty [7000, 114, 4, 0] 3 rfl (.cov ⟨rfl, rfl, (upT_cons (.refl _) (upT_cons (.refl _) (upT_cons (.refl _) (upT_cons (.refl _) upT_nil)))), (upOb_cons rfl (.box (.cons (.nilref _) .nil)) (upOb_cons rfl (.refl _) (upOb_cons rfl (.refl _) (upOb_cons rfl (.refl _) (upOb_cons rfl (by exact .loop (upT_cons (.refl _) upT_nil)) upOb_nil))))), (upOut_cons rfl (upT_cons (.refl _) upT_nil) (upOut_cons rfl (upT_cons (.refl _) upT_nil) upOut_nil)), rfl⟩)) ?_
      rintro ⟨v4_4109, v40_4110⟩ ohr4111 h hr4111
      replace h : go_entry_Read_s2 a0_3994 (v4_4109, v40_4110) = some ohr4111 := h
      rw [go_entry_Read_s2] at h
      repeat (first | refine Safe.seq ?_ | refine Safe.skip ?_ | with_reducible refine thenQ.n ?_ | with_reducible refine blockQ.n ?_)
      refine Safe.region ?_
      refine SafeOps.quiet0 E_good rfl rfl rfl (v := V.int .i64 v4_4109) (.fn rfl) ?_
      refine SafeOps.quiet0 E_good rfl rfl rfl (v := V.sl 1 (rws (fun n => [V.int .u8 n]) a0_3994)) (.load rfl rfl (.box rfl rfl) rfl) ?_
      refine SafeOps.quiet0 E_good rfl rfl rfl (v := V.int .i64 (a0_3994.length : Int)) (.fnE rfl lenE) ?_
      refine SafeOps.quiet0 E_good rfl rfl rfl (v := V.bool (decide (v4_4109 < (a0_3994.length : Int)))) (.fn rfl) ?_
      refine SafeOps.nil ?_
      repeat (first | refine Safe.seq ?_ | refine Safe.skip ?_ | with_reducible refine thenQ.n ?_ | with_reducible refine blockQ.n ?_)
      refine ifG h (fun hc4112 h => ?_) (fun hc4112 h => ?_)
      · skip
        refine Safe.condK rfl hc4112 ?_
        repeat (first | refine Safe.seq ?_ | refine Safe.skip ?_ | with_reducible refine thenQ.n ?_ | with_reducible refine blockQ.n ?_)
        refine Safe.block ?_
        repeat (first | refine Safe.seq ?_ | refine Safe.skip ?_ | with_reducible refine thenQ.n ?_ | with_reducible refine blockQ.n ?_)
        refine Safe.regionD (n := 7) [] [] E_good mixed rfl ?_
        refine DAny.take (i := 0) rfl (by kernel_rfl) [] (by kernel_rfl) (by kernel_rfl) (by kernel_rfl) rfl rfl rfl (v := V.int .i64 3) (fun _ hz => (.load rfl rfl (.box (hz _ _ rfl rfl) rfl) rfl)) ?_
        refine DAny.take (i := 1) rfl (by kernel_rfl) [] (by kernel_rfl) (by kernel_rfl) (by kernel_rfl) rfl rfl rfl (v := V.sl 1 (rws (fun n => [V.int .u8 n]) a0_3994)) (fun _ hz => (.load rfl rfl (.box (hz _ _ rfl rfl) rfl) rfl)) ?_
        refine DAny.take (i := 2) rfl (by kernel_rfl) [] (by kernel_rfl) (by kernel_rfl) (by kernel_rfl) rfl rfl rfl (v := V.int .i64 v4_4109) (fun _ hz => (.fn rfl)) ?_
        refine okG h (fun hb4113 h => ?_)
        refine DAny.take (i := 3) rfl (by kernel_rfl) [] (by kernel_rfl) (by kernel_rfl) (by kernel_rfl) rfl rfl rfl (v := V.sl 1 (rws (fun n => [V.int .u8 n]) (sub a0_3994 v4_4109 (a0_3994.length : Int)))) (fun _ hz => (.slL (f := (fun n => [V.int .u8 n])) rfl rfl rfl rfl rfl hb4113)) ?_
        refine DAny.take (i := 4) rfl (by kernel_rfl) [] (by kernel_rfl) (by kernel_rfl) (by kernel_rfl) rfl rfl rfl (v := V.int .i64 ((sub a0_3994 v4_4109 (a0_3994.length : Int)).length : Int)) (fun _ hz => (.fnE rfl lenE)) ?_
        refine DAny.take (i := 5) rfl (by kernel_rfl) [] (by kernel_rfl) (by kernel_rfl) (by kernel_rfl) rfl rfl rfl (v := V.int .i64 (if ((sub a0_3994 v4_4109 (a0_3994.length : Int)).length : Int) < (3 : Int) then ((sub a0_3994 v4_4109 (a0_3994.length : Int)).length : Int) else (3 : Int))) (fun _ hz => (.fn rfl)) ?_
        refine DAny.take (i := 6) rfl (by kernel_rfl) [] (by kernel_rfl) (by kernel_rfl) (by kernel_rfl) rfl rfl rfl (v := V.int .i64 (if ((sub a0_3994 v4_4109 (a0_3994.length : Int)).length : Int) < (3 : Int) then ((sub a0_3994 v4_4109 (a0_3994.length : Int)).length : Int) else (3 : Int))) (fun _ hz => (.fn rfl)) ?_
        refine DAny.nil (by kernel_rfl) ?_
        repeat (first | refine Safe.seq ?_ | refine Safe.skip ?_ | with_reducible refine thenQ.n ?_ | with_reducible refine blockQ.n ?_)
        refine Safe.region ?_
        refine SafeOps.quiet0 E_good rfl rfl rfl (v := V.yld [9017]) (.fn rfl) ?_
        refine SafeOps.quiet0 E_good rfl rfl rfl (v := V.sl 1 (rws (fun n => [V.int .u8 n]) a0_3994)) (.load rfl rfl (.box rfl rfl) rfl) ?_
        refine SafeOps.quiet0 E_good rfl rfl rfl (v := V.int .i64 v4_4109) (.fn rfl) ?_
        refine SafeOps.quiet0 E_good rfl rfl rfl (v := V.int .i64 v4_4109) (.fn rfl) ?_
        refine SafeOps.quiet0 E_good rfl rfl rfl (v := V.int .i64 (if ((sub a0_3994 v4_4109 (a0_3994.length : Int)).length : Int) < (3 : Int) then ((sub a0_3994 v4_4109 (a0_3994.length : Int)).length : Int) else (3 : Int))) (.fn rfl) ?_
        refine SafeOps.quiet0 E_good rfl rfl rfl (v := V.int .i64 (IntKind.i64.wrap (v4_4109 + (if ((sub a0_3994 v4_4109 (a0_3994.length : Int)).length : Int) < (3 : Int) then ((sub a0_3994 v4_4109 (a0_3994.length : Int)).length : Int) else (3 : Int))))) (.fn rfl) ?_
        refine SafeOps.quiet0 E_good rfl rfl rfl (v := V.int .i64 v4_4109) (.fn rfl) ?_
        refine SafeOps.quiet0 E_good rfl rfl rfl (v := V.int .i64 (if ((sub a0_3994 v4_4109 (a0_3994.length : Int)).length : Int) < (3 : Int) then ((sub a0_3994 v4_4109 (a0_3994.length : Int)).length : Int) else (3 : Int))) (.fn rfl) ?_
        refine SafeOps.quiet0 E_good rfl rfl rfl (v := V.int .i64 (IntKind.i64.wrap (v4_4109 + (if ((sub a0_3994 v4_4109 (a0_3994.length : Int)).length : Int) < (3 : Int) then ((sub a0_3994 v4_4109 (a0_3994.length : Int)).length : Int) else (3 : Int))))) (.fn rfl) ?_
        refine okG h (fun hb4114 h => ?_)
        refine SafeOps.quiet0 E_good rfl rfl rfl (v := V.sl 1 (rws (fun n => [V.int .u8 n]) (sub a0_3994 v4_4109 (IntKind.i64.wrap (v4_4109 + (if ((sub a0_3994 v4_4109 (a0_3994.length : Int)).length : Int) < (3 : Int) then ((sub a0_3994 v4_4109 (a0_3994.length : Int)).length : Int) else (3 : Int))))))) (.slLH3 (f := (fun n => [V.int .u8 n])) rfl rfl rfl rfl rfl rfl rfl hb4114) ?_
        refine SafeOps.yield rfl rfl rfl rfl rfl rfl rfl rfl ?_
        repeat (first | refine Safe.seq ?_ | refine Safe.skip ?_ | with_reducible refine thenQ.n ?_ | with_reducible refine blockQ.n ?_)
        refine Safe.region ?_
        refine SafeOps.quiet0 E_good rfl rfl rfl (v := V.sl 1 (rws (fun n => [V.int .u8 n]) (sub a0_3994 v4_4109 (IntKind.i64.wrap (v4_4109 + (if ((sub a0_3994 v4_4109 (a0_3994.length : Int)).length : Int) < (3 : Int) then ((sub a0_3994 v4_4109 (a0_3994.length : Int)).length : Int) else (3 : Int))))))) (.fn rfl) ?_
        refine SafeOps.nil ?_
        repeat (first | refine Safe.seq ?_ | refine Safe.skip ?_ | with_reducible refine thenQ.n ?_ | with_reducible refine blockQ.n ?_)
        refine asgQ.go rfl rfl ?_
        repeat (first | refine Safe.seq ?_ | refine Safe.skip ?_ | with_reducible refine thenQ.n ?_ | with_reducible refine blockQ.n ?_)
        refine Safe.block ?_
        repeat (first | refine Safe.seq ?_ | refine Safe.skip ?_ | with_reducible refine thenQ.n ?_ | with_reducible refine blockQ.n ?_)
        refine Safe.regionD (n := 17) [(16, [4])] [15] E_good mixed rfl ?_
        refine DAny.take (i := 0) rfl (by kernel_rfl) [] (by kernel_rfl) (by kernel_rfl) (by kernel_rfl) rfl rfl rfl (v := V.ref [7000, 114, 4, 0] 0 (rws api_Entry.cells v40_4110).length) (fun _ hz => (.load rfl rfl (.box (hz _ _ rfl rfl) rfl) rfl)) ?_
        refine DAny.take (i := 1) rfl (by kernel_rfl) [[4]] (by kernel_rfl) (by kernel_rfl) (by kernel_rfl) rfl rfl rfl (v := V.sl 1 (rws (fun n => [V.int .u8 n]) (sub a0_3994 v4_4109 (IntKind.i64.wrap (v4_4109 + (if ((sub a0_3994 v4_4109 (a0_3994.length : Int)).length : Int) < (3 : Int) then ((sub a0_3994 v4_4109 (a0_3994.length : Int)).length : Int) else (3 : Int))))))) (fun _ hz => (.fn rfl)) ?_
        refine okG h (fun hb4115 h => ?_)
        refine DAny.take (i := 2) rfl (by kernel_rfl) [[4]] (by kernel_rfl) (by kernel_rfl) (by kernel_rfl) rfl rfl rfl (v := V.spt 1 (rws (fun n => [V.int .u8 n]) (sub a0_3994 v4_4109 (IntKind.i64.wrap (v4_4109 + (if ((sub a0_3994 v4_4109 (a0_3994.length : Int)).length : Int) < (3 : Int) then ((sub a0_3994 v4_4109 (a0_3994.length : Int)).length : Int) else (3 : Int)))))) (Int.toNat 0) 0) (fun _ hz => (.idxSlM (f := (fun n => [V.int .u8 n])) rfl rfl rfl rfl rfl hb4115)) ?_
        refine DAny.take (i := 3) rfl (by kernel_rfl) [[4]] (by kernel_rfl) (by kernel_rfl) (by kernel_rfl) rfl rfl rfl (v := V.int .u8 (gt (sub a0_3994 v4_4109 (IntKind.i64.wrap (v4_4109 + (if ((sub a0_3994 v4_4109 (a0_3994.length : Int)).length : Int) < (3 : Int) then ((sub a0_3994 v4_4109 (a0_3994.length : Int)).length : Int) else (3 : Int))))) 0)) (fun _ hz => (.load rfl rfl (.sptM (f := (fun n => [V.int .u8 n])) hb4115 rfl) rfl)) ?_
        refine DAny.take (i := 4) rfl (by kernel_rfl) [[4]] (by kernel_rfl) (by kernel_rfl) (by kernel_rfl) rfl rfl rfl (v := V.int .i64 (IntKind.i64.wrap (gt (sub a0_3994 v4_4109 (IntKind.i64.wrap (v4_4109 + (if ((sub a0_3994 v4_4109 (a0_3994.length : Int)).length : Int) < (3 : Int) then ((sub a0_3994 v4_4109 (a0_3994.length : Int)).length : Int) else (3 : Int))))) 0))) (fun _ hz => (.fn rfl)) ?_
        refine DAny.take (i := 5) rfl (by kernel_rfl) [[4]] (by kernel_rfl) (by kernel_rfl) (by kernel_rfl) rfl rfl rfl (v := V.sl 1 (rws (fun n => [V.int .u8 n]) (sub a0_3994 v4_4109 (IntKind.i64.wrap (v4_4109 + (if ((sub a0_3994 v4_4109 (a0_3994.length : Int)).length : Int) < (3 : Int) then ((sub a0_3994 v4_4109 (a0_3994.length : Int)).length : Int) else (3 : Int))))))) (fun _ hz => (.fn rfl)) ?_
        refine okG h (fun hb4116 h => ?_)
        refine DAny.take (i := 6) rfl (by kernel_rfl) [[4]] (by kernel_rfl) (by kernel_rfl) (by kernel_rfl) rfl rfl rfl (v := V.spt 1 (rws (fun n => [V.int .u8 n]) (sub a0_3994 v4_4109 (IntKind.i64.wrap (v4_4109 + (if ((sub a0_3994 v4_4109 (a0_3994.length : Int)).length : Int) < (3 : Int) then ((sub a0_3994 v4_4109 (a0_3994.length : Int)).length : Int) else (3 : Int)))))) (Int.toNat 1) 0) (fun _ hz => (.idxSlM (f := (fun n => [V.int .u8 n])) rfl rfl rfl rfl rfl hb4116)) ?_
        refine DAny.take (i := 7) rfl (by kernel_rfl) [[4]] (by kernel_rfl) (by kernel_rfl) (by kernel_rfl) rfl rfl rfl (v := V.int .u8 (gt (sub a0_3994 v4_4109 (IntKind.i64.wrap (v4_4109 + (if ((sub a0_3994 v4_4109 (a0_3994.length : Int)).length : Int) < (3 : Int) then ((sub a0_3994 v4_4109 (a0_3994.length : Int)).length : Int) else (3 : Int))))) 1)) (fun _ hz => (.load rfl rfl (.sptM (f := (fun n => [V.int .u8 n])) hb4116 rfl) rfl)) ?_
        refine DAny.take (i := 8) rfl (by kernel_rfl) [[4]] (by kernel_rfl) (by kernel_rfl) (by kernel_rfl) rfl rfl rfl (v := V.int .i64 (IntKind.i64.wrap (gt (sub a0_3994 v4_4109 (IntKind.i64.wrap (v4_4109 + (if ((sub a0_3994 v4_4109 (a0_3994.length : Int)).length : Int) < (3 : Int) then ((sub a0_3994 v4_4109 (a0_3994.length : Int)).length : Int) else (3 : Int))))) 1))) (fun _ hz => (.fn rfl)) ?_
        refine DAny.take (i := 9) rfl (by kernel_rfl) [[4]] (by kernel_rfl) (by kernel_rfl) (by kernel_rfl) rfl rfl rfl (v := V.sl 1 (rws (fun n => [V.int .u8 n]) (sub a0_3994 v4_4109 (IntKind.i64.wrap (v4_4109 + (if ((sub a0_3994 v4_4109 (a0_3994.length : Int)).length : Int) < (3 : Int) then ((sub a0_3994 v4_4109 (a0_3994.length : Int)).length : Int) else (3 : Int))))))) (fun _ hz => (.fn rfl)) ?_
        refine okG h (fun hb4117 h => ?_)
        refine DAny.take (i := 10) rfl (by kernel_rfl) [[4]] (by kernel_rfl) (by kernel_rfl) (by kernel_rfl) rfl rfl rfl (v := V.spt 1 (rws (fun n => [V.int .u8 n]) (sub a0_3994 v4_4109 (IntKind.i64.wrap (v4_4109 + (if ((sub a0_3994 v4_4109 (a0_3994.length : Int)).length : Int) < (3 : Int) then ((sub a0_3994 v4_4109 (a0_3994.length : Int)).length : Int) else (3 : Int)))))) (Int.toNat 2) 0) (fun _ hz => (.idxSlM (f := (fun n => [V.int .u8 n])) rfl rfl rfl rfl rfl hb4117)) ?_
        refine DAny.take (i := 11) rfl (by kernel_rfl) [[4]] (by kernel_rfl) (by kernel_rfl) (by kernel_rfl) rfl rfl rfl (v := V.int .u8 (gt (sub a0_3994 v4_4109 (IntKind.i64.wrap (v4_4109 + (if ((sub a0_3994 v4_4109 (a0_3994.length : Int)).length : Int) < (3 : Int) then ((sub a0_3994 v4_4109 (a0_3994.length : Int)).length : Int) else (3 : Int))))) 2)) (fun _ hz => (.load rfl rfl (.sptM (f := (fun n => [V.int .u8 n])) hb4117 rfl) rfl)) ?_
        refine DAny.take (i := 12) rfl (by kernel_rfl) [[4]] (by kernel_rfl) (by kernel_rfl) (by kernel_rfl) rfl rfl rfl (v := V.int .i64 (IntKind.i64.wrap (gt (sub a0_3994 v4_4109 (IntKind.i64.wrap (v4_4109 + (if ((sub a0_3994 v4_4109 (a0_3994.length : Int)).length : Int) < (3 : Int) then ((sub a0_3994 v4_4109 (a0_3994.length : Int)).length : Int) else (3 : Int))))) 2))) (fun _ hz => (.fn rfl)) ?_
        refine DAny.take (i := 13) rfl (by kernel_rfl) [[4]] (by kernel_rfl) (by kernel_rfl) (by kernel_rfl) rfl rfl rfl (v := V.agg [V.int .i64 (IntKind.i64.wrap (gt (sub a0_3994 v4_4109 (IntKind.i64.wrap (v4_4109 + (if ((sub a0_3994 v4_4109 (a0_3994.length : Int)).length : Int) < (3 : Int) then ((sub a0_3994 v4_4109 (a0_3994.length : Int)).length : Int) else (3 : Int))))) 0)), V.int .i64 (IntKind.i64.wrap (gt (sub a0_3994 v4_4109 (IntKind.i64.wrap (v4_4109 + (if ((sub a0_3994 v4_4109 (a0_3994.length : Int)).length : Int) < (3 : Int) then ((sub a0_3994 v4_4109 (a0_3994.length : Int)).length : Int) else (3 : Int))))) 1)), V.int .i64 (IntKind.i64.wrap (gt (sub a0_3994 v4_4109 (IntKind.i64.wrap (v4_4109 + (if ((sub a0_3994 v4_4109 (a0_3994.length : Int)).length : Int) < (3 : Int) then ((sub a0_3994 v4_4109 (a0_3994.length : Int)).length : Int) else (3 : Int))))) 2))]) (fun _ hz => (.fn rfl)) ?_
        refine DAny.only (i := 14) rfl (by kernel_rfl) (.quiet rfl rfl rfl (.litM (f := api_Entry.cells) (xs := [(api_Entry.mk (IntKind.i64.wrap (gt (sub a0_3994 v4_4109 (IntKind.i64.wrap (v4_4109 + (if ((sub a0_3994 v4_4109 (a0_3994.length : Int)).length : Int) < (3 : Int) then ((sub a0_3994 v4_4109 (a0_3994.length : Int)).length : Int) else (3 : Int))))) 0)) (IntKind.i64.wrap (gt (sub a0_3994 v4_4109 (IntKind.i64.wrap (v4_4109 + (if ((sub a0_3994 v4_4109 (a0_3994.length : Int)).length : Int) < (3 : Int) then ((sub a0_3994 v4_4109 (a0_3994.length : Int)).length : Int) else (3 : Int))))) 1)) (IntKind.i64.wrap (gt (sub a0_3994 v4_4109 (IntKind.i64.wrap (v4_4109 + (if ((sub a0_3994 v4_4109 (a0_3994.length : Int)).length : Int) < (3 : Int) then ((sub a0_3994 v4_4109 (a0_3994.length : Int)).length : Int) else (3 : Int))))) 2)))]) rfl rfl (by decide) rfl rfl rfl rfl rfl) rfl ?_)
        refine DAny.onlyS (i := 15) rfl (by kernel_rfl) rfl ?_
        refine okG h (fun hb4118 h => ?_)
        refine SafeOps.appendM api_Entry.cells (xs := v40_4110) (ys := [(api_Entry.mk (IntKind.i64.wrap (gt (sub a0_3994 v4_4109 (IntKind.i64.wrap (v4_4109 + (if ((sub a0_3994 v4_4109 (a0_3994.length : Int)).length : Int) < (3 : Int) then ((sub a0_3994 v4_4109 (a0_3994.length : Int)).length : Int) else (3 : Int))))) 0)) (IntKind.i64.wrap (gt (sub a0_3994 v4_4109 (IntKind.i64.wrap (v4_4109 + (if ((sub a0_3994 v4_4109 (a0_3994.length : Int)).length : Int) < (3 : Int) then ((sub a0_3994 v4_4109 (a0_3994.length : Int)).length : Int) else (3 : Int))))) 1)) (IntKind.i64.wrap (gt (sub a0_3994 v4_4109 (IntKind.i64.wrap (v4_4109 + (if ((sub a0_3994 v4_4109 (a0_3994.length : Int)).length : Int) < (3 : Int) then ((sub a0_3994 v4_4109 (a0_3994.length : Int)).length : Int) else (3 : Int))))) 2)))]) E_good rfl rfl rfl rfl rfl rfl rfl rfl rfl (.own rfl) (.own rfl) (fun _ => rfl) hb4118 ?_
        refine SafeOps.nil ⟨rfl, ?_⟩
        refine DAny.only (i := 16) rfl (by kernel_rfl) (.store (z := Obj.box [V.ref [9017, 0, 29, 33] 0 (rws api_Entry.cells (v40_4110 ++ [(api_Entry.mk (IntKind.i64.wrap (gt (sub a0_3994 v4_4109 (IntKind.i64.wrap (v4_4109 + (if ((sub a0_3994 v4_4109 (a0_3994.length : Int)).length : Int) < (3 : Int) then ((sub a0_3994 v4_4109 (a0_3994.length : Int)).length : Int) else (3 : Int))))) 0)) (IntKind.i64.wrap (gt (sub a0_3994 v4_4109 (IntKind.i64.wrap (v4_4109 + (if ((sub a0_3994 v4_4109 (a0_3994.length : Int)).length : Int) < (3 : Int) then ((sub a0_3994 v4_4109 (a0_3994.length : Int)).length : Int) else (3 : Int))))) 1)) (IntKind.i64.wrap (gt (sub a0_3994 v4_4109 (IntKind.i64.wrap (v4_4109 + (if ((sub a0_3994 v4_4109 (a0_3994.length : Int)).length : Int) < (3 : Int) then ((sub a0_3994 v4_4109 (a0_3994.length : Int)).length : Int) else (3 : Int))))) 2)))])).length]) rfl rfl rfl rfl rfl rfl rfl (.boxM (c := 1) rfl rfl (Nat.le_of_ble_eq_true rfl) rfl) rfl ?_)
        refine DAny.nil (by kernel_rfl) ?_
        repeat (first | refine Safe.seq ?_ | refine Safe.skip ?_ | with_reducible refine thenQ.n ?_ | with_reducible refine blockQ.n ?_)
        refine roundQ.go rfl rfl rfl rfl rfl ?_
        refine SafeOps.quiet0 E_good rfl rfl rfl (v := V.bool false) (.fn rfl) ?_
        refine SafeOps.nil ?_
        repeat (first | refine Safe.seq ?_ | refine Safe.skip ?_ | with_reducible refine thenQ.n ?_ | with_reducible refine blockQ.n ?_)
        refine Safe.condN rfl rfl ?_
        repeat (first | refine Safe.seq ?_ | refine Safe.skip ?_ | with_reducible refine thenQ.n ?_ | with_reducible refine blockQ.n ?_)
        refine Safe.region ?_
        refine SafeOps.quiet0 E_good rfl rfl rfl (v := V.int .i64 v4_4109) (.fn rfl) ?_
        refine SafeOps.quiet0 E_good rfl rfl rfl (v := V.int .i64 3) (.load rfl rfl (.box rfl rfl) rfl) ?_
        refine SafeOps.quiet0 E_good rfl rfl rfl (v := V.int .i64 (IntKind.i64.wrap (v4_4109 + 3))) (.fn rfl) ?_
        refine SafeOps.quiet0 E_good rfl rfl rfl (v := V.int .i64 (IntKind.i64.wrap (v4_4109 + 3))) (.fn rfl) ?_
        refine SafeOps.nil ?_
        repeat (first | refine Safe.seq ?_ | refine Safe.skip ?_ | with_reducible refine thenQ.n ?_ | with_reducible refine blockQ.n ?_)
        exact ⟨_, next_out h, (.ren [9017, 0, 29, 33] [7000, 114, 4, 0] (.cov ⟨rfl, rfl, (upT_cons (.refl _) (upT_cons (.refl _) (upT_cons (.refl _) (upT_cons (.refl _) upT_nil)))), (upOb_cons rfl (.refl _) (upOb_cons rfl (.refl _) (upOb_cons rfl (.refl _) (upOb_cons rfl (.refl _) (upOb_cons rfl (by exact .loop (upT_cons (.refl _) upT_nil)) upOb_nil))))), (upOut_cons rfl (upT_cons (.refl _) upT_nil) (upOut_cons rfl (upT_cons (.refl _) upT_nil) upOut_nil)), rfl⟩))⟩
      · skip
        refine Safe.condN rfl hc4112 ?_
        repeat (first | refine Safe.seq ?_ | refine Safe.skip ?_ | with_reducible refine thenQ.n ?_ | with_reducible refine blockQ.n ?_)
        refine Safe.exit ?_
        repeat (first | with_reducible refine thenQ.e ?_ | with_reducible refine blockQ.x rfl ?_ | with_reducible refine blockQ.y rfl ?_)
        replace h := inr_out h hr4111
        repeat (first | refine Safe.seq ?_ | refine Safe.skip ?_ | with_reducible refine thenQ.n ?_ | with_reducible refine blockQ.n ?_)
        refine rfQ.n (.inl rfl) rfl rfl (fun hbusy => by cases hbusy) ?_
        repeat (first | refine Safe.seq ?_ | refine Safe.skip ?_ | with_reducible refine thenQ.n ?_ | with_reducible refine blockQ.n ?_)
        refine Safe.region ?_
        refine SafeOps.quiet0 E_good rfl rfl rfl (v := V.ref [7000, 114, 4, 0] 0 (rws api_Entry.cells v40_4110).length) (.load rfl rfl (.box rfl rfl) rfl) ?_
        refine bindG h ?_
        intro x_4119 he4120 h
        refine SafeOps.quiet0 E_good rfl rfl rfl (v := V.int .i64 x_4119) (.callS rfl (.cons (.full rfl rfl) .nil) (go_entry_Check_sc v40_4110 _ he4120) (.plain rfl) rfl) ?_
        refine SafeOps.quiet0 E_good rfl rfl rfl (v := V.bool (x_4119 != 0)) (.fn rfl) ?_
        refine SafeOps.nil ?_
        repeat (first | refine Safe.seq ?_ | refine Safe.skip ?_ | with_reducible refine thenQ.n ?_ | with_reducible refine blockQ.n ?_)
        refine ifG h (fun hc4121 h => ?_) (fun hc4121 h => ?_)
        · skip
          refine Safe.condK rfl hc4121 ?_
          repeat (first | refine Safe.seq ?_ | refine Safe.skip ?_ | with_reducible refine thenQ.n ?_ | with_reducible refine blockQ.n ?_)
          refine Safe.region ?_
          refine SafeOps.quiet0 E_good rfl rfl rfl (v := V.nils) (.fn rfl) ?_
          refine SafeOps.quiet0 E_good rfl rfl rfl (v := V.int .i64 2) (.fn rfl) ?_
          refine SafeOps.nil ?_
          repeat (first | refine Safe.seq ?_ | refine Safe.skip ?_ | with_reducible refine thenQ.n ?_ | with_reducible refine blockQ.n ?_)
          refine Safe.ret ?_
          repeat (first | with_reducible refine thenQ.r ?_ | with_reducible refine blockQ.r ?_)
          obtain rfl := Option.some.inj h
          exact retQ.gen (vs := [V.nils, V.int .i64 2]) rfl (.tmp (v := V.nils) rfl (.tmp (v := V.int .i64 2) rfl .nil)) (by exact (.tup (.cons (.nils _) (.cons (.free rfl) .nil)))) (by simp) (.inr rfl)
        · skip
          refine Safe.condN rfl hc4121 ?_
          repeat (first | refine Safe.seq ?_ | refine Safe.skip ?_ | with_reducible refine thenQ.n ?_ | with_reducible refine blockQ.n ?_)
          refine Safe.region ?_
          refine SafeOps.quiet0 E_good rfl rfl rfl (v := V.ref [7000, 114, 4, 0] 0 (rws api_Entry.cells v40_4110).length) (.load rfl rfl (.box rfl rfl) rfl) ?_
          refine SafeOps.quiet0 E_good rfl rfl rfl (v := V.ref [7000, 114, 4, 0] 0 (rws api_Entry.cells v40_4110).length) (.fn rfl) ?_
          refine SafeOps.quiet0 E_good rfl rfl rfl (v := V.int .i64 0) (.fn rfl) ?_
          refine SafeOps.nil ?_
          repeat (first | refine Safe.seq ?_ | refine Safe.skip ?_ | with_reducible refine thenQ.n ?_ | with_reducible refine blockQ.n ?_)
          refine Safe.ret ?_
          repeat (first | with_reducible refine thenQ.r ?_ | with_reducible refine blockQ.r ?_)
          obtain rfl := Option.some.inj h
          exact retQ.gen (vs := [V.ref [7000, 114, 4, 0] 0 (rws api_Entry.cells v40_4110).length, V.int .i64 0]) rfl (.tmp (v := V.ref [7000, 114, 4, 0] 0 (rws api_Entry.cells v40_4110).length) rfl (.tmp (v := V.int .i64 0) rfl .nil)) (by exact (.tup (.cons (.own rfl rfl) (.cons (.free rfl) .nil)))) (by simp) (.inr rfl)

noncomputable def go_ravelref19_Read_s1 (a0_4125 : List Int) : ((List api_Entry) × Int) → Option (((List api_Entry) × Int) ⊕ ((List api_Entry) × Int))
  | (v4_4173, v5_4174) =>
    if (decide (v5_4174 < (a0_4125.length : Int))) = true then
      if 0 ≤ v5_4174 ∧ v5_4174 < (a0_4125.length : Int) then
        if 0 ≤ (IntKind.i64.wrap (v5_4174 + 1)) ∧ (IntKind.i64.wrap (v5_4174 + 1)) < (a0_4125.length : Int) then
          if 0 ≤ (IntKind.i64.wrap (v5_4174 + 2)) ∧ (IntKind.i64.wrap (v5_4174 + 2)) < (a0_4125.length : Int) then
            if (!(go_ravelref19_may (api_Entry.mk (IntKind.i64.wrap (gt a0_4125 v5_4174)) (IntKind.i64.wrap (gt a0_4125 (IntKind.i64.wrap (v5_4174 + 1)))) (IntKind.i64.wrap (gt a0_4125 (IntKind.i64.wrap (v5_4174 + 2))))))) = true then
              inrO (
                some ([], 2))
            else
              if few (v4_4173 ++ [(api_Entry.mk (IntKind.i64.wrap (gt a0_4125 v5_4174)) (IntKind.i64.wrap (gt a0_4125 (IntKind.i64.wrap (v5_4174 + 1)))) (IntKind.i64.wrap (gt a0_4125 (IntKind.i64.wrap (v5_4174 + 2)))))]).length then
                nextO (v4_4173 ++ [(api_Entry.mk (IntKind.i64.wrap (gt a0_4125 v5_4174)) (IntKind.i64.wrap (gt a0_4125 (IntKind.i64.wrap (v5_4174 + 1)))) (IntKind.i64.wrap (gt a0_4125 (IntKind.i64.wrap (v5_4174 + 2)))))], IntKind.i64.wrap (v5_4174 + 3))
              else none
          else none
        else none
      else none
    else
      inrO (
        some (v4_4173, 0))

noncomputable def go_ravelref19_Read (a0_4125 : List Int) : Option ((List api_Entry) × Int) :=
  if (decide ((a0_4125.length : Int) > 196608)) = true then
    some ([], 3)
  else
    if ((Int.tmod (a0_4125.length : Int) 3) != 0) = true then
      some ([], 2)
    else
      whileO (go_ravelref19_Read_s1 a0_4125) ([], 0)

theorem go_ravelref19_Read_sc (a0_4125 : List Int) (r : (List api_Entry) × Int) (h : go_ravelref19_Read a0_4125 = some r) : SC Try.prog gl 16 [V.sl 1 (rws (fun n => [V.int .u8 n]) a0_4125)] (V.tup [V.own 3 (rws api_Entry.cells r.1), V.int .i64 r.2]) := by
  rw [go_ravelref19_Read] at h
  refine SC.of E_good Try.func16 rfl (fun _ _ => Try.call16 _ _) rfl ?_
  repeat (first | refine Safe.seq ?_ | refine Safe.skip ?_ | with_reducible refine thenQ.n ?_ | with_reducible refine blockQ.n ?_)
  refine Safe.region ?_
  refine SafeOps.quiet0 E_good rfl rfl rfl (v := V.nils) (.fn rfl) ?_
  refine SafeOps.quiet0 E_good rfl rfl rfl (v := V.int .i64 0) (.fn rfl) ?_
  refine SafeOps.nil ?_
  repeat (first | refine Safe.seq ?_ | refine Safe.skip ?_ | with_reducible refine thenQ.n ?_ | with_reducible refine blockQ.n ?_)
  refine Safe.region ?_
  refine SafeOps.quiet0 E_good rfl rfl rfl (v := V.sl 1 (rws (fun n => [V.int .u8 n]) a0_4125)) (.fn rfl) ?_
  refine SafeOps.quiet0 E_good rfl rfl rfl (v := V.int .i64 (a0_4125.length : Int)) (.fnE rfl lenE) ?_
  refine SafeOps.quiet0 E_good rfl rfl rfl (v := V.bool (decide ((a0_4125.length : Int) > 196608))) (.fn rfl) ?_
  refine SafeOps.nil ?_
  repeat (first | refine Safe.seq ?_ | refine Safe.skip ?_ | with_reducible refine thenQ.n ?_ | with_reducible refine blockQ.n ?_)
  refine ifG h (fun hc4157 h => ?_) (fun hc4157 h => ?_)
  · skip
    refine Safe.condK rfl hc4157 ?_
    repeat (first | refine Safe.seq ?_ | refine Safe.skip ?_ | with_reducible refine thenQ.n ?_ | with_reducible refine blockQ.n ?_)
    refine Safe.region ?_
    refine SafeOps.quiet0 E_good rfl rfl rfl (v := V.nils) (.fn rfl) ?_
    refine SafeOps.quiet0 E_good rfl rfl rfl (v := V.int .i64 3) (.fn rfl) ?_
    refine SafeOps.nil ?_
    repeat (first | refine Safe.seq ?_ | refine Safe.skip ?_ | with_reducible refine thenQ.n ?_ | with_reducible refine blockQ.n ?_)
    refine Safe.ret ?_
    repeat (first | with_reducible refine thenQ.r ?_ | with_reducible refine blockQ.r ?_)
    obtain rfl := Option.some.inj h
    exact retQ.gen (vs := [V.nils, V.int .i64 3]) rfl (.tmp (v := V.nils) rfl (.tmp (v := V.int .i64 3) rfl .nil)) (by exact (.tup (.cons (.nils _) (.cons (.free rfl) .nil)))) (by simp) (.inr rfl)
  · skip
    refine Safe.condN rfl hc4157 ?_
    repeat (first | refine Safe.seq ?_ | refine Safe.skip ?_ | with_reducible refine thenQ.n ?_ | with_reducible refine blockQ.n ?_)
    refine Safe.region ?_
    refine SafeOps.quiet0 E_good rfl rfl rfl (v := V.sl 1 (rws (fun n => [V.int .u8 n]) a0_4125)) (.fn rfl) ?_
    refine SafeOps.quiet0 E_good rfl rfl rfl (v := V.int .i64 (a0_4125.length : Int)) (.fnE rfl lenE) ?_
    refine SafeOps.quiet0 E_good rfl rfl rfl (v := V.int .i64 (Int.tmod (a0_4125.length : Int) 3)) (.remV rfl rfl (by decide)) ?_
    refine SafeOps.quiet0 E_good rfl rfl rfl (v := V.bool ((Int.tmod (a0_4125.length : Int) 3) != 0)) (.fn rfl) ?_
    refine SafeOps.nil ?_
    repeat (first | refine Safe.seq ?_ | refine Safe.skip ?_ | with_reducible refine thenQ.n ?_ | with_reducible refine blockQ.n ?_)
    refine ifG h (fun hc4158 h => ?_) (fun hc4158 h => ?_)
    · skip
      refine Safe.condK rfl hc4158 ?_
      repeat (first | refine Safe.seq ?_ | refine Safe.skip ?_ | with_reducible refine thenQ.n ?_ | with_reducible refine blockQ.n ?_)
      refine Safe.region ?_
      refine SafeOps.quiet0 E_good rfl rfl rfl (v := V.nils) (.fn rfl) ?_
      refine SafeOps.quiet0 E_good rfl rfl rfl (v := V.int .i64 2) (.fn rfl) ?_
      refine SafeOps.nil ?_
      repeat (first | refine Safe.seq ?_ | refine Safe.skip ?_ | with_reducible refine thenQ.n ?_ | with_reducible refine blockQ.n ?_)
      refine Safe.ret ?_
      repeat (first | with_reducible refine thenQ.r ?_ | with_reducible refine blockQ.r ?_)
      obtain rfl := Option.some.inj h
      exact retQ.gen (vs := [V.nils, V.int .i64 2]) rfl (.tmp (v := V.nils) rfl (.tmp (v := V.int .i64 2) rfl .nil)) (by exact (.tup (.cons (.nils _) (.cons (.free rfl) .nil)))) (by simp) (.inr rfl)
    · skip
      refine Safe.condN rfl hc4158 ?_
      repeat (first | refine Safe.seq ?_ | refine Safe.skip ?_ | with_reducible refine thenQ.n ?_ | with_reducible refine blockQ.n ?_)
      refine Safe.region ?_
      refine SafeOps.quiet0 E_good rfl rfl rfl (v := V.nils) (.fn rfl) ?_
      refine SafeOps.nil ?_
      repeat (first | refine Safe.seq ?_ | refine Safe.skip ?_ | with_reducible refine thenQ.n ?_ | with_reducible refine blockQ.n ?_)
      refine Safe.region ?_
      refine SafeOps.quiet0 E_good rfl rfl rfl (v := V.int .i64 0) (.fn rfl) ?_
      refine SafeOps.nil ?_
      repeat (first | refine Safe.seq ?_ | refine Safe.skip ?_ | with_reducible refine thenQ.n ?_ | with_reducible refine blockQ.n ?_)
      refine Safe.block ?_
      repeat (first | refine Safe.seq ?_ | refine Safe.skip ?_ | with_reducible refine thenQ.n ?_ | with_reducible refine blockQ.n ?_)
      refine Safe.loopW (fun ((v4_4173, v5_4174) : (List api_Entry) × Int) => ⟨Try.f16.ntmps, [(0, V.sl 1 (rws (fun n => [V.int .u8 n]) a0_4125)), (4, V.ref [7000, 118, 4] 0 (rws api_Entry.cells v4_4173).length), (5, V.int .i64 v5_4174)], [([7000, 118, 4], Obj.rows 3 (rws api_Entry.cells v4_4173) false)], [], []⟩) h (.empty [7000, 118, 4] 3 rfl (.cov ⟨rfl, rfl, (upT_cons (.refl _) (upT_cons (.nilref _) (upT_cons (.refl _) upT_nil))), (upOb_cons rfl (.refl _) upOb_nil), upOut_nil, rfl⟩)) ?_
      rintro ⟨v4_4173, v5_4174⟩ ohr4175 h hr4175
      replace h : go_ravelref19_Read_s1 a0_4125 (v4_4173, v5_4174) = some ohr4175 := h
      rw [go_ravelref19_Read_s1] at h
      repeat (first | refine Safe.seq ?_ | refine Safe.skip ?_ | with_reducible refine thenQ.n ?_ | with_reducible refine blockQ.n ?_)
      refine Safe.region ?_
      refine SafeOps.quiet0 E_good rfl rfl rfl (v := V.int .i64 v5_4174) (.fn rfl) ?_
      refine SafeOps.quiet0 E_good rfl rfl rfl (v := V.sl 1 (rws (fun n => [V.int .u8 n]) a0_4125)) (.fn rfl) ?_
      refine SafeOps.quiet0 E_good rfl rfl rfl (v := V.int .i64 (a0_4125.length : Int)) (.fnE rfl lenE) ?_
      refine SafeOps.quiet0 E_good rfl rfl rfl (v := V.bool (decide (v5_4174 < (a0_4125.length : Int)))) (.fn rfl) ?_
      refine SafeOps.nil ?_
      repeat (first | refine Safe.seq ?_ | refine Safe.skip ?_ | with_reducible refine thenQ.n ?_ | with_reducible refine blockQ.n ?_)
      refine ifG h (fun hc4176 h => ?_) (fun hc4176 h => ?_)
      · skip
        refine Safe.condK rfl hc4176 ?_
        repeat (first | refine Safe.seq ?_ | refine Safe.skip ?_ | with_reducible refine thenQ.n ?_ | with_reducible refine blockQ.n ?_)
        refine Safe.block ?_
        repeat (first | refine Safe.seq ?_ | refine Safe.skip ?_ | with_reducible refine thenQ.n ?_ | with_reducible refine blockQ.n ?_)
        refine Safe.regionD (n := 20) [(19, [6])] [] E_good mixed rfl ?_
        refine DAny.take (i := 0) rfl (by kernel_rfl) [[6]] (by kernel_rfl) (by kernel_rfl) (by kernel_rfl) rfl rfl rfl (v := V.sl 1 (rws (fun n => [V.int .u8 n]) a0_4125)) (fun _ hz => (.fn rfl)) ?_
        refine DAny.take (i := 1) rfl (by kernel_rfl) [[6]] (by kernel_rfl) (by kernel_rfl) (by kernel_rfl) rfl rfl rfl (v := V.int .i64 v5_4174) (fun _ hz => (.fn rfl)) ?_
        refine okG h (fun hb4177 h => ?_)
        refine DAny.take (i := 2) rfl (by kernel_rfl) [[6]] (by kernel_rfl) (by kernel_rfl) (by kernel_rfl) rfl rfl rfl (v := V.spt 1 (rws (fun n => [V.int .u8 n]) a0_4125) (Int.toNat v5_4174) 0) (fun _ hz => (.idxSlM (f := (fun n => [V.int .u8 n])) rfl rfl rfl rfl rfl hb4177)) ?_
        refine DAny.take (i := 3) rfl (by kernel_rfl) [[6]] (by kernel_rfl) (by kernel_rfl) (by kernel_rfl) rfl rfl rfl (v := V.int .u8 (gt a0_4125 v5_4174)) (fun _ hz => (.load rfl rfl (.sptM (f := (fun n => [V.int .u8 n])) hb4177 rfl) rfl)) ?_
        refine DAny.take (i := 4) rfl (by kernel_rfl) [[6]] (by kernel_rfl) (by kernel_rfl) (by kernel_rfl) rfl rfl rfl (v := V.int .i64 (IntKind.i64.wrap (gt a0_4125 v5_4174))) (fun _ hz => (.fn rfl)) ?_
        refine DAny.take (i := 5) rfl (by kernel_rfl) [[6]] (by kernel_rfl) (by kernel_rfl) (by kernel_rfl) rfl rfl rfl (v := V.sl 1 (rws (fun n => [V.int .u8 n]) a0_4125)) (fun _ hz => (.fn rfl)) ?_
        refine DAny.take (i := 6) rfl (by kernel_rfl) [[6]] (by kernel_rfl) (by kernel_rfl) (by kernel_rfl) rfl rfl rfl (v := V.int .i64 v5_4174) (fun _ hz => (.fn rfl)) ?_
        refine DAny.take (i := 7) rfl (by kernel_rfl) [[6]] (by kernel_rfl) (by kernel_rfl) (by kernel_rfl) rfl rfl rfl (v := V.int .i64 (IntKind.i64.wrap (v5_4174 + 1))) (fun _ hz => (.fn rfl)) ?_
        refine okG h (fun hb4178 h => ?_)
        refine DAny.take (i := 8) rfl (by kernel_rfl) [[6]] (by kernel_rfl) (by kernel_rfl) (by kernel_rfl) rfl rfl rfl (v := V.spt 1 (rws (fun n => [V.int .u8 n]) a0_4125) (Int.toNat (IntKind.i64.wrap (v5_4174 + 1))) 0) (fun _ hz => (.idxSlM (f := (fun n => [V.int .u8 n])) rfl rfl rfl rfl rfl hb4178)) ?_
        refine DAny.take (i := 9) rfl (by kernel_rfl) [[6]] (by kernel_rfl) (by kernel_rfl) (by kernel_rfl) rfl rfl rfl (v := V.int .u8 (gt a0_4125 (IntKind.i64.wrap (v5_4174 + 1)))) (fun _ hz => (.load rfl rfl (.sptM (f := (fun n => [V.int .u8 n])) hb4178 rfl) rfl)) ?_
        refine DAny.take (i := 10) rfl (by kernel_rfl) [[6]] (by kernel_rfl) (by kernel_rfl) (by kernel_rfl) rfl rfl rfl (v := V.int .i64 (IntKind.i64.wrap (gt a0_4125 (IntKind.i64.wrap (v5_4174 + 1))))) (fun _ hz => (.fn rfl)) ?_
        refine DAny.take (i := 11) rfl (by kernel_rfl) [[6]] (by kernel_rfl) (by kernel_rfl) (by kernel_rfl) rfl rfl rfl (v := V.sl 1 (rws (fun n => [V.int .u8 n]) a0_4125)) (fun _ hz => (.fn rfl)) ?_
        refine DAny.take (i := 12) rfl (by kernel_rfl) [[6]] (by kernel_rfl) (by kernel_rfl) (by kernel_rfl) rfl rfl rfl (v := V.int .i64 v5_4174) (fun _ hz => (.fn rfl)) ?_
        refine DAny.take (i := 13) rfl (by kernel_rfl) [[6]] (by kernel_rfl) (by kernel_rfl) (by kernel_rfl) rfl rfl rfl (v := V.int .i64 (IntKind.i64.wrap (v5_4174 + 2))) (fun _ hz => (.fn rfl)) ?_
        refine okG h (fun hb4179 h => ?_)
        refine DAny.take (i := 14) rfl (by kernel_rfl) [[6]] (by kernel_rfl) (by kernel_rfl) (by kernel_rfl) rfl rfl rfl (v := V.spt 1 (rws (fun n => [V.int .u8 n]) a0_4125) (Int.toNat (IntKind.i64.wrap (v5_4174 + 2))) 0) (fun _ hz => (.idxSlM (f := (fun n => [V.int .u8 n])) rfl rfl rfl rfl rfl hb4179)) ?_
        refine DAny.take (i := 15) rfl (by kernel_rfl) [[6]] (by kernel_rfl) (by kernel_rfl) (by kernel_rfl) rfl rfl rfl (v := V.int .u8 (gt a0_4125 (IntKind.i64.wrap (v5_4174 + 2)))) (fun _ hz => (.load rfl rfl (.sptM (f := (fun n => [V.int .u8 n])) hb4179 rfl) rfl)) ?_
        refine DAny.take (i := 16) rfl (by kernel_rfl) [[6]] (by kernel_rfl) (by kernel_rfl) (by kernel_rfl) rfl rfl rfl (v := V.int .i64 (IntKind.i64.wrap (gt a0_4125 (IntKind.i64.wrap (v5_4174 + 2))))) (fun _ hz => (.fn rfl)) ?_
        refine DAny.take (i := 17) rfl (by kernel_rfl) [[6]] (by kernel_rfl) (by kernel_rfl) (by kernel_rfl) rfl rfl rfl (v := V.agg [V.int .i64 (IntKind.i64.wrap (gt a0_4125 v5_4174)), V.int .i64 (IntKind.i64.wrap (gt a0_4125 (IntKind.i64.wrap (v5_4174 + 1)))), V.int .i64 (IntKind.i64.wrap (gt a0_4125 (IntKind.i64.wrap (v5_4174 + 2))))]) (fun _ hz => (.fn rfl)) ?_
        refine DAny.only (i := 18) rfl (by kernel_rfl) (.quiet rfl rfl rfl (.alloc rfl rfl) rfl ?_)
        refine DAny.only (i := 19) rfl (by kernel_rfl) (.store (z := Obj.box [V.int .i64 (IntKind.i64.wrap (gt a0_4125 v5_4174)), V.int .i64 (IntKind.i64.wrap (gt a0_4125 (IntKind.i64.wrap (v5_4174 + 1)))), V.int .i64 (IntKind.i64.wrap (gt a0_4125 (IntKind.i64.wrap (v5_4174 + 2))))]) rfl rfl rfl rfl rfl rfl rfl (.boxM (c := 3) rfl rfl (Nat.le_of_ble_eq_true rfl) rfl) rfl ?_)
        refine DAny.nil (by kernel_rfl) ?_
        repeat (first | refine Safe.seq ?_ | refine Safe.skip ?_ | with_reducible refine thenQ.n ?_ | with_reducible refine blockQ.n ?_)
        refine Safe.region ?_
        refine SafeOps.quiet0 E_good rfl rfl rfl (v := V.agg [V.int .i64 (IntKind.i64.wrap (gt a0_4125 v5_4174)), V.int .i64 (IntKind.i64.wrap (gt a0_4125 (IntKind.i64.wrap (v5_4174 + 1)))), V.int .i64 (IntKind.i64.wrap (gt a0_4125 (IntKind.i64.wrap (v5_4174 + 2))))]) (.load rfl rfl (.box rfl rfl) rfl) ?_
        refine SafeOps.quiet0 E_good rfl rfl rfl (v := V.bool (go_ravelref19_may (api_Entry.mk (IntKind.i64.wrap (gt a0_4125 v5_4174)) (IntKind.i64.wrap (gt a0_4125 (IntKind.i64.wrap (v5_4174 + 1)))) (IntKind.i64.wrap (gt a0_4125 (IntKind.i64.wrap (v5_4174 + 2))))))) (.callP rfl rfl (go_ravelref19_may_sc (api_Entry.mk (IntKind.i64.wrap (gt a0_4125 v5_4174)) (IntKind.i64.wrap (gt a0_4125 (IntKind.i64.wrap (v5_4174 + 1)))) (IntKind.i64.wrap (gt a0_4125 (IntKind.i64.wrap (v5_4174 + 2))))) _ rfl) rfl) ?_
        refine SafeOps.quiet0 E_good rfl rfl rfl (v := V.bool (!(go_ravelref19_may (api_Entry.mk (IntKind.i64.wrap (gt a0_4125 v5_4174)) (IntKind.i64.wrap (gt a0_4125 (IntKind.i64.wrap (v5_4174 + 1)))) (IntKind.i64.wrap (gt a0_4125 (IntKind.i64.wrap (v5_4174 + 2)))))))) (.fn rfl) ?_
        refine SafeOps.nil ?_
        repeat (first | refine Safe.seq ?_ | refine Safe.skip ?_ | with_reducible refine thenQ.n ?_ | with_reducible refine blockQ.n ?_)
        refine ifG h (fun hc4180 h => ?_) (fun hc4180 h => ?_)
        · skip
          refine Safe.condK rfl hc4180 ?_
          repeat (first | refine Safe.seq ?_ | refine Safe.skip ?_ | with_reducible refine thenQ.n ?_ | with_reducible refine blockQ.n ?_)
          refine Safe.region ?_
          refine SafeOps.quiet0 E_good rfl rfl rfl (v := V.nils) (.fn rfl) ?_
          refine SafeOps.quiet0 E_good rfl rfl rfl (v := V.int .i64 2) (.fn rfl) ?_
          refine SafeOps.nil ?_
          repeat (first | refine Safe.seq ?_ | refine Safe.skip ?_ | with_reducible refine thenQ.n ?_ | with_reducible refine blockQ.n ?_)
          refine Safe.ret ?_
          repeat (first | with_reducible refine thenQ.r ?_ | with_reducible refine blockQ.r ?_)
          replace h := inr_out h hr4175
          obtain rfl := Option.some.inj h
          exact retQ.gen (vs := [V.nils, V.int .i64 2]) rfl (.tmp (v := V.nils) rfl (.tmp (v := V.int .i64 2) rfl .nil)) (by exact (.tup (.cons (.nils _) (.cons (.free rfl) .nil)))) (by simp) (.inr rfl)
        · skip
          refine Safe.condN rfl hc4180 ?_
          repeat (first | refine Safe.seq ?_ | refine Safe.skip ?_ | with_reducible refine thenQ.n ?_ | with_reducible refine blockQ.n ?_)
          refine Safe.region ?_
          refine SafeOps.quiet0 E_good rfl rfl rfl (v := V.ref [7000, 118, 4] 0 (rws api_Entry.cells v4_4173).length) (.fn rfl) ?_
          refine SafeOps.quiet0 E_good rfl rfl rfl (v := V.agg [V.int .i64 (IntKind.i64.wrap (gt a0_4125 v5_4174)), V.int .i64 (IntKind.i64.wrap (gt a0_4125 (IntKind.i64.wrap (v5_4174 + 1)))), V.int .i64 (IntKind.i64.wrap (gt a0_4125 (IntKind.i64.wrap (v5_4174 + 2))))]) (.load rfl rfl (.box rfl rfl) rfl) ?_
          refine SafeOps.quiet1 E_good rfl rfl rfl (.litM (f := api_Entry.cells) (xs := [(api_Entry.mk (IntKind.i64.wrap (gt a0_4125 v5_4174)) (IntKind.i64.wrap (gt a0_4125 (IntKind.i64.wrap (v5_4174 + 1)))) (IntKind.i64.wrap (gt a0_4125 (IntKind.i64.wrap (v5_4174 + 2)))))]) rfl rfl (by decide) rfl rfl rfl rfl rfl) rfl ?_
          refine okG h (fun hb4181 h => ?_)
          refine SafeOps.appendM api_Entry.cells (xs := v4_4173) (ys := [(api_Entry.mk (IntKind.i64.wrap (gt a0_4125 v5_4174)) (IntKind.i64.wrap (gt a0_4125 (IntKind.i64.wrap (v5_4174 + 1)))) (IntKind.i64.wrap (gt a0_4125 (IntKind.i64.wrap (v5_4174 + 2)))))]) E_good rfl rfl rfl rfl rfl rfl rfl rfl rfl (.own rfl) (.own rfl) (fun _ => rfl) hb4181 ?_
          refine SafeOps.quiet0 E_good rfl rfl rfl (v := V.ref [44] 0 (rws api_Entry.cells (v4_4173 ++ [(api_Entry.mk (IntKind.i64.wrap (gt a0_4125 v5_4174)) (IntKind.i64.wrap (gt a0_4125 (IntKind.i64.wrap (v5_4174 + 1)))) (IntKind.i64.wrap (gt a0_4125 (IntKind.i64.wrap (v5_4174 + 2)))))])).length) (.fn rfl) ?_
          refine SafeOps.nil ?_
          repeat (first | refine Safe.seq ?_ | refine Safe.skip ?_ | with_reducible refine thenQ.n ?_ | with_reducible refine blockQ.n ?_)
          refine Safe.region ?_
          refine SafeOps.quiet0 E_good rfl rfl rfl (v := V.int .i64 v5_4174) (.fn rfl) ?_
          refine SafeOps.quiet0 E_good rfl rfl rfl (v := V.int .i64 (IntKind.i64.wrap (v5_4174 + 3))) (.fn rfl) ?_
          refine SafeOps.quiet0 E_good rfl rfl rfl (v := V.int .i64 (IntKind.i64.wrap (v5_4174 + 3))) (.fn rfl) ?_
          refine SafeOps.nil ?_
          repeat (first | refine Safe.seq ?_ | refine Safe.skip ?_ | with_reducible refine thenQ.n ?_ | with_reducible refine blockQ.n ?_)
          exact ⟨_, next_out h, (.ren [44] [7000, 118, 4] (.cov ⟨rfl, rfl, (upT_cons (.refl _) (upT_cons (.refl _) (upT_cons (.refl _) upT_nil))), (upOb_cons rfl (.refl _) upOb_nil), upOut_nil, rfl⟩))⟩
      · skip
        refine Safe.condN rfl hc4176 ?_
        repeat (first | refine Safe.seq ?_ | refine Safe.skip ?_ | with_reducible refine thenQ.n ?_ | with_reducible refine blockQ.n ?_)
        refine Safe.exit ?_
        repeat (first | with_reducible refine thenQ.e ?_ | with_reducible refine blockQ.x rfl ?_ | with_reducible refine blockQ.y rfl ?_)
        replace h := inr_out h hr4175
        repeat (first | refine Safe.seq ?_ | refine Safe.skip ?_ | with_reducible refine thenQ.n ?_ | with_reducible refine blockQ.n ?_)
        refine Safe.region ?_
        refine SafeOps.quiet0 E_good rfl rfl rfl (v := V.ref [7000, 118, 4] 0 (rws api_Entry.cells v4_4173).length) (.fn rfl) ?_
        refine SafeOps.quiet0 E_good rfl rfl rfl (v := V.ref [7000, 118, 4] 0 (rws api_Entry.cells v4_4173).length) (.fn rfl) ?_
        refine SafeOps.quiet0 E_good rfl rfl rfl (v := V.int .i64 0) (.fn rfl) ?_
        refine SafeOps.nil ?_
        repeat (first | refine Safe.seq ?_ | refine Safe.skip ?_ | with_reducible refine thenQ.n ?_ | with_reducible refine blockQ.n ?_)
        refine Safe.ret ?_
        repeat (first | with_reducible refine thenQ.r ?_ | with_reducible refine blockQ.r ?_)
        obtain rfl := Option.some.inj h
        exact retQ.gen (vs := [V.ref [7000, 118, 4] 0 (rws api_Entry.cells v4_4173).length, V.int .i64 0]) rfl (.tmp (v := V.ref [7000, 118, 4] 0 (rws api_Entry.cells v4_4173).length) rfl (.tmp (v := V.int .i64 0) rfl .nil)) (by exact (.tup (.cons (.own rfl rfl) (.cons (.free rfl) .nil)))) (by simp) (.inr rfl)

noncomputable def go_ravelref19_Only_s1 (a0_4193 : List api_Entry) (a1_4194 : Int) : ((List api_Entry) × Int) → Option (((List api_Entry) × Int) ⊕ (List api_Entry))
  | (v5_4223, v10_4224) =>
    if (decide (v10_4224 < (a0_4193.length : Int))) = true then
      if 0 ≤ v10_4224 ∧ v10_4224 < (a0_4193.length : Int) then
        if (((gt a0_4193 v10_4224).Kind) == a1_4194) = true then
          if few (v5_4223 ++ [(gt a0_4193 v10_4224)]).length then
            nextO (v5_4223 ++ [(gt a0_4193 v10_4224)], IntKind.i64.wrap (v10_4224 + 1))
          else none
        else
          nextO (v5_4223, IntKind.i64.wrap (v10_4224 + 1))
      else none
    else
      inrO (
        some v5_4223)

noncomputable def go_ravelref19_Only (a0_4193 : List api_Entry) (a1_4194 : Int) : Option (List api_Entry) :=
  whileO (go_ravelref19_Only_s1 a0_4193 a1_4194) ([], 0)

theorem go_ravelref19_Only_sc (a0_4193 : List api_Entry) (a1_4194 : Int) (r : List api_Entry) (h : go_ravelref19_Only a0_4193 a1_4194 = some r) : SC Try.prog gl 18 [V.sl 3 (rws api_Entry.cells a0_4193), V.int .i64 a1_4194] (V.own 3 (rws api_Entry.cells r)) := by
  rw [go_ravelref19_Only] at h
  refine SC.of E_good Try.func18 rfl (fun _ _ => Try.call18 _ _) rfl ?_
  repeat (first | refine Safe.seq ?_ | refine Safe.skip ?_ | with_reducible refine thenQ.n ?_ | with_reducible refine blockQ.n ?_)
  refine Safe.region ?_
  refine SafeOps.quiet0 E_good rfl rfl rfl (v := V.nils) (.fn rfl) ?_
  refine SafeOps.nil ?_
  repeat (first | refine Safe.seq ?_ | refine Safe.skip ?_ | with_reducible refine thenQ.n ?_ | with_reducible refine blockQ.n ?_)
  refine Safe.region ?_
  refine SafeOps.quiet0 E_good rfl rfl rfl (v := V.nils) (.fn rfl) ?_
  refine SafeOps.nil ?_
  repeat (first | refine Safe.seq ?_ | refine Safe.skip ?_ | with_reducible refine thenQ.n ?_ | with_reducible refine blockQ.n ?_)
  refine Safe.region ?_
  refine SafeOps.quiet0 E_good rfl rfl rfl (v := V.sl 3 (rws api_Entry.cells a0_4193)) (.fn rfl) ?_
  refine SafeOps.quiet0 E_good rfl rfl rfl (v := V.int .i64 (a0_4193.length : Int)) (.fnE rfl lenE) ?_
  refine SafeOps.quiet0 E_good rfl rfl rfl (v := V.int .i64 0) (.fn rfl) ?_
  refine SafeOps.nil ?_
  repeat (first | refine Safe.seq ?_ | refine Safe.skip ?_ | with_reducible refine thenQ.n ?_ | with_reducible refine blockQ.n ?_)
  refine Safe.block ?_
  repeat (first | refine Safe.seq ?_ | refine Safe.skip ?_ | with_reducible refine thenQ.n ?_ | with_reducible refine blockQ.n ?_)
  refine Safe.loopW (fun ((v5_4223, v10_4224) : (List api_Entry) × Int) => ⟨Try.f18.ntmps, [(1, V.int .i64 a1_4194), (5, V.ref [7000, 118, 5] 0 (rws api_Entry.cells v5_4223).length), (8, V.sl 3 (rws api_Entry.cells a0_4193)), (9, V.int .i64 (a0_4193.length : Int)), (10, V.int .i64 v10_4224)], [([7000, 118, 5], Obj.rows 3 (rws api_Entry.cells v5_4223) false)], [], []⟩) h (.empty [7000, 118, 5] 3 rfl (.cov ⟨rfl, rfl, (upT_cons (.refl _) (upT_cons (.nilref _) (upT_cons (.refl _) (upT_cons (.refl _) (upT_cons (.refl _) upT_nil))))), (upOb_cons rfl (.refl _) upOb_nil), upOut_nil, rfl⟩)) ?_
  rintro ⟨v5_4223, v10_4224⟩ ohr4225 h hr4225
  replace h : go_ravelref19_Only_s1 a0_4193 a1_4194 (v5_4223, v10_4224) = some ohr4225 := h
  rw [go_ravelref19_Only_s1] at h
  repeat (first | refine Safe.seq ?_ | refine Safe.skip ?_ | with_reducible refine thenQ.n ?_ | with_reducible refine blockQ.n ?_)
  refine Safe.region ?_
  refine SafeOps.quiet0 E_good rfl rfl rfl (v := V.bool (decide (v10_4224 < (a0_4193.length : Int)))) (.fn rfl) ?_
  refine SafeOps.nil ?_
  repeat (first | refine Safe.seq ?_ | refine Safe.skip ?_ | with_reducible refine thenQ.n ?_ | with_reducible refine blockQ.n ?_)
  refine ifG h (fun hc4226 h => ?_) (fun hc4226 h => ?_)
  · skip
    refine Safe.condK rfl hc4226 ?_
    repeat (first | refine Safe.seq ?_ | refine Safe.skip ?_ | with_reducible refine thenQ.n ?_ | with_reducible refine blockQ.n ?_)
    refine Safe.block ?_
    repeat (first | refine Safe.seq ?_ | refine Safe.skip ?_ | with_reducible refine thenQ.n ?_ | with_reducible refine blockQ.n ?_)
    refine Safe.region ?_
    refine okG h (fun hb4227 h => ?_)
    refine SafeOps.quiet0 E_good rfl rfl rfl (v := V.spt 3 (rws api_Entry.cells a0_4193) (Int.toNat v10_4224) 0) (.idxSlM (f := api_Entry.cells) rfl rfl rfl rfl rfl hb4227) ?_
    refine SafeOps.quiet0 E_good rfl rfl rfl (v := V.agg [V.int .i64 ((gt a0_4193 v10_4224).Kind), V.int .i64 ((gt a0_4193 v10_4224).A), V.int .i64 ((gt a0_4193 v10_4224).B)]) (.load rfl rfl (.sptM (f := api_Entry.cells) hb4227 rfl) rfl) ?_
    refine SafeOps.quiet1 E_good rfl rfl rfl (.alloc rfl rfl) rfl ?_
    refine SafeOps.store (z := Obj.box [V.int .i64 ((gt a0_4193 v10_4224).Kind), V.int .i64 ((gt a0_4193 v10_4224).A), V.int .i64 ((gt a0_4193 v10_4224).B)]) E_good rfl rfl rfl rfl rfl rfl rfl (.boxM (c := 3) rfl rfl (Nat.le_of_ble_eq_true rfl) rfl) ?_
    refine SafeOps.nil ?_
    repeat (first | refine Safe.seq ?_ | refine Safe.skip ?_ | with_reducible refine thenQ.n ?_ | with_reducible refine blockQ.n ?_)
    refine Safe.region ?_
    refine SafeOps.quiet0 E_good rfl rfl rfl (v := V.ptr [7] 0 0) (.fn rfl) ?_
    refine SafeOps.quiet0 E_good rfl rfl rfl (v := V.int .i64 ((gt a0_4193 v10_4224).Kind)) (.load rfl rfl (.box rfl rfl) rfl) ?_
    refine SafeOps.quiet0 E_good rfl rfl rfl (v := V.int .i64 a1_4194) (.fn rfl) ?_
    refine SafeOps.quiet0 E_good rfl rfl rfl (v := V.bool (((gt a0_4193 v10_4224).Kind) == a1_4194)) (.fn rfl) ?_
    refine SafeOps.nil ?_
    repeat (first | refine Safe.seq ?_ | refine Safe.skip ?_ | with_reducible refine thenQ.n ?_ | with_reducible refine blockQ.n ?_)
    refine ifG h (fun hc4228 h => ?_) (fun hc4228 h => ?_)
    · skip
      refine Safe.condK rfl hc4228 ?_
      repeat (first | refine Safe.seq ?_ | refine Safe.skip ?_ | with_reducible refine thenQ.n ?_ | with_reducible refine blockQ.n ?_)
      refine Safe.region ?_
      refine SafeOps.quiet0 E_good rfl rfl rfl (v := V.ref [7000, 118, 5] 0 (rws api_Entry.cells v5_4223).length) (.fn rfl) ?_
      refine SafeOps.quiet0 E_good rfl rfl rfl (v := V.agg [V.int .i64 ((gt a0_4193 v10_4224).Kind), V.int .i64 ((gt a0_4193 v10_4224).A), V.int .i64 ((gt a0_4193 v10_4224).B)]) (.load rfl rfl (.box rfl rfl) rfl) ?_
      refine SafeOps.quiet1 E_good rfl rfl rfl (.litM (f := api_Entry.cells) (xs := [(gt a0_4193 v10_4224)]) rfl rfl (by decide) rfl rfl rfl rfl rfl) rfl ?_
      refine okG h (fun hb4229 h => ?_)
      refine SafeOps.appendM api_Entry.cells (xs := v5_4223) (ys := [(gt a0_4193 v10_4224)]) E_good rfl rfl rfl rfl rfl rfl rfl rfl rfl (.own rfl) (.own rfl) (fun _ => rfl) hb4229 ?_
      refine SafeOps.quiet0 E_good rfl rfl rfl (v := V.ref [21] 0 (rws api_Entry.cells (v5_4223 ++ [(gt a0_4193 v10_4224)])).length) (.fn rfl) ?_
      refine SafeOps.nil ?_
      repeat (first | refine Safe.seq ?_ | refine Safe.skip ?_ | with_reducible refine thenQ.n ?_ | with_reducible refine blockQ.n ?_)
      refine Safe.region ?_
      refine SafeOps.quiet0 E_good rfl rfl rfl (v := V.int .i64 (IntKind.i64.wrap (v10_4224 + 1))) (.fn rfl) ?_
      refine SafeOps.quiet0 E_good rfl rfl rfl (v := V.int .i64 (IntKind.i64.wrap (v10_4224 + 1))) (.fn rfl) ?_
      refine SafeOps.nil ?_
      repeat (first | refine Safe.seq ?_ | refine Safe.skip ?_ | with_reducible refine thenQ.n ?_ | with_reducible refine blockQ.n ?_)
      exact ⟨_, next_out h, (.ren [21] [7000, 118, 5] (.cov ⟨rfl, rfl, (upT_cons (.refl _) (upT_cons (.refl _) (upT_cons (.refl _) (upT_cons (.refl _) (upT_cons (.refl _) upT_nil))))), (upOb_cons rfl (.refl _) upOb_nil), upOut_nil, rfl⟩))⟩
    · skip
      refine Safe.condN rfl hc4228 ?_
      repeat (first | refine Safe.seq ?_ | refine Safe.skip ?_ | with_reducible refine thenQ.n ?_ | with_reducible refine blockQ.n ?_)
      refine Safe.region ?_
      refine SafeOps.quiet0 E_good rfl rfl rfl (v := V.int .i64 (IntKind.i64.wrap (v10_4224 + 1))) (.fn rfl) ?_
      refine SafeOps.quiet0 E_good rfl rfl rfl (v := V.int .i64 (IntKind.i64.wrap (v10_4224 + 1))) (.fn rfl) ?_
      refine SafeOps.nil ?_
      repeat (first | refine Safe.seq ?_ | refine Safe.skip ?_ | with_reducible refine thenQ.n ?_ | with_reducible refine blockQ.n ?_)
      exact ⟨_, next_out h, (.cov ⟨rfl, rfl, (upT_cons (.refl _) (upT_cons (.refl _) (upT_cons (.refl _) (upT_cons (.refl _) (upT_cons (.refl _) upT_nil))))), (upOb_cons rfl (.refl _) upOb_nil), upOut_nil, rfl⟩)⟩
  · skip
    refine Safe.condN rfl hc4226 ?_
    repeat (first | refine Safe.seq ?_ | refine Safe.skip ?_ | with_reducible refine thenQ.n ?_ | with_reducible refine blockQ.n ?_)
    refine Safe.exit ?_
    repeat (first | with_reducible refine thenQ.e ?_ | with_reducible refine blockQ.x rfl ?_ | with_reducible refine blockQ.y rfl ?_)
    replace h := inr_out h hr4225
    repeat (first | refine Safe.seq ?_ | refine Safe.skip ?_ | with_reducible refine thenQ.n ?_ | with_reducible refine blockQ.n ?_)
    refine Safe.region ?_
    refine SafeOps.quiet0 E_good rfl rfl rfl (v := V.ref [7000, 118, 5] 0 (rws api_Entry.cells v5_4223).length) (.fn rfl) ?_
    refine SafeOps.quiet0 E_good rfl rfl rfl (v := V.ref [7000, 118, 5] 0 (rws api_Entry.cells v5_4223).length) (.fn rfl) ?_
    refine SafeOps.nil ?_
    repeat (first | refine Safe.seq ?_ | refine Safe.skip ?_ | with_reducible refine thenQ.n ?_ | with_reducible refine blockQ.n ?_)
    refine Safe.ret ?_
    repeat (first | with_reducible refine thenQ.r ?_ | with_reducible refine blockQ.r ?_)
    obtain rfl := Option.some.inj h
    exact retQ.gen (vs := [V.ref [7000, 118, 5] 0 (rws api_Entry.cells v5_4223).length]) rfl (.tmp (v := V.ref [7000, 118, 5] 0 (rws api_Entry.cells v5_4223).length) rfl .nil) (by exact (.own rfl rfl)) (by simp) (.inr rfl)

noncomputable def go_ravelref19_Fair_s24 (a2_4190 : Int) (v8_4782 : List api_Entry) (v11_4783 : Int) (v56_4846 : Int) : (Bool × Int) → Option ((Bool × Int) ⊕ ((Int) ⊕ (((List api_Entry) × Int) ⊕ (Bool × Int))))
  | (v13_4870, v66_4871) =>
    if (decide (v66_4871 < ((sub v8_4782 v11_4783 (IntKind.i64.wrap (v11_4783 + a2_4190))).length : Int))) = true then
      if 0 ≤ v66_4871 ∧ v66_4871 < ((sub v8_4782 v11_4783 (IntKind.i64.wrap (v11_4783 + a2_4190))).length : Int) then
        nextO ((v13_4870 || (((gt (sub v8_4782 v11_4783 (IntKind.i64.wrap (v11_4783 + a2_4190))) v66_4871).A) == v56_4846)), IntKind.i64.wrap (v66_4871 + 1))
      else none
    else
      inrO (
        if (!v13_4870) = true then
          inrO (
            inrO (
              some (false, 0)))
        else
          nextO (IntKind.i64.wrap (v56_4846 + 1)))

noncomputable def go_ravelref19_Fair_s22 (a1_4189 : Int) (a2_4190 : Int) (v8_4782 : List api_Entry) (v11_4783 : Int) : (Int) → Option ((Int) ⊕ (((List api_Entry) × Int) ⊕ (Bool × Int)))
  | v56_4846 =>
    if (decide (v56_4846 < a1_4189)) = true then
      if 0 ≤ v11_4783 ∧ v11_4783 ≤ (IntKind.i64.wrap (v11_4783 + a2_4190)) ∧ (IntKind.i64.wrap (v11_4783 + a2_4190)) ≤ (v8_4782.length : Int) then
        whileO (go_ravelref19_Fair_s24 a2_4190 v8_4782 v11_4783 v56_4846) (false, 0)
      else none
    else
      inrO (
        nextO (v8_4782, IntKind.i64.wrap (v11_4783 + 1)))

noncomputable def go_ravelref19_Fair_s17 (a1_4189 : Int) (a2_4190 : Int) : ((List api_Entry) × Int) → Option (((List api_Entry) × Int) ⊕ (Bool × Int))
  | (v8_4782, v11_4783) =>
    if ((decide (a2_4190 ≤ (v8_4782.length : Int))) && (decide (v11_4783 ≤ (IntKind.i64.wrap ((v8_4782.length : Int) - a2_4190))))) = true then
      whileO (go_ravelref19_Fair_s22 a1_4189 a2_4190 v8_4782 v11_4783) 0
    else
      inrO (
        some (true, 0))

noncomputable def go_ravelref19_Fair_s2 (a1_4189 : Int) (a2_4190 : Int) (x_4556 : List api_Entry) : (Int) → Option ((Int) ⊕ (Bool × Int))
  | v27_4582 =>
    if (decide (v27_4582 < (x_4556.length : Int))) = true then
      if 0 ≤ v27_4582 ∧ v27_4582 < (x_4556.length : Int) then
        if ((decide (((gt x_4556 v27_4582).A) < 0)) || (decide (((gt x_4556 v27_4582).A) ≥ a1_4189))) = true then
          inrO (
            some (false, 0))
        else
          nextO (IntKind.i64.wrap (v27_4582 + 1))
      else none
    else
      inrO (
        whileO (go_ravelref19_Fair_s17 a1_4189 a2_4190) (x_4556, 0))

noncomputable def go_ravelref19_Fair (a0_4188 : List api_Entry) (a1_4189 : Int) (a2_4190 : Int) : Option (Bool × Int) :=
  if ((!(go_ravelref19_in a1_4189 1 64)) || (decide (a2_4190 < 1))) = true then
    some (false, 1)
  else
    (go_ravelref19_Only a0_4188 0).bind fun x_4556 =>
    whileO (go_ravelref19_Fair_s2 a1_4189 a2_4190 x_4556) 0

theorem go_ravelref19_Fair_sc (a0_4188 : List api_Entry) (a1_4189 : Int) (a2_4190 : Int) (r : Bool × Int) (h : go_ravelref19_Fair a0_4188 a1_4189 a2_4190 = some r) : SC Try.prog gl 17 [V.sl 3 (rws api_Entry.cells a0_4188), V.int .i64 a1_4189, V.int .i64 a2_4190] (V.tup [V.bool r.1, V.int .i64 r.2]) := by
  rw [go_ravelref19_Fair] at h
  refine SC.of E_good Try.func17 rfl (fun _ _ => Try.call17 _ _) rfl ?_
  repeat (first | refine Safe.seq ?_ | refine Safe.skip ?_ | with_reducible refine thenQ.n ?_ | with_reducible refine blockQ.n ?_)
  refine Safe.region ?_
  refine SafeOps.quiet0 E_good rfl rfl rfl (v := V.bool false) (.fn rfl) ?_
  refine SafeOps.quiet0 E_good rfl rfl rfl (v := V.int .i64 0) (.fn rfl) ?_
  refine SafeOps.nil ?_
  repeat (first | refine Safe.seq ?_ | refine Safe.skip ?_ | with_reducible refine thenQ.n ?_ | with_reducible refine blockQ.n ?_)
  refine Safe.region ?_
  refine SafeOps.quiet0 E_good rfl rfl rfl (v := V.int .i64 a1_4189) (.fn rfl) ?_
  refine SafeOps.quiet0 E_good rfl rfl rfl (v := V.bool (go_ravelref19_in a1_4189 1 64)) (.callP rfl rfl (go_ravelref19_in_sc a1_4189 1 64 _ rfl) rfl) ?_
  refine SafeOps.quiet0 E_good rfl rfl rfl (v := V.bool (!(go_ravelref19_in a1_4189 1 64))) (.fn rfl) ?_
  refine SafeOps.quiet0 E_good rfl rfl rfl (v := V.bool (!(go_ravelref19_in a1_4189 1 64))) (.fn rfl) ?_
  refine SafeOps.bjoin 3 22 (b := ((!(go_ravelref19_in a1_4189 1 64)) || (decide (a2_4190 < 1)))) (b1 := true) (b0 := decide (a2_4190 < 1)) (fun hc4554 K => ?_) (fun hc4554 K => ?_) bj_or ?_
  · skip
    refine SafeOps.skip (congrArg (fun b => some (!b)) hc4554) rfl rfl ?_
    refine SafeOps.skip (congrArg (fun b => some (!b)) hc4554) rfl rfl ?_
    refine SafeOps.quiet0 E_good rfl rfl rfl (v := V.bool true) (.pickK rfl hc4554 rfl) ?_
    exact SafeOps.drop' 3 rfl rfl rfl K
  · skip
    refine SafeOps.quiet0 E_good (congrArg (fun b => some (!b)) hc4554) rfl rfl (v := V.int .i64 a2_4190) (.fn rfl) ?_
    refine SafeOps.quiet0 E_good (congrArg (fun b => some (!b)) hc4554) rfl rfl (v := V.bool (decide (a2_4190 < 1))) (.fn rfl) ?_
    refine SafeOps.quiet0 E_good rfl rfl rfl (v := V.bool (decide (a2_4190 < 1))) (.pickK rfl hc4554 rfl) ?_
    exact SafeOps.drop' 3 rfl rfl rfl K
  refine SafeOps.nil ?_
  repeat (first | refine Safe.seq ?_ | refine Safe.skip ?_ | with_reducible refine thenQ.n ?_ | with_reducible refine blockQ.n ?_)
  refine ifG h (fun hc4555 h => ?_) (fun hc4555 h => ?_)
  · skip
    refine Safe.condK rfl hc4555 ?_
    repeat (first | refine Safe.seq ?_ | refine Safe.skip ?_ | with_reducible refine thenQ.n ?_ | with_reducible refine blockQ.n ?_)
    refine Safe.region ?_
    refine SafeOps.quiet0 E_good rfl rfl rfl (v := V.bool false) (.fn rfl) ?_
    refine SafeOps.quiet0 E_good rfl rfl rfl (v := V.int .i64 1) (.fn rfl) ?_
    refine SafeOps.nil ?_
    repeat (first | refine Safe.seq ?_ | refine Safe.skip ?_ | with_reducible refine thenQ.n ?_ | with_reducible refine blockQ.n ?_)
    refine Safe.ret ?_
    repeat (first | with_reducible refine thenQ.r ?_ | with_reducible refine blockQ.r ?_)
    obtain rfl := Option.some.inj h
    exact retQ.gen (vs := [V.bool false, V.int .i64 1]) rfl (.tmp (v := V.bool false) rfl (.tmp (v := V.int .i64 1) rfl .nil)) (.free rfl) (by simp) (.inr rfl)
  · skip
    refine Safe.condN rfl hc4555 ?_
    repeat (first | refine Safe.seq ?_ | refine Safe.skip ?_ | with_reducible refine thenQ.n ?_ | with_reducible refine blockQ.n ?_)
    refine Safe.region ?_
    refine SafeOps.quiet0 E_good rfl rfl rfl (v := V.sl 3 (rws api_Entry.cells a0_4188)) (.fn rfl) ?_
    refine bindG h ?_
    intro x_4556 he4557 h
    refine SafeOps.quiet E_good rfl rfl rfl (v := V.ref [24, 0] 0 (rws api_Entry.cells x_4556).length) (.callP rfl rfl (go_ravelref19_Only_sc a0_4188 0 _ he4557) rfl) rfl ?_
    refine SafeOps.quiet0 E_good rfl rfl rfl (v := V.ref [24, 0] 0 (rws api_Entry.cells x_4556).length) (.fn rfl) ?_
    refine SafeOps.nil ?_
    repeat (first | refine Safe.seq ?_ | refine Safe.skip ?_ | with_reducible refine thenQ.n ?_ | with_reducible refine blockQ.n ?_)
    refine Safe.region ?_
    refine SafeOps.quiet0 E_good rfl rfl rfl (v := V.ref [24, 0] 0 (rws api_Entry.cells x_4556).length) (.fn rfl) ?_
    refine SafeOps.quiet0 E_good rfl rfl rfl (v := V.int .i64 (x_4556.length : Int)) (.fnE rfl lenE) ?_
    refine SafeOps.quiet0 E_good rfl rfl rfl (v := V.int .i64 0) (.fn rfl) ?_
    refine SafeOps.nil ?_
    repeat (first | refine Safe.seq ?_ | refine Safe.skip ?_ | with_reducible refine thenQ.n ?_ | with_reducible refine blockQ.n ?_)
    refine Safe.block ?_
    repeat (first | refine Safe.seq ?_ | refine Safe.skip ?_ | with_reducible refine thenQ.n ?_ | with_reducible refine blockQ.n ?_)
    refine Safe.loopW (fun (v27_4582 : Int) => ⟨Try.f17.ntmps, [(1, V.int .i64 a1_4189), (2, V.int .i64 a2_4190), (8, V.ref [24, 0] 0 (rws api_Entry.cells x_4556).length), (25, V.ref [24, 0] 0 (rws api_Entry.cells x_4556).length), (26, V.int .i64 (x_4556.length : Int)), (27, V.int .i64 v27_4582)], [([24, 0], Obj.rows 3 (rws api_Entry.cells x_4556) false)], [], []⟩) h (.cov ⟨rfl, rfl, (upT_cons (.refl _) (upT_cons (.refl _) (upT_cons (.refl _) (upT_cons (.refl _) (upT_cons (.refl _) (upT_cons (.refl _) upT_nil)))))), (upOb_cons rfl (.refl _) upOb_nil), upOut_nil, rfl⟩) ?_
    intro v27_4582 ohr4583 h hr4583
    replace h : go_ravelref19_Fair_s2 a1_4189 a2_4190 x_4556 v27_4582 = some ohr4583 := h
    rw [go_ravelref19_Fair_s2] at h
    repeat (first | refine Safe.seq ?_ | refine Safe.skip ?_ | with_reducible refine thenQ.n ?_ | with_reducible refine blockQ.n ?_)
    refine Safe.region ?_
    refine SafeOps.quiet0 E_good rfl rfl rfl (v := V.bool (decide (v27_4582 < (x_4556.length : Int)))) (.fn rfl) ?_
    refine SafeOps.nil ?_
    repeat (first | refine Safe.seq ?_ | refine Safe.skip ?_ | with_reducible refine thenQ.n ?_ | with_reducible refine blockQ.n ?_)
    refine ifG h (fun hc4584 h => ?_) (fun hc4584 h => ?_)
    · skip
      refine Safe.condK rfl hc4584 ?_
      repeat (first | refine Safe.seq ?_ | refine Safe.skip ?_ | with_reducible refine thenQ.n ?_ | with_reducible refine blockQ.n ?_)
      refine Safe.block ?_
      repeat (first | refine Safe.seq ?_ | refine Safe.skip ?_ | with_reducible refine thenQ.n ?_ | with_reducible refine blockQ.n ?_)
      refine Safe.region ?_
      refine okG h (fun hb4585 h => ?_)
      refine SafeOps.quiet0 E_good rfl rfl rfl (v := V.ptr [24, 0] (0 + Int.toNat v27_4582) 0) (.idxRefM (f := api_Entry.cells) (xs := x_4556) rfl rfl rfl rfl rfl rfl hb4585) ?_
      refine SafeOps.quiet0 E_good rfl rfl rfl (v := V.agg [V.int .i64 ((gt x_4556 v27_4582).Kind), V.int .i64 ((gt x_4556 v27_4582).A), V.int .i64 ((gt x_4556 v27_4582).B)]) (.load rfl rfl (.rowsM (f := api_Entry.cells) (xs := x_4556) hb4585 rfl rfl) rfl) ?_
      refine SafeOps.quiet1 E_good rfl rfl rfl (.alloc rfl rfl) rfl ?_
      refine SafeOps.store (z := Obj.box [V.int .i64 ((gt x_4556 v27_4582).Kind), V.int .i64 ((gt x_4556 v27_4582).A), V.int .i64 ((gt x_4556 v27_4582).B)]) E_good rfl rfl rfl rfl rfl rfl rfl (.boxM (c := 3) rfl rfl (Nat.le_of_ble_eq_true rfl) rfl) ?_
      refine SafeOps.nil ?_
      repeat (first | refine Safe.seq ?_ | refine Safe.skip ?_ | with_reducible refine thenQ.n ?_ | with_reducible refine blockQ.n ?_)
      refine Safe.region ?_
      refine SafeOps.quiet0 E_good rfl rfl rfl (v := V.ptr [10] 0 1) (.fn rfl) ?_
      refine SafeOps.quiet0 E_good rfl rfl rfl (v := V.int .i64 ((gt x_4556 v27_4582).A)) (.load rfl rfl (.box rfl rfl) rfl) ?_
      refine SafeOps.quiet0 E_good rfl rfl rfl (v := V.bool (decide (((gt x_4556 v27_4582).A) < 0))) (.fn rfl) ?_
      refine SafeOps.quiet0 E_good rfl rfl rfl (v := V.bool (decide (((gt x_4556 v27_4582).A) < 0))) (.fn rfl) ?_
      refine SafeOps.bjoin 5 39 (b := ((decide (((gt x_4556 v27_4582).A) < 0)) || (decide (((gt x_4556 v27_4582).A) ≥ a1_4189)))) (b1 := true) (b0 := decide (((gt x_4556 v27_4582).A) ≥ a1_4189)) (fun hc4586 K => ?_) (fun hc4586 K => ?_) bj_or ?_
      · skip
        refine SafeOps.skip (congrArg (fun b => some (!b)) hc4586) rfl rfl ?_
        refine SafeOps.skip (congrArg (fun b => some (!b)) hc4586) rfl rfl ?_
        refine SafeOps.skip (congrArg (fun b => some (!b)) hc4586) rfl rfl ?_
        refine SafeOps.skip (congrArg (fun b => some (!b)) hc4586) rfl rfl ?_
        refine SafeOps.quiet0 E_good rfl rfl rfl (v := V.bool true) (.pickK rfl hc4586 rfl) ?_
        exact SafeOps.drop' 5 rfl rfl rfl K
      · skip
        refine SafeOps.quiet0 E_good (congrArg (fun b => some (!b)) hc4586) rfl rfl (v := V.ptr [10] 0 1) (.fn rfl) ?_
        refine SafeOps.quiet0 E_good (congrArg (fun b => some (!b)) hc4586) rfl rfl (v := V.int .i64 ((gt x_4556 v27_4582).A)) (.load rfl rfl (.box rfl rfl) rfl) ?_
        refine SafeOps.quiet0 E_good (congrArg (fun b => some (!b)) hc4586) rfl rfl (v := V.int .i64 a1_4189) (.fn rfl) ?_
        refine SafeOps.quiet0 E_good (congrArg (fun b => some (!b)) hc4586) rfl rfl (v := V.bool (decide (((gt x_4556 v27_4582).A) ≥ a1_4189))) (.fn rfl) ?_
        refine SafeOps.quiet0 E_good rfl rfl rfl (v := V.bool (decide (((gt x_4556 v27_4582).A) ≥ a1_4189))) (.pickK rfl hc4586 rfl) ?_
        exact SafeOps.drop' 5 rfl rfl rfl K
      refine SafeOps.nil ?_
      repeat (first | refine Safe.seq ?_ | refine Safe.skip ?_ | with_reducible refine thenQ.n ?_ | with_reducible refine blockQ.n ?_)
      refine ifG h (fun hc4587 h => ?_) (fun hc4587 h => ?_)
      · skip
        refine Safe.condK rfl hc4587 ?_
        repeat (first | refine Safe.seq ?_ | refine Safe.skip ?_ | with_reducible refine thenQ.n ?_ | with_reducible refine blockQ.n ?_)
        refine Safe.region ?_
        refine SafeOps.quiet0 E_good rfl rfl rfl (v := V.bool false) (.fn rfl) ?_
        refine SafeOps.quiet0 E_good rfl rfl rfl (v := V.int .i64 0) (.fn rfl) ?_
        refine SafeOps.nil ?_
        repeat (first | refine Safe.seq ?_ | refine Safe.skip ?_ | with_reducible refine thenQ.n ?_ | with_reducible refine blockQ.n ?_)
        refine Safe.ret ?_
        repeat (first | with_reducible refine thenQ.r ?_ | with_reducible refine blockQ.r ?_)
        replace h := inr_out h hr4583
        obtain rfl := Option.some.inj h
        exact retQ.gen (vs := [V.bool false, V.int .i64 0]) rfl (.tmp (v := V.bool false) rfl (.tmp (v := V.int .i64 0) rfl .nil)) (.free rfl) (by simp) (.inr rfl)
      · skip
        refine Safe.condN rfl hc4587 ?_
        repeat (first | refine Safe.seq ?_ | refine Safe.skip ?_ | with_reducible refine thenQ.n ?_ | with_reducible refine blockQ.n ?_)
        refine Safe.region ?_
        refine SafeOps.quiet0 E_good rfl rfl rfl (v := V.int .i64 (IntKind.i64.wrap (v27_4582 + 1))) (.fn rfl) ?_
        refine SafeOps.quiet0 E_good rfl rfl rfl (v := V.int .i64 (IntKind.i64.wrap (v27_4582 + 1))) (.fn rfl) ?_
        refine SafeOps.nil ?_
        repeat (first | refine Safe.seq ?_ | refine Safe.skip ?_ | with_reducible refine thenQ.n ?_ | with_reducible refine blockQ.n ?_)
        exact ⟨_, next_out h, (.cov ⟨rfl, rfl, (upT_cons (.refl _) (upT_cons (.refl _) (upT_cons (.refl _) (upT_cons (.refl _) (upT_cons (.refl _) (upT_cons (.refl _) upT_nil)))))), (upOb_cons rfl (.refl _) upOb_nil), upOut_nil, rfl⟩)⟩
    · skip
      refine Safe.condN rfl hc4584 ?_
      repeat (first | refine Safe.seq ?_ | refine Safe.skip ?_ | with_reducible refine thenQ.n ?_ | with_reducible refine blockQ.n ?_)
      refine Safe.exit ?_
      repeat (first | with_reducible refine thenQ.e ?_ | with_reducible refine blockQ.x rfl ?_ | with_reducible refine blockQ.y rfl ?_)
      replace h := inr_out h hr4583
      repeat (first | refine Safe.seq ?_ | refine Safe.skip ?_ | with_reducible refine thenQ.n ?_ | with_reducible refine blockQ.n ?_)
      refine Safe.region ?_
      refine SafeOps.quiet0 E_good rfl rfl rfl (v := V.int .i64 0) (.fn rfl) ?_
      refine SafeOps.nil ?_
      repeat (first | refine Safe.seq ?_ | refine Safe.skip ?_ | with_reducible refine thenQ.n ?_ | with_reducible refine blockQ.n ?_)
      refine Safe.block ?_
      repeat (first | refine Safe.seq ?_ | refine Safe.skip ?_ | with_reducible refine thenQ.n ?_ | with_reducible refine blockQ.n ?_)
      refine Safe.loopW (fun ((v8_4782, v11_4783) : (List api_Entry) × Int) => ⟨Try.f17.ntmps, [(1, V.int .i64 a1_4189), (2, V.int .i64 a2_4190), (8, V.sl 3 (rws api_Entry.cells v8_4782)), (11, V.int .i64 v11_4783)], [], [], []⟩) h (.freeze [24, 0] rfl (.cov ⟨rfl, rfl, (upT_cons (.refl _) (upT_cons (.refl _) (upT_cons (.full rfl rfl) (upT_cons (.refl _) upT_nil)))), upOb_nil, upOut_nil, rfl⟩)) ?_
      rintro ⟨v8_4782, v11_4783⟩ ohr4784 h hr4784
      replace h : go_ravelref19_Fair_s17 a1_4189 a2_4190 (v8_4782, v11_4783) = some ohr4784 := h
      rw [go_ravelref19_Fair_s17] at h
      repeat (first | refine Safe.seq ?_ | refine Safe.skip ?_ | with_reducible refine thenQ.n ?_ | with_reducible refine blockQ.n ?_)
      refine Safe.region ?_
      refine SafeOps.quiet0 E_good rfl rfl rfl (v := V.int .i64 a2_4190) (.fn rfl) ?_
      refine SafeOps.quiet0 E_good rfl rfl rfl (v := V.sl 3 (rws api_Entry.cells v8_4782)) (.fn rfl) ?_
      refine SafeOps.quiet0 E_good rfl rfl rfl (v := V.int .i64 (v8_4782.length : Int)) (.fnE rfl lenE) ?_
      refine SafeOps.quiet0 E_good rfl rfl rfl (v := V.bool (decide (a2_4190 ≤ (v8_4782.length : Int)))) (.fn rfl) ?_
      refine SafeOps.quiet0 E_good rfl rfl rfl (v := V.bool (decide (a2_4190 ≤ (v8_4782.length : Int)))) (.fn rfl) ?_
      refine SafeOps.bjoin 7 52 (b := ((decide (a2_4190 ≤ (v8_4782.length : Int))) && (decide (v11_4783 ≤ (IntKind.i64.wrap ((v8_4782.length : Int) - a2_4190)))))) (b1 := decide (v11_4783 ≤ (IntKind.i64.wrap ((v8_4782.length : Int) - a2_4190)))) (b0 := false) (fun hc4785 K => ?_) (fun hc4785 K => ?_) bj_and ?_
      · skip
        refine SafeOps.quiet0 E_good (congrArg some hc4785) rfl rfl (v := V.int .i64 v11_4783) (.fn rfl) ?_
        refine SafeOps.quiet0 E_good (congrArg some hc4785) rfl rfl (v := V.sl 3 (rws api_Entry.cells v8_4782)) (.fn rfl) ?_
        refine SafeOps.quiet0 E_good (congrArg some hc4785) rfl rfl (v := V.int .i64 (v8_4782.length : Int)) (.fnE rfl lenE) ?_
        refine SafeOps.quiet0 E_good (congrArg some hc4785) rfl rfl (v := V.int .i64 a2_4190) (.fn rfl) ?_
        refine SafeOps.quiet0 E_good (congrArg some hc4785) rfl rfl (v := V.int .i64 (IntKind.i64.wrap ((v8_4782.length : Int) - a2_4190))) (.fn rfl) ?_
        refine SafeOps.quiet0 E_good (congrArg some hc4785) rfl rfl (v := V.bool (decide (v11_4783 ≤ (IntKind.i64.wrap ((v8_4782.length : Int) - a2_4190))))) (.fn rfl) ?_
        refine SafeOps.quiet0 E_good rfl rfl rfl (v := V.bool (decide (v11_4783 ≤ (IntKind.i64.wrap ((v8_4782.length : Int) - a2_4190))))) (.pickK rfl hc4785 rfl) ?_
        exact SafeOps.drop' 7 rfl rfl rfl K
      · skip
        refine SafeOps.skip (congrArg some hc4785) rfl rfl ?_
        refine SafeOps.skip (congrArg some hc4785) rfl rfl ?_
        refine SafeOps.skip (congrArg some hc4785) rfl rfl ?_
        refine SafeOps.skip (congrArg some hc4785) rfl rfl ?_
        refine SafeOps.skip (congrArg some hc4785) rfl rfl ?_
        refine SafeOps.skip (congrArg some hc4785) rfl rfl ?_
        refine SafeOps.quiet0 E_good rfl rfl rfl (v := V.bool false) (.pickK rfl hc4785 rfl) ?_
        exact SafeOps.drop' 7 rfl rfl rfl K
      refine SafeOps.nil ?_
      repeat (first | refine Safe.seq ?_ | refine Safe.skip ?_ | with_reducible refine thenQ.n ?_ | with_reducible refine blockQ.n ?_)
      refine ifG h (fun hc4786 h => ?_) (fun hc4786 h => ?_)
      · skip
        refine Safe.condK rfl hc4786 ?_
        repeat (first | refine Safe.seq ?_ | refine Safe.skip ?_ | with_reducible refine thenQ.n ?_ | with_reducible refine blockQ.n ?_)
        refine Safe.block ?_
        repeat (first | refine Safe.seq ?_ | refine Safe.skip ?_ | with_reducible refine thenQ.n ?_ | with_reducible refine blockQ.n ?_)
        refine Safe.region ?_
        refine SafeOps.quiet0 E_good rfl rfl rfl (v := V.int .i64 a1_4189) (.fn rfl) ?_
        refine SafeOps.quiet0 E_good rfl rfl rfl (v := V.int .i64 0) (.fn rfl) ?_
        refine SafeOps.nil ?_
        repeat (first | refine Safe.seq ?_ | refine Safe.skip ?_ | with_reducible refine thenQ.n ?_ | with_reducible refine blockQ.n ?_)
        refine Safe.block ?_
        repeat (first | refine Safe.seq ?_ | refine Safe.skip ?_ | with_reducible refine thenQ.n ?_ | with_reducible refine blockQ.n ?_)
        refine Safe.loopW (fun (v56_4846 : Int) => ⟨Try.f17.ntmps, [(1, V.int .i64 a1_4189), (2, V.int .i64 a2_4190), (8, V.sl 3 (rws api_Entry.cells v8_4782)), (11, V.int .i64 v11_4783), (55, V.int .i64 a1_4189), (56, V.int .i64 v56_4846)], [], [], []⟩) h (.cov ⟨rfl, rfl, (upT_cons (.refl _) (upT_cons (.refl _) (upT_cons (.refl _) (upT_cons (.refl _) (upT_cons (.refl _) (upT_cons (.refl _) upT_nil)))))), upOb_nil, upOut_nil, rfl⟩) ?_
        intro v56_4846 ohr4847 h hr4847
        replace h : go_ravelref19_Fair_s22 a1_4189 a2_4190 v8_4782 v11_4783 v56_4846 = some ohr4847 := h
        rw [go_ravelref19_Fair_s22] at h
        repeat (first | refine Safe.seq ?_ | refine Safe.skip ?_ | with_reducible refine thenQ.n ?_ | with_reducible refine blockQ.n ?_)
        refine Safe.region ?_
        refine SafeOps.quiet0 E_good rfl rfl rfl (v := V.bool (decide (v56_4846 < a1_4189))) (.fn rfl) ?_
        refine SafeOps.nil ?_
        repeat (first | refine Safe.seq ?_ | refine Safe.skip ?_ | with_reducible refine thenQ.n ?_ | with_reducible refine blockQ.n ?_)
        refine ifG h (fun hc4848 h => ?_) (fun hc4848 h => ?_)
        · skip
          refine Safe.condK rfl hc4848 ?_
          repeat (first | refine Safe.seq ?_ | refine Safe.skip ?_ | with_reducible refine thenQ.n ?_ | with_reducible refine blockQ.n ?_)
          refine Safe.block ?_
          repeat (first | refine Safe.seq ?_ | refine Safe.skip ?_ | with_reducible refine thenQ.n ?_ | with_reducible refine blockQ.n ?_)
          refine Safe.region ?_
          refine SafeOps.quiet0 E_good rfl rfl rfl (v := V.int .i64 v56_4846) (.fn rfl) ?_
          refine SafeOps.quiet0 E_good rfl rfl rfl (v := V.int .i64 v56_4846) (.fn rfl) ?_
          refine SafeOps.nil ?_
          repeat (first | refine Safe.seq ?_ | refine Safe.skip ?_ | with_reducible refine thenQ.n ?_ | with_reducible refine blockQ.n ?_)
          refine Safe.region ?_
          refine SafeOps.quiet0 E_good rfl rfl rfl (v := V.bool false) (.fn rfl) ?_
          refine SafeOps.nil ?_
          repeat (first | refine Safe.seq ?_ | refine Safe.skip ?_ | with_reducible refine thenQ.n ?_ | with_reducible refine blockQ.n ?_)
          refine Safe.region ?_
          refine SafeOps.quiet0 E_good rfl rfl rfl (v := V.sl 3 (rws api_Entry.cells v8_4782)) (.fn rfl) ?_
          refine SafeOps.quiet0 E_good rfl rfl rfl (v := V.int .i64 v11_4783) (.fn rfl) ?_
          refine SafeOps.quiet0 E_good rfl rfl rfl (v := V.int .i64 v11_4783) (.fn rfl) ?_
          refine SafeOps.quiet0 E_good rfl rfl rfl (v := V.int .i64 a2_4190) (.fn rfl) ?_
          refine SafeOps.quiet0 E_good rfl rfl rfl (v := V.int .i64 (IntKind.i64.wrap (v11_4783 + a2_4190))) (.fn rfl) ?_
          refine okG h (fun hb4849 h => ?_)
          refine SafeOps.quiet0 E_good rfl rfl rfl (v := V.sl 3 (rws api_Entry.cells (sub v8_4782 v11_4783 (IntKind.i64.wrap (v11_4783 + a2_4190))))) (.slLH (f := api_Entry.cells) rfl rfl rfl rfl rfl rfl hb4849) ?_
          refine SafeOps.quiet0 E_good rfl rfl rfl (v := V.int .i64 ((sub v8_4782 v11_4783 (IntKind.i64.wrap (v11_4783 + a2_4190))).length : Int)) (.fnE rfl lenE) ?_
          refine SafeOps.quiet0 E_good rfl rfl rfl (v := V.int .i64 0) (.fn rfl) ?_
          refine SafeOps.nil ?_
          repeat (first | refine Safe.seq ?_ | refine Safe.skip ?_ | with_reducible refine thenQ.n ?_ | with_reducible refine blockQ.n ?_)
          refine Safe.block ?_
          repeat (first | refine Safe.seq ?_ | refine Safe.skip ?_ | with_reducible refine thenQ.n ?_ | with_reducible refine blockQ.n ?_)
          refine Safe.loopW (fun ((v13_4870, v66_4871) : Bool × Int) => ⟨Try.f17.ntmps, [(1, V.int .i64 a1_4189), (2, V.int .i64 a2_4190), (8, V.sl 3 (rws api_Entry.cells v8_4782)), (11, V.int .i64 v11_4783), (12, V.int .i64 v56_4846), (13, V.bool v13_4870), (55, V.int .i64 a1_4189), (56, V.int .i64 v56_4846), (64, V.sl 3 (rws api_Entry.cells (sub v8_4782 v11_4783 (IntKind.i64.wrap (v11_4783 + a2_4190))))), (65, V.int .i64 ((sub v8_4782 v11_4783 (IntKind.i64.wrap (v11_4783 + a2_4190))).length : Int)), (66, V.int .i64 v66_4871)], [], [], []⟩) h (.cov ⟨rfl, rfl, (upT_cons (.refl _) (upT_cons (.refl _) (upT_cons (.refl _) (upT_cons (.refl _) (upT_cons (.refl _) (upT_cons (.refl _) (upT_cons (.refl _) (upT_cons (.refl _) (upT_cons (.refl _) (upT_cons (.refl _) (upT_cons (.refl _) upT_nil))))))))))), upOb_nil, upOut_nil, rfl⟩) ?_
          rintro ⟨v13_4870, v66_4871⟩ ohr4872 h hr4872
          replace h : go_ravelref19_Fair_s24 a2_4190 v8_4782 v11_4783 v56_4846 (v13_4870, v66_4871) = some ohr4872 := h
          rw [go_ravelref19_Fair_s24] at h
          repeat (first | refine Safe.seq ?_ | refine Safe.skip ?_ | with_reducible refine thenQ.n ?_ | with_reducible refine blockQ.n ?_)
          refine Safe.region ?_
          refine SafeOps.quiet0 E_good rfl rfl rfl (v := V.bool (decide (v66_4871 < ((sub v8_4782 v11_4783 (IntKind.i64.wrap (v11_4783 + a2_4190))).length : Int)))) (.fn rfl) ?_
          refine SafeOps.nil ?_
          repeat (first | refine Safe.seq ?_ | refine Safe.skip ?_ | with_reducible refine thenQ.n ?_ | with_reducible refine blockQ.n ?_)
          refine ifG h (fun hc4873 h => ?_) (fun hc4873 h => ?_)
          · skip
            refine Safe.condK rfl hc4873 ?_
            repeat (first | refine Safe.seq ?_ | refine Safe.skip ?_ | with_reducible refine thenQ.n ?_ | with_reducible refine blockQ.n ?_)
            refine Safe.block ?_
            repeat (first | refine Safe.seq ?_ | refine Safe.skip ?_ | with_reducible refine thenQ.n ?_ | with_reducible refine blockQ.n ?_)
            refine Safe.region ?_
            refine okG h (fun hb4874 h => ?_)
            refine SafeOps.quiet0 E_good rfl rfl rfl (v := V.spt 3 (rws api_Entry.cells (sub v8_4782 v11_4783 (IntKind.i64.wrap (v11_4783 + a2_4190)))) (Int.toNat v66_4871) 0) (.idxSlM (f := api_Entry.cells) rfl rfl rfl rfl rfl hb4874) ?_
            refine SafeOps.quiet0 E_good rfl rfl rfl (v := V.agg [V.int .i64 ((gt (sub v8_4782 v11_4783 (IntKind.i64.wrap (v11_4783 + a2_4190))) v66_4871).Kind), V.int .i64 ((gt (sub v8_4782 v11_4783 (IntKind.i64.wrap (v11_4783 + a2_4190))) v66_4871).A), V.int .i64 ((gt (sub v8_4782 v11_4783 (IntKind.i64.wrap (v11_4783 + a2_4190))) v66_4871).B)]) (.load rfl rfl (.sptM (f := api_Entry.cells) hb4874 rfl) rfl) ?_
            refine SafeOps.quiet1 E_good rfl rfl rfl (.alloc rfl rfl) rfl ?_
            refine SafeOps.store (z := Obj.box [V.int .i64 ((gt (sub v8_4782 v11_4783 (IntKind.i64.wrap (v11_4783 + a2_4190))) v66_4871).Kind), V.int .i64 ((gt (sub v8_4782 v11_4783 (IntKind.i64.wrap (v11_4783 + a2_4190))) v66_4871).A), V.int .i64 ((gt (sub v8_4782 v11_4783 (IntKind.i64.wrap (v11_4783 + a2_4190))) v66_4871).B)]) E_good rfl rfl rfl rfl rfl rfl rfl (.boxM (c := 3) rfl rfl (Nat.le_of_ble_eq_true rfl) rfl) ?_
            refine SafeOps.nil ?_
            repeat (first | refine Safe.seq ?_ | refine Safe.skip ?_ | with_reducible refine thenQ.n ?_ | with_reducible refine blockQ.n ?_)
            refine Safe.region ?_
            refine SafeOps.quiet0 E_good rfl rfl rfl (v := V.bool v13_4870) (.fn rfl) ?_
            refine SafeOps.quiet0 E_good rfl rfl rfl (v := V.bool v13_4870) (.fn rfl) ?_
            refine SafeOps.bjoin 5 76 (b := (v13_4870 || (((gt (sub v8_4782 v11_4783 (IntKind.i64.wrap (v11_4783 + a2_4190))) v66_4871).A) == v56_4846))) (b1 := true) (b0 := (((gt (sub v8_4782 v11_4783 (IntKind.i64.wrap (v11_4783 + a2_4190))) v66_4871).A) == v56_4846)) (fun hc4875 K => ?_) (fun hc4875 K => ?_) bj_or ?_
            · skip
              refine SafeOps.skip (congrArg (fun b => some (!b)) hc4875) rfl rfl ?_
              refine SafeOps.skip (congrArg (fun b => some (!b)) hc4875) rfl rfl ?_
              refine SafeOps.skip (congrArg (fun b => some (!b)) hc4875) rfl rfl ?_
              refine SafeOps.skip (congrArg (fun b => some (!b)) hc4875) rfl rfl ?_
              refine SafeOps.quiet0 E_good rfl rfl rfl (v := V.bool true) (.pickK rfl hc4875 rfl) ?_
              exact SafeOps.drop' 5 rfl rfl rfl K
            · skip
              refine SafeOps.quiet0 E_good (congrArg (fun b => some (!b)) hc4875) rfl rfl (v := V.ptr [15] 0 1) (.fn rfl) ?_
              refine SafeOps.quiet0 E_good (congrArg (fun b => some (!b)) hc4875) rfl rfl (v := V.int .i64 ((gt (sub v8_4782 v11_4783 (IntKind.i64.wrap (v11_4783 + a2_4190))) v66_4871).A)) (.load rfl rfl (.box rfl rfl) rfl) ?_
              refine SafeOps.quiet0 E_good (congrArg (fun b => some (!b)) hc4875) rfl rfl (v := V.int .i64 v56_4846) (.fn rfl) ?_
              refine SafeOps.quiet0 E_good (congrArg (fun b => some (!b)) hc4875) rfl rfl (v := V.bool (((gt (sub v8_4782 v11_4783 (IntKind.i64.wrap (v11_4783 + a2_4190))) v66_4871).A) == v56_4846)) (.fn rfl) ?_
              refine SafeOps.quiet0 E_good rfl rfl rfl (v := V.bool (((gt (sub v8_4782 v11_4783 (IntKind.i64.wrap (v11_4783 + a2_4190))) v66_4871).A) == v56_4846)) (.pickK rfl hc4875 rfl) ?_
              exact SafeOps.drop' 5 rfl rfl rfl K
            refine SafeOps.quiet0 E_good rfl rfl rfl (v := V.bool (v13_4870 || (((gt (sub v8_4782 v11_4783 (IntKind.i64.wrap (v11_4783 + a2_4190))) v66_4871).A) == v56_4846))) (.fn rfl) ?_
            refine SafeOps.nil ?_
            repeat (first | refine Safe.seq ?_ | refine Safe.skip ?_ | with_reducible refine thenQ.n ?_ | with_reducible refine blockQ.n ?_)
            refine Safe.region ?_
            refine SafeOps.quiet0 E_good rfl rfl rfl (v := V.int .i64 (IntKind.i64.wrap (v66_4871 + 1))) (.fn rfl) ?_
            refine SafeOps.quiet0 E_good rfl rfl rfl (v := V.int .i64 (IntKind.i64.wrap (v66_4871 + 1))) (.fn rfl) ?_
            refine SafeOps.nil ?_
            repeat (first | refine Safe.seq ?_ | refine Safe.skip ?_ | with_reducible refine thenQ.n ?_ | with_reducible refine blockQ.n ?_)
            exact ⟨_, next_out h, (.cov ⟨rfl, rfl, (upT_cons (.refl _) (upT_cons (.refl _) (upT_cons (.refl _) (upT_cons (.refl _) (upT_cons (.refl _) (upT_cons (.refl _) (upT_cons (.refl _) (upT_cons (.refl _) (upT_cons (.refl _) (upT_cons (.refl _) (upT_cons (.refl _) upT_nil))))))))))), upOb_nil, upOut_nil, rfl⟩)⟩
          · skip
            refine Safe.condN rfl hc4873 ?_
            repeat (first | refine Safe.seq ?_ | refine Safe.skip ?_ | with_reducible refine thenQ.n ?_ | with_reducible refine blockQ.n ?_)
            refine Safe.exit ?_
            repeat (first | with_reducible refine thenQ.e ?_ | with_reducible refine blockQ.x rfl ?_ | with_reducible refine blockQ.y rfl ?_)
            replace h := inr_out h hr4872
            repeat (first | refine Safe.seq ?_ | refine Safe.skip ?_ | with_reducible refine thenQ.n ?_ | with_reducible refine blockQ.n ?_)
            refine Safe.region ?_
            refine SafeOps.quiet0 E_good rfl rfl rfl (v := V.bool v13_4870) (.fn rfl) ?_
            refine SafeOps.quiet0 E_good rfl rfl rfl (v := V.bool (!v13_4870)) (.fn rfl) ?_
            refine SafeOps.nil ?_
            repeat (first | refine Safe.seq ?_ | refine Safe.skip ?_ | with_reducible refine thenQ.n ?_ | with_reducible refine blockQ.n ?_)
            refine ifG h (fun hc4876 h => ?_) (fun hc4876 h => ?_)
            · skip
              refine Safe.condK rfl hc4876 ?_
              repeat (first | refine Safe.seq ?_ | refine Safe.skip ?_ | with_reducible refine thenQ.n ?_ | with_reducible refine blockQ.n ?_)
              refine Safe.region ?_
              refine SafeOps.quiet0 E_good rfl rfl rfl (v := V.bool false) (.fn rfl) ?_
              refine SafeOps.quiet0 E_good rfl rfl rfl (v := V.int .i64 0) (.fn rfl) ?_
              refine SafeOps.nil ?_
              repeat (first | refine Safe.seq ?_ | refine Safe.skip ?_ | with_reducible refine thenQ.n ?_ | with_reducible refine blockQ.n ?_)
              refine Safe.ret ?_
              repeat (first | with_reducible refine thenQ.r ?_ | with_reducible refine blockQ.r ?_)
              replace h := inr_out h hr4847
              replace h := inr_out h hr4784
              obtain rfl := Option.some.inj h
              exact retQ.gen (vs := [V.bool false, V.int .i64 0]) rfl (.tmp (v := V.bool false) rfl (.tmp (v := V.int .i64 0) rfl .nil)) (.free rfl) (by simp) (.inr rfl)
            · skip
              refine Safe.condN rfl hc4876 ?_
              repeat (first | refine Safe.seq ?_ | refine Safe.skip ?_ | with_reducible refine thenQ.n ?_ | with_reducible refine blockQ.n ?_)
              refine Safe.region ?_
              refine SafeOps.quiet0 E_good rfl rfl rfl (v := V.int .i64 (IntKind.i64.wrap (v56_4846 + 1))) (.fn rfl) ?_
              refine SafeOps.quiet0 E_good rfl rfl rfl (v := V.int .i64 (IntKind.i64.wrap (v56_4846 + 1))) (.fn rfl) ?_
              refine SafeOps.nil ?_
              repeat (first | refine Safe.seq ?_ | refine Safe.skip ?_ | with_reducible refine thenQ.n ?_ | with_reducible refine blockQ.n ?_)
              exact ⟨_, next_out h, (.cov ⟨rfl, rfl, (upT_cons (.refl _) (upT_cons (.refl _) (upT_cons (.refl _) (upT_cons (.refl _) (upT_cons (.refl _) (upT_cons (.refl _) upT_nil)))))), upOb_nil, upOut_nil, rfl⟩)⟩
        · skip
          refine Safe.condN rfl hc4848 ?_
          repeat (first | refine Safe.seq ?_ | refine Safe.skip ?_ | with_reducible refine thenQ.n ?_ | with_reducible refine blockQ.n ?_)
          refine Safe.exit ?_
          repeat (first | with_reducible refine thenQ.e ?_ | with_reducible refine blockQ.x rfl ?_ | with_reducible refine blockQ.y rfl ?_)
          replace h := inr_out h hr4847
          repeat (first | refine Safe.seq ?_ | refine Safe.skip ?_ | with_reducible refine thenQ.n ?_ | with_reducible refine blockQ.n ?_)
          refine Safe.region ?_
          refine SafeOps.quiet0 E_good rfl rfl rfl (v := V.int .i64 v11_4783) (.fn rfl) ?_
          refine SafeOps.quiet0 E_good rfl rfl rfl (v := V.int .i64 (IntKind.i64.wrap (v11_4783 + 1))) (.fn rfl) ?_
          refine SafeOps.quiet0 E_good rfl rfl rfl (v := V.int .i64 (IntKind.i64.wrap (v11_4783 + 1))) (.fn rfl) ?_
          refine SafeOps.nil ?_
          repeat (first | refine Safe.seq ?_ | refine Safe.skip ?_ | with_reducible refine thenQ.n ?_ | with_reducible refine blockQ.n ?_)
          exact ⟨_, next_out h, (.cov ⟨rfl, rfl, (upT_cons (.refl _) (upT_cons (.refl _) (upT_cons (.refl _) (upT_cons (.refl _) upT_nil)))), upOb_nil, upOut_nil, rfl⟩)⟩
      · skip
        refine Safe.condN rfl hc4786 ?_
        repeat (first | refine Safe.seq ?_ | refine Safe.skip ?_ | with_reducible refine thenQ.n ?_ | with_reducible refine blockQ.n ?_)
        refine Safe.exit ?_
        repeat (first | with_reducible refine thenQ.e ?_ | with_reducible refine blockQ.x rfl ?_ | with_reducible refine blockQ.y rfl ?_)
        replace h := inr_out h hr4784
        repeat (first | refine Safe.seq ?_ | refine Safe.skip ?_ | with_reducible refine thenQ.n ?_ | with_reducible refine blockQ.n ?_)
        refine Safe.region ?_
        refine SafeOps.quiet0 E_good rfl rfl rfl (v := V.bool true) (.fn rfl) ?_
        refine SafeOps.quiet0 E_good rfl rfl rfl (v := V.int .i64 0) (.fn rfl) ?_
        refine SafeOps.nil ?_
        repeat (first | refine Safe.seq ?_ | refine Safe.skip ?_ | with_reducible refine thenQ.n ?_ | with_reducible refine blockQ.n ?_)
        refine Safe.ret ?_
        repeat (first | with_reducible refine thenQ.r ?_ | with_reducible refine blockQ.r ?_)
        obtain rfl := Option.some.inj h
        exact retQ.gen (vs := [V.bool true, V.int .i64 0]) rfl (.tmp (v := V.bool true) rfl (.tmp (v := V.int .i64 0) rfl .nil)) (.free rfl) (by simp) (.inr rfl)
end Go.Proofs.Ythhpnmfcmgdghaa
