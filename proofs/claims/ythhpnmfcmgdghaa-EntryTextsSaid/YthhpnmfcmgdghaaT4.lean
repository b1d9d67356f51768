/- Helper lemmas for the claim's theorem: an abstract machine over the model, proved sound; no condition beyond each lemma's own. -/
import Derived.Test.YthhpnmfcmgdghaaT3
set_option linter.unusedVariables false
set_option linter.unusedSimpArgs false
set_option linter.unnecessarySimpa false
set_option linter.unusedSectionVars false
namespace Go.Proofs.Ythhpnmfcmgdghaa
open Go Go.AM
set_option maxRecDepth 100000
set_option maxHeartbeats 1000000
set_option linter.unusedVariables false
set_option linter.unusedSimpArgs false
variable {gl : List (Nat × List V)}
noncomputable def go_ravellaw19_EntryTexts_j2 (a0_3898 : List api_Entry) (b_4957 : Bool) : Option Bool :=
  if b_4957 = true then
    (go_entry_Check a0_3898).bind fun x_4964 =>
    (go_ravelref19_Check a0_3898).bind fun x_4966 =>
    some (x_4964 == x_4966)
  else
    some false

noncomputable def go_ravellaw19_EntryTexts_j1 (a0_3898 : List api_Entry) (a2_3900 : Int) (x_4929 : Int) (x_4932 : Int) (x_4934 : Bool) (x_4935 : Int) (x_4937 : Bool) (x_4938 : Int) (b_4945 : Bool) : Option Bool :=
  if (((b_4945 && (x_4929 == x_4932)) && (x_4934 == x_4937)) && (x_4935 == x_4938)) = true then
    (go_entry_Only a0_3898 a2_3900).bind fun x_4968 =>
    (go_ravelref19_Only a0_3898 a2_3900).bind fun x_4970 =>
    (go_ravelref19_SameList x_4968 x_4970).bind fun x_4972 =>
    go_ravellaw19_EntryTexts_j2 a0_3898 x_4972
  else
    go_ravellaw19_EntryTexts_j2 a0_3898 false

noncomputable def go_ravellaw19_EntryTexts (a0_3898 : List api_Entry) (a1_3899 : List Int) (a2_3900 : Int) (a3_3901 : Int) (a4_3902 : Int) : Option Bool :=
  (go_ravellaw19_live).bind fun x_4916 =>
  if (!x_4916) = true then
    some false
  else
    if ((decide ((a0_3898.length : Int) > 300)) || ((decide ((a1_3899.length : Int) > 900)) && (decide ((a1_3899.length : Int) ≤ 196608)))) = true then
      some x_4916
    else
      (go_entry_Write a0_3898).bind fun (x_4922, x_4923) =>
      (go_ravelref19_Write a0_3898).bind fun (x_4925, x_4926) =>
      (go_entry_Read a1_3899).bind fun (x_4928, x_4929) =>
      (go_ravelref19_Read a1_3899).bind fun (x_4931, x_4932) =>
      (go_entry_Fair a0_3898 a3_3901 a4_3902).bind fun (x_4934, x_4935) =>
      (go_ravelref19_Fair a0_3898 a3_3901 a4_3902).bind fun (x_4937, x_4938) =>
      if ((x_4916 && ((strOfNums x_4922).toList == (strOfNums x_4925).toList)) && (x_4923 == x_4926)) = true then
        (go_ravelref19_SameList x_4928 x_4931).bind fun x_4974 =>
        go_ravellaw19_EntryTexts_j1 a0_3898 a2_3900 x_4929 x_4932 x_4934 x_4935 x_4937 x_4938 x_4974
      else
        go_ravellaw19_EntryTexts_j1 a0_3898 a2_3900 x_4929 x_4932 x_4934 x_4935 x_4937 x_4938 false

theorem go_ravellaw19_EntryTexts_sc (a0_3898 : List api_Entry) (a1_3899 : List Int) (a2_3900 : Int) (a3_3901 : Int) (a4_3902 : Int) (r : Bool) (h : go_ravellaw19_EntryTexts a0_3898 a1_3899 a2_3900 a3_3901 a4_3902 = some r) : SC Try.prog gl 5 [V.sl 3 (rws api_Entry.cells a0_3898), V.sl 1 (rws (fun n => [V.int .u8 n]) a1_3899), V.int .i64 a2_3900, V.int .i64 a3_3901, V.int .i64 a4_3902] (V.bool r) := by
  rw [go_ravellaw19_EntryTexts] at h
  refine SC.of E_good Try.func5 rfl (fun _ _ => Try.call5 _ _) rfl ?_
  repeat (first | refine Safe.seq ?_ | refine Safe.skip ?_ | with_reducible refine thenQ.n ?_ | with_reducible refine blockQ.n ?_)
  refine Safe.region ?_
  refine SafeOps.quiet0 E_good rfl rfl rfl (v := V.bool false) (.fn rfl) ?_
  refine SafeOps.nil ?_
  repeat (first | refine Safe.seq ?_ | refine Safe.skip ?_ | with_reducible refine thenQ.n ?_ | with_reducible refine blockQ.n ?_)
  refine Safe.region ?_
  refine bindG h ?_
  intro x_4916 he4917 h
  refine SafeOps.quiet0 E_good rfl rfl rfl (v := V.bool x_4916) (.callP rfl rfl (go_ravellaw19_live_sc  _ he4917) rfl) ?_
  refine SafeOps.quiet0 E_good rfl rfl rfl (v := V.bool x_4916) (.fn rfl) ?_
  refine SafeOps.nil ?_
  repeat (first | refine Safe.seq ?_ | refine Safe.skip ?_ | with_reducible refine thenQ.n ?_ | with_reducible refine blockQ.n ?_)
  refine Safe.region ?_
  refine SafeOps.quiet0 E_good rfl rfl rfl (v := V.bool x_4916) (.fn rfl) ?_
  refine SafeOps.quiet0 E_good rfl rfl rfl (v := V.bool (!x_4916)) (.fn rfl) ?_
  refine SafeOps.nil ?_
  repeat (first | refine Safe.seq ?_ | refine Safe.skip ?_ | with_reducible refine thenQ.n ?_ | with_reducible refine blockQ.n ?_)
  refine ifG h (fun hc4918 h => ?_) (fun hc4918 h => ?_)
  · skip
    refine Safe.condK rfl hc4918 ?_
    repeat (first | refine Safe.seq ?_ | refine Safe.skip ?_ | with_reducible refine thenQ.n ?_ | with_reducible refine blockQ.n ?_)
    refine Safe.region ?_
    refine SafeOps.quiet0 E_good rfl rfl rfl (v := V.bool false) (.fn rfl) ?_
    refine SafeOps.nil ?_
    repeat (first | refine Safe.seq ?_ | refine Safe.skip ?_ | with_reducible refine thenQ.n ?_ | with_reducible refine blockQ.n ?_)
    refine Safe.ret ?_
    repeat (first | with_reducible refine thenQ.r ?_ | with_reducible refine blockQ.r ?_)
    obtain rfl := Option.some.inj h
    exact retQ.gen (vs := [V.bool false]) rfl (.tmp (v := V.bool false) rfl .nil) (.free rfl) (by simp) (.inr rfl)
  · skip
    refine Safe.condN rfl hc4918 ?_
    repeat (first | refine Safe.seq ?_ | refine Safe.skip ?_ | with_reducible refine thenQ.n ?_ | with_reducible refine blockQ.n ?_)
    refine Safe.region ?_
    refine SafeOps.quiet0 E_good rfl rfl rfl (v := V.sl 3 (rws api_Entry.cells a0_3898)) (.fn rfl) ?_
    refine SafeOps.quiet0 E_good rfl rfl rfl (v := V.int .i64 (a0_3898.length : Int)) (.fnE rfl lenE) ?_
    refine SafeOps.quiet0 E_good rfl rfl rfl (v := V.bool (decide ((a0_3898.length : Int) > 300))) (.fn rfl) ?_
    refine SafeOps.quiet0 E_good rfl rfl rfl (v := V.bool (decide ((a0_3898.length : Int) > 300))) (.fn rfl) ?_
    refine SafeOps.bjoin 9 39 (b := ((decide ((a0_3898.length : Int) > 300)) || ((decide ((a1_3899.length : Int) > 900)) && (decide ((a1_3899.length : Int) ≤ 196608))))) (b1 := true) (b0 := ((decide ((a1_3899.length : Int) > 900)) && (decide ((a1_3899.length : Int) ≤ 196608)))) (fun hc4919 K => ?_) (fun hc4919 K => ?_) bj_or ?_
    · skip
      refine SafeOps.skip (congrArg (fun b => some (!b)) hc4919) rfl rfl ?_
      refine SafeOps.skip (congrArg (fun b => some (!b)) hc4919) rfl rfl ?_
      refine SafeOps.skip (congrArg (fun b => some (!b)) hc4919) rfl rfl ?_
      refine SafeOps.skip (congrArg (fun b => some (!b)) hc4919) rfl rfl ?_
      refine SafeOps.skip rfl rfl rfl ?_
      refine SafeOps.skip rfl rfl rfl ?_
      refine SafeOps.skip rfl rfl rfl ?_
      refine SafeOps.skip (congrArg (fun b => some (!b)) hc4919) rfl rfl ?_
      refine SafeOps.quiet0 E_good rfl rfl rfl (v := V.bool true) (.pickK rfl hc4919 rfl) ?_
      exact SafeOps.drop' 9 rfl rfl rfl K
    · skip
      refine SafeOps.quiet0 E_good (congrArg (fun b => some (!b)) hc4919) rfl rfl (v := V.sl 1 (rws (fun n => [V.int .u8 n]) a1_3899)) (.fn rfl) ?_
      refine SafeOps.quiet0 E_good (congrArg (fun b => some (!b)) hc4919) rfl rfl (v := V.int .i64 (a1_3899.length : Int)) (.fnE rfl lenE) ?_
      refine SafeOps.quiet0 E_good (congrArg (fun b => some (!b)) hc4919) rfl rfl (v := V.bool (decide ((a1_3899.length : Int) > 900))) (.fn rfl) ?_
      refine SafeOps.quiet0 E_good (congrArg (fun b => some (!b)) hc4919) rfl rfl (v := V.bool (decide ((a1_3899.length : Int) > 900))) (.fn rfl) ?_
      refine SafeOps.bjoin 4 38 (b := ((decide ((a1_3899.length : Int) > 900)) && (decide ((a1_3899.length : Int) ≤ 196608)))) (b1 := decide ((a1_3899.length : Int) ≤ 196608)) (b0 := false) (fun hc4920 K => ?_) (fun hc4920 K => ?_) bj_and ?_
      · skip
        refine SafeOps.quiet0 E_good (congrArg some hc4920) rfl rfl (v := V.sl 1 (rws (fun n => [V.int .u8 n]) a1_3899)) (.fn rfl) ?_
        refine SafeOps.quiet0 E_good (congrArg some hc4920) rfl rfl (v := V.int .i64 (a1_3899.length : Int)) (.fnE rfl lenE) ?_
        refine SafeOps.quiet0 E_good (congrArg some hc4920) rfl rfl (v := V.bool (decide ((a1_3899.length : Int) ≤ 196608))) (.fn rfl) ?_
        refine SafeOps.quiet0 E_good (congrArg (fun b => some (!b)) hc4919) rfl rfl (v := V.bool (decide ((a1_3899.length : Int) ≤ 196608))) (.pickK rfl hc4920 rfl) ?_
        exact SafeOps.drop' 4 rfl rfl rfl K
      · skip
        refine SafeOps.skip (congrArg some hc4920) rfl rfl ?_
        refine SafeOps.skip (congrArg some hc4920) rfl rfl ?_
        refine SafeOps.skip (congrArg some hc4920) rfl rfl ?_
        refine SafeOps.quiet0 E_good (congrArg (fun b => some (!b)) hc4919) rfl rfl (v := V.bool false) (.pickK rfl hc4920 rfl) ?_
        exact SafeOps.drop' 4 rfl rfl rfl K
      refine SafeOps.quiet0 E_good rfl rfl rfl (v := V.bool ((decide ((a1_3899.length : Int) > 900)) && (decide ((a1_3899.length : Int) ≤ 196608)))) (.pickK rfl hc4919 rfl) ?_
      exact SafeOps.drop' 6 rfl rfl rfl K
    refine SafeOps.nil ?_
    repeat (first | refine Safe.seq ?_ | refine Safe.skip ?_ | with_reducible refine thenQ.n ?_ | with_reducible refine blockQ.n ?_)
    refine ifG h (fun hc4921 h => ?_) (fun hc4921 h => ?_)
    · skip
      refine Safe.condK rfl hc4921 ?_
      repeat (first | refine Safe.seq ?_ | refine Safe.skip ?_ | with_reducible refine thenQ.n ?_ | with_reducible refine blockQ.n ?_)
      refine Safe.region ?_
      refine SafeOps.quiet0 E_good rfl rfl rfl (v := V.bool x_4916) (.fn rfl) ?_
      refine SafeOps.quiet0 E_good rfl rfl rfl (v := V.bool x_4916) (.fn rfl) ?_
      refine SafeOps.nil ?_
      repeat (first | refine Safe.seq ?_ | refine Safe.skip ?_ | with_reducible refine thenQ.n ?_ | with_reducible refine blockQ.n ?_)
      refine Safe.ret ?_
      repeat (first | with_reducible refine thenQ.r ?_ | with_reducible refine blockQ.r ?_)
      obtain rfl := Option.some.inj h
      exact retQ.gen (vs := [V.bool x_4916]) rfl (.tmp (v := V.bool x_4916) rfl .nil) (.free rfl) (by simp) (.inr rfl)
    · skip
      refine Safe.condN rfl hc4921 ?_
      repeat (first | refine Safe.seq ?_ | refine Safe.skip ?_ | with_reducible refine thenQ.n ?_ | with_reducible refine blockQ.n ?_)
      refine Safe.region ?_
      refine SafeOps.quiet0 E_good rfl rfl rfl (v := V.sl 3 (rws api_Entry.cells a0_3898)) (.fn rfl) ?_
      refine bindG h ?_
      rintro ⟨x_4922, x_4923⟩ he4924 h
      refine SafeOps.quiet E_good rfl rfl rfl (v := V.tup [V.ref [43, 0] 0 (rws (fun n => [V.int .u8 n]) x_4922).length, V.int .i64 x_4923]) (.callP rfl rfl (go_entry_Write_sc a0_3898 _ he4924) rfl) rfl ?_
      refine SafeOps.quiet0 E_good rfl rfl rfl (v := V.tup [V.ref [43, 0] 0 (rws (fun n => [V.int .u8 n]) x_4922).length, V.int .i64 x_4923]) (.fn rfl) ?_
      refine SafeOps.quiet0 E_good rfl rfl rfl (v := V.ref [43, 0] 0 (rws (fun n => [V.int .u8 n]) x_4922).length) (.fn rfl) ?_
      refine SafeOps.quiet0 E_good rfl rfl rfl (v := V.int .i64 x_4923) (.fn rfl) ?_
      refine SafeOps.quiet0 E_good rfl rfl rfl (v := V.ref [43, 0] 0 (rws (fun n => [V.int .u8 n]) x_4922).length) (.fn rfl) ?_
      refine SafeOps.quiet0 E_good rfl rfl rfl (v := V.int .i64 x_4923) (.fn rfl) ?_
      refine SafeOps.nil ?_
      repeat (first | refine Safe.seq ?_ | refine Safe.skip ?_ | with_reducible refine thenQ.n ?_ | with_reducible refine blockQ.n ?_)
      refine Safe.region ?_
      refine SafeOps.quiet0 E_good rfl rfl rfl (v := V.sl 3 (rws api_Entry.cells a0_3898)) (.fn rfl) ?_
      refine bindG h ?_
      rintro ⟨x_4925, x_4926⟩ he4927 h
      refine SafeOps.quiet E_good rfl rfl rfl (v := V.tup [V.ref [48, 0] 0 (rws (fun n => [V.int .u8 n]) x_4925).length, V.int .i64 x_4926]) (.callP rfl rfl (go_ravelref19_Write_sc a0_3898 _ he4927) rfl) rfl ?_
      refine SafeOps.quiet0 E_good rfl rfl rfl (v := V.tup [V.ref [48, 0] 0 (rws (fun n => [V.int .u8 n]) x_4925).length, V.int .i64 x_4926]) (.fn rfl) ?_
      refine SafeOps.quiet0 E_good rfl rfl rfl (v := V.ref [48, 0] 0 (rws (fun n => [V.int .u8 n]) x_4925).length) (.fn rfl) ?_
      refine SafeOps.quiet0 E_good rfl rfl rfl (v := V.int .i64 x_4926) (.fn rfl) ?_
      refine SafeOps.quiet0 E_good rfl rfl rfl (v := V.ref [48, 0] 0 (rws (fun n => [V.int .u8 n]) x_4925).length) (.fn rfl) ?_
      refine SafeOps.quiet0 E_good rfl rfl rfl (v := V.int .i64 x_4926) (.fn rfl) ?_
      refine SafeOps.nil ?_
      repeat (first | refine Safe.seq ?_ | refine Safe.skip ?_ | with_reducible refine thenQ.n ?_ | with_reducible refine blockQ.n ?_)
      refine Safe.region ?_
      refine SafeOps.quiet0 E_good rfl rfl rfl (v := V.sl 1 (rws (fun n => [V.int .u8 n]) a1_3899)) (.fn rfl) ?_
      refine bindG h ?_
      rintro ⟨x_4928, x_4929⟩ he4930 h
      refine SafeOps.quiet E_good rfl rfl rfl (v := V.tup [V.ref [53, 0] 0 (rws api_Entry.cells x_4928).length, V.int .i64 x_4929]) (.callP rfl rfl (go_entry_Read_sc a1_3899 _ he4930) rfl) rfl ?_
      refine SafeOps.quiet0 E_good rfl rfl rfl (v := V.tup [V.ref [53, 0] 0 (rws api_Entry.cells x_4928).length, V.int .i64 x_4929]) (.fn rfl) ?_
      refine SafeOps.quiet0 E_good rfl rfl rfl (v := V.ref [53, 0] 0 (rws api_Entry.cells x_4928).length) (.fn rfl) ?_
      refine SafeOps.quiet0 E_good rfl rfl rfl (v := V.int .i64 x_4929) (.fn rfl) ?_
      refine SafeOps.quiet0 E_good rfl rfl rfl (v := V.ref [53, 0] 0 (rws api_Entry.cells x_4928).length) (.fn rfl) ?_
      refine SafeOps.quiet0 E_good rfl rfl rfl (v := V.int .i64 x_4929) (.fn rfl) ?_
      refine SafeOps.nil ?_
      repeat (first | refine Safe.seq ?_ | refine Safe.skip ?_ | with_reducible refine thenQ.n ?_ | with_reducible refine blockQ.n ?_)
      refine Safe.region ?_
      refine SafeOps.quiet0 E_good rfl rfl rfl (v := V.sl 1 (rws (fun n => [V.int .u8 n]) a1_3899)) (.fn rfl) ?_
      refine bindG h ?_
      rintro ⟨x_4931, x_4932⟩ he4933 h
      refine SafeOps.quiet E_good rfl rfl rfl (v := V.tup [V.ref [58, 0] 0 (rws api_Entry.cells x_4931).length, V.int .i64 x_4932]) (.callP rfl rfl (go_ravelref19_Read_sc a1_3899 _ he4933) rfl) rfl ?_
      refine SafeOps.quiet0 E_good rfl rfl rfl (v := V.tup [V.ref [58, 0] 0 (rws api_Entry.cells x_4931).length, V.int .i64 x_4932]) (.fn rfl) ?_
      refine SafeOps.quiet0 E_good rfl rfl rfl (v := V.ref [58, 0] 0 (rws api_Entry.cells x_4931).length) (.fn rfl) ?_
      refine SafeOps.quiet0 E_good rfl rfl rfl (v := V.int .i64 x_4932) (.fn rfl) ?_
      refine SafeOps.quiet0 E_good rfl rfl rfl (v := V.ref [58, 0] 0 (rws api_Entry.cells x_4931).length) (.fn rfl) ?_
      refine SafeOps.quiet0 E_good rfl rfl rfl (v := V.int .i64 x_4932) (.fn rfl) ?_
      refine SafeOps.nil ?_
      repeat (first | refine Safe.seq ?_ | refine Safe.skip ?_ | with_reducible refine thenQ.n ?_ | with_reducible refine blockQ.n ?_)
      refine Safe.region ?_
      refine SafeOps.quiet0 E_good rfl rfl rfl (v := V.sl 3 (rws api_Entry.cells a0_3898)) (.fn rfl) ?_
      refine SafeOps.quiet0 E_good rfl rfl rfl (v := V.int .i64 a3_3901) (.fn rfl) ?_
      refine SafeOps.quiet0 E_good rfl rfl rfl (v := V.int .i64 a4_3902) (.fn rfl) ?_
      refine bindG h ?_
      rintro ⟨x_4934, x_4935⟩ he4936 h
      refine SafeOps.quiet0 E_good rfl rfl rfl (v := V.tup [V.bool x_4934, V.int .i64 x_4935]) (.callP rfl rfl (go_entry_Fair_sc a0_3898 a3_3901 a4_3902 _ he4936) rfl) ?_
      refine SafeOps.quiet0 E_good rfl rfl rfl (v := V.tup [V.bool x_4934, V.int .i64 x_4935]) (.fn rfl) ?_
      refine SafeOps.quiet0 E_good rfl rfl rfl (v := V.bool x_4934) (.fn rfl) ?_
      refine SafeOps.quiet0 E_good rfl rfl rfl (v := V.int .i64 x_4935) (.fn rfl) ?_
      refine SafeOps.quiet0 E_good rfl rfl rfl (v := V.bool x_4934) (.fn rfl) ?_
      refine SafeOps.quiet0 E_good rfl rfl rfl (v := V.int .i64 x_4935) (.fn rfl) ?_
      refine SafeOps.nil ?_
      repeat (first | refine Safe.seq ?_ | refine Safe.skip ?_ | with_reducible refine thenQ.n ?_ | with_reducible refine blockQ.n ?_)
      refine Safe.region ?_
      refine SafeOps.quiet0 E_good rfl rfl rfl (v := V.sl 3 (rws api_Entry.cells a0_3898)) (.fn rfl) ?_
      refine SafeOps.quiet0 E_good rfl rfl rfl (v := V.int .i64 a3_3901) (.fn rfl) ?_
      refine SafeOps.quiet0 E_good rfl rfl rfl (v := V.int .i64 a4_3902) (.fn rfl) ?_
      refine bindG h ?_
      rintro ⟨x_4937, x_4938⟩ he4939 h
      refine SafeOps.quiet0 E_good rfl rfl rfl (v := V.tup [V.bool x_4937, V.int .i64 x_4938]) (.callP rfl rfl (go_ravelref19_Fair_sc a0_3898 a3_3901 a4_3902 _ he4939) rfl) ?_
      refine SafeOps.quiet0 E_good rfl rfl rfl (v := V.tup [V.bool x_4937, V.int .i64 x_4938]) (.fn rfl) ?_
      refine SafeOps.quiet0 E_good rfl rfl rfl (v := V.bool x_4937) (.fn rfl) ?_
      refine SafeOps.quiet0 E_good rfl rfl rfl (v := V.int .i64 x_4938) (.fn rfl) ?_
      refine SafeOps.quiet0 E_good rfl rfl rfl (v := V.bool x_4937) (.fn rfl) ?_
      refine SafeOps.quiet0 E_good rfl rfl rfl (v := V.int .i64 x_4938) (.fn rfl) ?_
      refine SafeOps.nil ?_
      repeat (first | refine Safe.seq ?_ | refine Safe.skip ?_ | with_reducible refine thenQ.n ?_ | with_reducible refine blockQ.n ?_)
      refine Safe.region ?_
      refine SafeOps.quiet0 E_good rfl rfl rfl (v := V.bool x_4916) (.fn rfl) ?_
      refine SafeOps.quiet0 E_good rfl rfl rfl (v := V.bool x_4916) (.fn rfl) ?_
      refine SafeOps.bjoin 6 82 (b := (x_4916 && ((strOfNums x_4922).toList == (strOfNums x_4925).toList))) (b1 := ((strOfNums x_4922).toList == (strOfNums x_4925).toList)) (b0 := false) (fun hc4940 K => ?_) (fun hc4940 K => ?_) bj_and ?_
      · skip
        refine SafeOps.quiet0 E_good (congrArg some hc4940) rfl rfl (v := V.ref [43, 0] 0 (rws (fun n => [V.int .u8 n]) x_4922).length) (.fn rfl) ?_
        refine SafeOps.quiet0 E_good (congrArg some hc4940) rfl rfl (v := V.str (strOfNums x_4922)) (.convB (ns := x_4922) rfl rfl rfl rfl (.full rfl rfl)) ?_
        refine SafeOps.quiet0 E_good (congrArg some hc4940) rfl rfl (v := V.ref [48, 0] 0 (rws (fun n => [V.int .u8 n]) x_4925).length) (.fn rfl) ?_
        refine SafeOps.quiet0 E_good (congrArg some hc4940) rfl rfl (v := V.str (strOfNums x_4925)) (.convB (ns := x_4925) rfl rfl rfl rfl (.full rfl rfl)) ?_
        refine SafeOps.quiet0 E_good (congrArg some hc4940) rfl rfl (v := V.bool ((strOfNums x_4922).toList == (strOfNums x_4925).toList)) (.fn rfl) ?_
        refine SafeOps.quiet0 E_good rfl rfl rfl (v := V.bool ((strOfNums x_4922).toList == (strOfNums x_4925).toList)) (.pickK rfl hc4940 rfl) ?_
        exact SafeOps.drop' 6 rfl rfl rfl K
      · skip
        refine SafeOps.skip (congrArg some hc4940) rfl rfl ?_
        refine SafeOps.skip (congrArg some hc4940) rfl rfl ?_
        refine SafeOps.skip (congrArg some hc4940) rfl rfl ?_
        refine SafeOps.skip (congrArg some hc4940) rfl rfl ?_
        refine SafeOps.skip (congrArg some hc4940) rfl rfl ?_
        refine SafeOps.quiet0 E_good rfl rfl rfl (v := V.bool false) (.pickK rfl hc4940 rfl) ?_
        exact SafeOps.drop' 6 rfl rfl rfl K
      refine SafeOps.quiet0 E_good rfl rfl rfl (v := V.bool (x_4916 && ((strOfNums x_4922).toList == (strOfNums x_4925).toList))) (.fn rfl) ?_
      refine SafeOps.bjoin 4 87 (b := ((x_4916 && ((strOfNums x_4922).toList == (strOfNums x_4925).toList)) && (x_4923 == x_4926))) (b1 := (x_4923 == x_4926)) (b0 := false) (fun hc4941 K => ?_) (fun hc4941 K => ?_) bj_and ?_
      · skip
        refine SafeOps.quiet0 E_good (congrArg some hc4941) rfl rfl (v := V.int .i64 x_4923) (.fn rfl) ?_
        refine SafeOps.quiet0 E_good (congrArg some hc4941) rfl rfl (v := V.int .i64 x_4926) (.fn rfl) ?_
        refine SafeOps.quiet0 E_good (congrArg some hc4941) rfl rfl (v := V.bool (x_4923 == x_4926)) (.fn rfl) ?_
        refine SafeOps.quiet0 E_good rfl rfl rfl (v := V.bool (x_4923 == x_4926)) (.pickK rfl hc4941 rfl) ?_
        exact SafeOps.drop' 4 rfl rfl rfl K
      · skip
        refine SafeOps.skip (congrArg some hc4941) rfl rfl ?_
        refine SafeOps.skip (congrArg some hc4941) rfl rfl ?_
        refine SafeOps.skip (congrArg some hc4941) rfl rfl ?_
        refine SafeOps.quiet0 E_good rfl rfl rfl (v := V.bool false) (.pickK rfl hc4941 rfl) ?_
        exact SafeOps.drop' 4 rfl rfl rfl K
      refine SafeOps.quiet0 E_good rfl rfl rfl (v := V.bool ((x_4916 && ((strOfNums x_4922).toList == (strOfNums x_4925).toList)) && (x_4923 == x_4926))) (.fn rfl) ?_
      refine SafeOps.bsplit 4 92 (fun b_4945 => go_ravellaw19_EntryTexts_j1 a0_3898 a2_3900 x_4929 x_4932 x_4934 x_4935 x_4937 x_4938 b_4945 = some r) (fun HJ4946 => ?_) (fun b_4945 h => ?_)
      · refine ifG h (fun hc4942 h => ?_) (fun hc4942 h => ?_)
        · skip
          refine SafeOps.quiet0 E_good (congrArg some hc4942) rfl rfl (v := V.ref [53, 0] 0 (rws api_Entry.cells x_4928).length) (.fn rfl) ?_
          refine SafeOps.quiet0 E_good (congrArg some hc4942) rfl rfl (v := V.ref [58, 0] 0 (rws api_Entry.cells x_4931).length) (.fn rfl) ?_
          refine bindG h ?_
          intro x_4974 he4975 h
          refine SafeOps.quiet0 E_good (congrArg some hc4942) rfl rfl (v := V.bool x_4974) (.callS rfl (.cons (.full rfl rfl) (.cons (.full rfl rfl) .nil)) (go_ravelref19_SameList_sc x_4928 x_4931 _ he4975) (.plain rfl) rfl) ?_
          refine SafeOps.quiet0 E_good rfl rfl rfl (v := V.bool x_4974) (.pickK rfl hc4942 rfl) ?_
          exact SafeOps.drop' 4 rfl rfl rfl (HJ4946 _ h)
        · skip
          refine SafeOps.skip (congrArg some hc4942) rfl rfl ?_
          refine SafeOps.skip (congrArg some hc4942) rfl rfl ?_
          refine SafeOps.skip (congrArg some hc4942) rfl rfl ?_
          refine SafeOps.quiet0 E_good rfl rfl rfl (v := V.bool false) (.pickK rfl hc4942 rfl) ?_
          exact SafeOps.drop' 4 rfl rfl rfl (HJ4946 _ h)
      · replace h : go_ravellaw19_EntryTexts_j1 a0_3898 a2_3900 x_4929 x_4932 x_4934 x_4935 x_4937 x_4938 b_4945 = some r := h
        rw [go_ravellaw19_EntryTexts_j1] at h
        refine SafeOps.quiet0 E_good rfl rfl rfl (v := V.bool b_4945) (.fn rfl) ?_
        refine SafeOps.bjoin 4 97 (b := (b_4945 && (x_4929 == x_4932))) (b1 := (x_4929 == x_4932)) (b0 := false) (fun hc4947 K => ?_) (fun hc4947 K => ?_) bj_and ?_
        · skip
          refine SafeOps.quiet0 E_good (congrArg some hc4947) rfl rfl (v := V.int .i64 x_4929) (.fn rfl) ?_
          refine SafeOps.quiet0 E_good (congrArg some hc4947) rfl rfl (v := V.int .i64 x_4932) (.fn rfl) ?_
          refine SafeOps.quiet0 E_good (congrArg some hc4947) rfl rfl (v := V.bool (x_4929 == x_4932)) (.fn rfl) ?_
          refine SafeOps.quiet0 E_good rfl rfl rfl (v := V.bool (x_4929 == x_4932)) (.pickK rfl hc4947 rfl) ?_
          exact SafeOps.drop' 4 rfl rfl rfl K
        · skip
          refine SafeOps.skip (congrArg some hc4947) rfl rfl ?_
          refine SafeOps.skip (congrArg some hc4947) rfl rfl ?_
          refine SafeOps.skip (congrArg some hc4947) rfl rfl ?_
          refine SafeOps.quiet0 E_good rfl rfl rfl (v := V.bool false) (.pickK rfl hc4947 rfl) ?_
          exact SafeOps.drop' 4 rfl rfl rfl K
        refine SafeOps.quiet0 E_good rfl rfl rfl (v := V.bool (b_4945 && (x_4929 == x_4932))) (.fn rfl) ?_
        refine SafeOps.bjoin 4 102 (b := ((b_4945 && (x_4929 == x_4932)) && (x_4934 == x_4937))) (b1 := (x_4934 == x_4937)) (b0 := false) (fun hc4948 K => ?_) (fun hc4948 K => ?_) bj_and ?_
        · skip
          refine SafeOps.quiet0 E_good (congrArg some hc4948) rfl rfl (v := V.bool x_4934) (.fn rfl) ?_
          refine SafeOps.quiet0 E_good (congrArg some hc4948) rfl rfl (v := V.bool x_4937) (.fn rfl) ?_
          refine SafeOps.quiet0 E_good (congrArg some hc4948) rfl rfl (v := V.bool (x_4934 == x_4937)) (.fn rfl) ?_
          refine SafeOps.quiet0 E_good rfl rfl rfl (v := V.bool (x_4934 == x_4937)) (.pickK rfl hc4948 rfl) ?_
          exact SafeOps.drop' 4 rfl rfl rfl K
        · skip
          refine SafeOps.skip (congrArg some hc4948) rfl rfl ?_
          refine SafeOps.skip (congrArg some hc4948) rfl rfl ?_
          refine SafeOps.skip (congrArg some hc4948) rfl rfl ?_
          refine SafeOps.quiet0 E_good rfl rfl rfl (v := V.bool false) (.pickK rfl hc4948 rfl) ?_
          exact SafeOps.drop' 4 rfl rfl rfl K
        refine SafeOps.quiet0 E_good rfl rfl rfl (v := V.bool ((b_4945 && (x_4929 == x_4932)) && (x_4934 == x_4937))) (.fn rfl) ?_
        refine SafeOps.bjoin 4 107 (b := (((b_4945 && (x_4929 == x_4932)) && (x_4934 == x_4937)) && (x_4935 == x_4938))) (b1 := (x_4935 == x_4938)) (b0 := false) (fun hc4949 K => ?_) (fun hc4949 K => ?_) bj_and ?_
        · skip
          refine SafeOps.quiet0 E_good (congrArg some hc4949) rfl rfl (v := V.int .i64 x_4935) (.fn rfl) ?_
          refine SafeOps.quiet0 E_good (congrArg some hc4949) rfl rfl (v := V.int .i64 x_4938) (.fn rfl) ?_
          refine SafeOps.quiet0 E_good (congrArg some hc4949) rfl rfl (v := V.bool (x_4935 == x_4938)) (.fn rfl) ?_
          refine SafeOps.quiet0 E_good rfl rfl rfl (v := V.bool (x_4935 == x_4938)) (.pickK rfl hc4949 rfl) ?_
          exact SafeOps.drop' 4 rfl rfl rfl K
        · skip
          refine SafeOps.skip (congrArg some hc4949) rfl rfl ?_
          refine SafeOps.skip (congrArg some hc4949) rfl rfl ?_
          refine SafeOps.skip (congrArg some hc4949) rfl rfl ?_
          refine SafeOps.quiet0 E_good rfl rfl rfl (v := V.bool false) (.pickK rfl hc4949 rfl) ?_
          exact SafeOps.drop' 4 rfl rfl rfl K
        refine SafeOps.quiet0 E_good rfl rfl rfl (v := V.bool (((b_4945 && (x_4929 == x_4932)) && (x_4934 == x_4937)) && (x_4935 == x_4938))) (.fn rfl) ?_
        refine SafeOps.bsplit 8 116 (fun b_4957 => go_ravellaw19_EntryTexts_j2 a0_3898 b_4957 = some r) (fun HJ4958 => ?_) (fun b_4957 h => ?_)
        · refine ifG h (fun hc4950 h => ?_) (fun hc4950 h => ?_)
          · skip
            refine SafeOps.quiet0 E_good (congrArg some hc4950) rfl rfl (v := V.sl 3 (rws api_Entry.cells a0_3898)) (.fn rfl) ?_
            refine SafeOps.quiet0 E_good (congrArg some hc4950) rfl rfl (v := V.int .i64 a2_3900) (.fn rfl) ?_
            refine bindG h ?_
            intro x_4968 he4969 h
            refine SafeOps.quiet E_good (congrArg some hc4950) rfl rfl (v := V.ref [111, 0] 0 (rws api_Entry.cells x_4968).length) (.callP rfl rfl (go_entry_Only_sc a0_3898 a2_3900 _ he4969) rfl) rfl ?_
            refine SafeOps.quiet0 E_good (congrArg some hc4950) rfl rfl (v := V.sl 3 (rws api_Entry.cells a0_3898)) (.fn rfl) ?_
            refine SafeOps.quiet0 E_good (congrArg some hc4950) rfl rfl (v := V.int .i64 a2_3900) (.fn rfl) ?_
            refine bindG h ?_
            intro x_4970 he4971 h
            refine SafeOps.quiet E_good (congrArg some hc4950) rfl rfl (v := V.ref [114, 0] 0 (rws api_Entry.cells x_4970).length) (.callP rfl rfl (go_ravelref19_Only_sc a0_3898 a2_3900 _ he4971) rfl) rfl ?_
            refine bindG h ?_
            intro x_4972 he4973 h
            refine SafeOps.quiet0 E_good (congrArg some hc4950) rfl rfl (v := V.bool x_4972) (.callS rfl (.cons (.full rfl rfl) (.cons (.full rfl rfl) .nil)) (go_ravelref19_SameList_sc x_4968 x_4970 _ he4973) (.plain rfl) rfl) ?_
            refine SafeOps.quiet0 E_good rfl rfl rfl (v := V.bool x_4972) (.pickK rfl hc4950 rfl) ?_
            exact SafeOps.dropO 8 2 rfl rfl rfl rfl rfl rfl (HJ4958 _ h)
          · skip
            refine SafeOps.skip (congrArg some hc4950) rfl rfl ?_
            refine SafeOps.skip (congrArg some hc4950) rfl rfl ?_
            refine SafeOps.skip (congrArg some hc4950) rfl rfl ?_
            refine SafeOps.skip (congrArg some hc4950) rfl rfl ?_
            refine SafeOps.skip (congrArg some hc4950) rfl rfl ?_
            refine SafeOps.skip (congrArg some hc4950) rfl rfl ?_
            refine SafeOps.skip (congrArg some hc4950) rfl rfl ?_
            refine SafeOps.quiet0 E_good rfl rfl rfl (v := V.bool false) (.pickK rfl hc4950 rfl) ?_
            exact SafeOps.drop' 8 rfl rfl rfl (HJ4958 _ h)
        · replace h : go_ravellaw19_EntryTexts_j2 a0_3898 b_4957 = some r := h
          rw [go_ravellaw19_EntryTexts_j2] at h
          refine SafeOps.quiet0 E_good rfl rfl rfl (v := V.bool b_4957) (.fn rfl) ?_
          refine ifG h (fun hc4959 h => ?_) (fun hc4959 h => ?_)
          · skip
            refine SafeOps.quiet0 E_good (congrArg some hc4959) rfl rfl (v := V.sl 3 (rws api_Entry.cells a0_3898)) (.fn rfl) ?_
            refine bindG h ?_
            intro x_4964 he4965 h
            refine SafeOps.quiet0 E_good (congrArg some hc4959) rfl rfl (v := V.int .i64 x_4964) (.callP rfl rfl (go_entry_Check_sc a0_3898 _ he4965) rfl) ?_
            refine SafeOps.quiet0 E_good (congrArg some hc4959) rfl rfl (v := V.sl 3 (rws api_Entry.cells a0_3898)) (.fn rfl) ?_
            refine bindG h ?_
            intro x_4966 he4967 h
            refine SafeOps.quiet0 E_good (congrArg some hc4959) rfl rfl (v := V.int .i64 x_4966) (.callP rfl rfl (go_ravelref19_Check_sc a0_3898 _ he4967) rfl) ?_
            refine SafeOps.quiet0 E_good (congrArg some hc4959) rfl rfl (v := V.bool (x_4964 == x_4966)) (.fn rfl) ?_
            refine SafeOps.quiet0 E_good rfl rfl rfl (v := V.bool (x_4964 == x_4966)) (.pickK rfl hc4959 rfl) ?_
            refine SafeOps.quiet0 E_good rfl rfl rfl (v := V.bool (x_4964 == x_4966)) (.fn rfl) ?_
            refine SafeOps.nil ?_
            repeat (first | refine Safe.seq ?_ | refine Safe.skip ?_ | with_reducible refine thenQ.n ?_ | with_reducible refine blockQ.n ?_)
            refine Safe.ret ?_
            repeat (first | with_reducible refine thenQ.r ?_ | with_reducible refine blockQ.r ?_)
            obtain rfl := Option.some.inj h
            exact retQ.gen (vs := [V.bool (x_4964 == x_4966)]) rfl (.tmp (v := V.bool (x_4964 == x_4966)) rfl .nil) (.free rfl) (by simp) (.inr rfl)
          · skip
            refine SafeOps.skip (congrArg some hc4959) rfl rfl ?_
            refine SafeOps.skip (congrArg some hc4959) rfl rfl ?_
            refine SafeOps.skip (congrArg some hc4959) rfl rfl ?_
            refine SafeOps.skip (congrArg some hc4959) rfl rfl ?_
            refine SafeOps.skip (congrArg some hc4959) rfl rfl ?_
            refine SafeOps.quiet0 E_good rfl rfl rfl (v := V.bool false) (.pickK rfl hc4959 rfl) ?_
            refine SafeOps.quiet0 E_good rfl rfl rfl (v := V.bool false) (.fn rfl) ?_
            refine SafeOps.nil ?_
            repeat (first | refine Safe.seq ?_ | refine Safe.skip ?_ | with_reducible refine thenQ.n ?_ | with_reducible refine blockQ.n ?_)
            refine Safe.ret ?_
            repeat (first | with_reducible refine thenQ.r ?_ | with_reducible refine blockQ.r ?_)
            obtain rfl := Option.some.inj h
            exact retQ.gen (vs := [V.bool false]) rfl (.tmp (v := V.bool false) rfl .nil) (.free rfl) (by simp) (.inr rfl)

end Go.Proofs.Ythhpnmfcmgdghaa
