/- Helper lemmas for the claim's theorem: an abstract machine over the model, proved sound; no condition beyond each lemma's own. -/
import Derived.Test.YthhpnmfcmgdghaaT3
set_option linter.unusedVariables false
set_option linter.unusedSimpArgs false
set_option linter.unnecessarySimpa false
set_option linter.unusedSectionVars false
namespace Go.Proofs.Ythhpnmfcmgdghaa
open Go Go.AM
set_option maxRecDepth 100000
set_option maxHeartbeats 1000000
set_option linter.unusedVariables false
set_option linter.unusedSimpArgs false
variable {gl : List (Nat × List V)}
noncomputable def go_ravellaw19_EntryBack_j2 (a0_4976 : List api_Entry) (x_5053 : List Int) (b_5074 : Bool) : Option Bool :=
  some (b_5074 && ((x_5053.length : Int) == (IntKind.i64.wrap (3 * (a0_4976.length : Int)))))

noncomputable def go_ravellaw19_EntryBack_j1 (a0_4976 : List api_Entry) (x_5034 : Bool) : Option Bool :=
  (go_entry_Write a0_4976).bind fun (x_5053, x_5054) =>
  if (x_5054 != 0) = true then
    if x_5034 = true then
      (go_entry_Check a0_4976).bind fun x_5065 =>
      some (x_5065 == x_5054)
    else
      some false
  else
    (go_entry_Read x_5053).bind fun (x_5067, x_5068) =>
    if (x_5034 && (x_5068 == 0)) = true then
      (go_ravelref19_SameList x_5067 a0_4976).bind fun x_5077 =>
      go_ravellaw19_EntryBack_j2 a0_4976 x_5053 x_5077
    else
      go_ravellaw19_EntryBack_j2 a0_4976 x_5053 false

noncomputable def go_ravellaw19_EntryBack (a0_4976 : List api_Entry) (a1_4977 : List Int) : Option Bool :=
  (go_ravellaw19_live).bind fun x_5034 =>
  if (!x_5034) = true then
    some false
  else
    if ((decide ((a0_4976.length : Int) > 1000)) || (decide ((a1_4977.length : Int) > 3000))) = true then
      some x_5034
    else
      (go_entry_Read a1_4977).bind fun (x_5039, x_5040) =>
      if (x_5040 == 0) = true then
        (go_entry_Write x_5039).bind fun (x_5080, x_5081) =>
        if ((x_5081 != 0) || (!((strOfNums x_5080).toList == (strOfNums a1_4977).toList))) = true then
          some false
        else
          (go_entry_Check x_5039).bind fun x_5087 =>
          if (x_5087 != 0) = true then
            some false
          else
            go_ravellaw19_EntryBack_j1 a0_4976 x_5034
      else
        go_ravellaw19_EntryBack_j1 a0_4976 x_5034

theorem go_ravellaw19_EntryBack_sc (a0_4976 : List api_Entry) (a1_4977 : List Int) (r : Bool) (h : go_ravellaw19_EntryBack a0_4976 a1_4977 = some r) : SC Try.prog gl 6 [V.sl 3 (rws api_Entry.cells a0_4976), V.sl 1 (rws (fun n => [V.int .u8 n]) a1_4977)] (V.bool r) := by
  rw [go_ravellaw19_EntryBack] at h
  refine SC.of E_good Try.func6 rfl (fun _ _ => Try.call6 _ _) rfl ?_
  repeat (first | refine Safe.seq ?_ | refine Safe.skip ?_ | with_reducible refine thenQ.n ?_ | with_reducible refine blockQ.n ?_)
  refine Safe.region ?_
  refine SafeOps.quiet0 E_good rfl rfl rfl (v := V.bool false) (.fn rfl) ?_
  refine SafeOps.nil ?_
  repeat (first | refine Safe.seq ?_ | refine Safe.skip ?_ | with_reducible refine thenQ.n ?_ | with_reducible refine blockQ.n ?_)
  refine Safe.region ?_
  refine bindG h ?_
  intro x_5034 he5035 h
  refine SafeOps.quiet0 E_good rfl rfl rfl (v := V.bool x_5034) (.callP rfl rfl (go_ravellaw19_live_sc  _ he5035) rfl) ?_
  refine SafeOps.quiet0 E_good rfl rfl rfl (v := V.bool x_5034) (.fn rfl) ?_
  refine SafeOps.nil ?_
  repeat (first | refine Safe.seq ?_ | refine Safe.skip ?_ | with_reducible refine thenQ.n ?_ | with_reducible refine blockQ.n ?_)
  refine Safe.region ?_
  refine SafeOps.quiet0 E_good rfl rfl rfl (v := V.bool x_5034) (.fn rfl) ?_
  refine SafeOps.quiet0 E_good rfl rfl rfl (v := V.bool (!x_5034)) (.fn rfl) ?_
  refine SafeOps.nil ?_
  repeat (first | refine Safe.seq ?_ | refine Safe.skip ?_ | with_reducible refine thenQ.n ?_ | with_reducible refine blockQ.n ?_)
  refine ifG h (fun hc5036 h => ?_) (fun hc5036 h => ?_)
  · skip
    refine Safe.condK rfl hc5036 ?_
    repeat (first | refine Safe.seq ?_ | refine Safe.skip ?_ | with_reducible refine thenQ.n ?_ | with_reducible refine blockQ.n ?_)
    refine Safe.region ?_
    refine SafeOps.quiet0 E_good rfl rfl rfl (v := V.bool false) (.fn rfl) ?_
    refine SafeOps.nil ?_
    repeat (first | refine Safe.seq ?_ | refine Safe.skip ?_ | with_reducible refine thenQ.n ?_ | with_reducible refine blockQ.n ?_)
    refine Safe.ret ?_
    repeat (first | with_reducible refine thenQ.r ?_ | with_reducible refine blockQ.r ?_)
    obtain rfl := Option.some.inj h
    exact retQ.gen (vs := [V.bool false]) rfl (.tmp (v := V.bool false) rfl .nil) (.free rfl) (by simp) (.inr rfl)
  · skip
    refine Safe.condN rfl hc5036 ?_
    repeat (first | refine Safe.seq ?_ | refine Safe.skip ?_ | with_reducible refine thenQ.n ?_ | with_reducible refine blockQ.n ?_)
    refine Safe.region ?_
    refine SafeOps.quiet0 E_good rfl rfl rfl (v := V.sl 3 (rws api_Entry.cells a0_4976)) (.fn rfl) ?_
    refine SafeOps.quiet0 E_good rfl rfl rfl (v := V.int .i64 (a0_4976.length : Int)) (.fnE rfl lenE) ?_
    refine SafeOps.quiet0 E_good rfl rfl rfl (v := V.bool (decide ((a0_4976.length : Int) > 1000))) (.fn rfl) ?_
    refine SafeOps.quiet0 E_good rfl rfl rfl (v := V.bool (decide ((a0_4976.length : Int) > 1000))) (.fn rfl) ?_
    refine SafeOps.bjoin 4 24 (b := ((decide ((a0_4976.length : Int) > 1000)) || (decide ((a1_4977.length : Int) > 3000)))) (b1 := true) (b0 := decide ((a1_4977.length : Int) > 3000)) (fun hc5037 K => ?_) (fun hc5037 K => ?_) bj_or ?_
    · skip
      refine SafeOps.skip (congrArg (fun b => some (!b)) hc5037) rfl rfl ?_
      refine SafeOps.skip (congrArg (fun b => some (!b)) hc5037) rfl rfl ?_
      refine SafeOps.skip (congrArg (fun b => some (!b)) hc5037) rfl rfl ?_
      refine SafeOps.quiet0 E_good rfl rfl rfl (v := V.bool true) (.pickK rfl hc5037 rfl) ?_
      exact SafeOps.drop' 4 rfl rfl rfl K
    · skip
      refine SafeOps.quiet0 E_good (congrArg (fun b => some (!b)) hc5037) rfl rfl (v := V.sl 1 (rws (fun n => [V.int .u8 n]) a1_4977)) (.fn rfl) ?_
      refine SafeOps.quiet0 E_good (congrArg (fun b => some (!b)) hc5037) rfl rfl (v := V.int .i64 (a1_4977.length : Int)) (.fnE rfl lenE) ?_
      refine SafeOps.quiet0 E_good (congrArg (fun b => some (!b)) hc5037) rfl rfl (v := V.bool (decide ((a1_4977.length : Int) > 3000))) (.fn rfl) ?_
      refine SafeOps.quiet0 E_good rfl rfl rfl (v := V.bool (decide ((a1_4977.length : Int) > 3000))) (.pickK rfl hc5037 rfl) ?_
      exact SafeOps.drop' 4 rfl rfl rfl K
    refine SafeOps.nil ?_
    repeat (first | refine Safe.seq ?_ | refine Safe.skip ?_ | with_reducible refine thenQ.n ?_ | with_reducible refine blockQ.n ?_)
    refine ifG h (fun hc5038 h => ?_) (fun hc5038 h => ?_)
    · skip
      refine Safe.condK rfl hc5038 ?_
      repeat (first | refine Safe.seq ?_ | refine Safe.skip ?_ | with_reducible refine thenQ.n ?_ | with_reducible refine blockQ.n ?_)
      refine Safe.region ?_
      refine SafeOps.quiet0 E_good rfl rfl rfl (v := V.bool x_5034) (.fn rfl) ?_
      refine SafeOps.quiet0 E_good rfl rfl rfl (v := V.bool x_5034) (.fn rfl) ?_
      refine SafeOps.nil ?_
      repeat (first | refine Safe.seq ?_ | refine Safe.skip ?_ | with_reducible refine thenQ.n ?_ | with_reducible refine blockQ.n ?_)
      refine Safe.ret ?_
      repeat (first | with_reducible refine thenQ.r ?_ | with_reducible refine blockQ.r ?_)
      obtain rfl := Option.some.inj h
      exact retQ.gen (vs := [V.bool x_5034]) rfl (.tmp (v := V.bool x_5034) rfl .nil) (.free rfl) (by simp) (.inr rfl)
    · skip
      refine Safe.condN rfl hc5038 ?_
      repeat (first | refine Safe.seq ?_ | refine Safe.skip ?_ | with_reducible refine thenQ.n ?_ | with_reducible refine blockQ.n ?_)
      refine Safe.region ?_
      refine SafeOps.quiet0 E_good rfl rfl rfl (v := V.sl 1 (rws (fun n => [V.int .u8 n]) a1_4977)) (.fn rfl) ?_
      refine bindG h ?_
      rintro ⟨x_5039, x_5040⟩ he5041 h
      refine SafeOps.quiet E_good rfl rfl rfl (v := V.tup [V.ref [28, 0] 0 (rws api_Entry.cells x_5039).length, V.int .i64 x_5040]) (.callP rfl rfl (go_entry_Read_sc a1_4977 _ he5041) rfl) rfl ?_
      refine SafeOps.quiet0 E_good rfl rfl rfl (v := V.tup [V.ref [28, 0] 0 (rws api_Entry.cells x_5039).length, V.int .i64 x_5040]) (.fn rfl) ?_
      refine SafeOps.quiet0 E_good rfl rfl rfl (v := V.ref [28, 0] 0 (rws api_Entry.cells x_5039).length) (.fn rfl) ?_
      refine SafeOps.quiet0 E_good rfl rfl rfl (v := V.int .i64 x_5040) (.fn rfl) ?_
      refine SafeOps.quiet0 E_good rfl rfl rfl (v := V.ref [28, 0] 0 (rws api_Entry.cells x_5039).length) (.fn rfl) ?_
      refine SafeOps.quiet0 E_good rfl rfl rfl (v := V.int .i64 x_5040) (.fn rfl) ?_
      refine SafeOps.nil ?_
      repeat (first | refine Safe.seq ?_ | refine Safe.skip ?_ | with_reducible refine thenQ.n ?_ | with_reducible refine blockQ.n ?_)
      refine Safe.region ?_
      refine SafeOps.quiet0 E_good rfl rfl rfl (v := V.int .i64 x_5040) (.fn rfl) ?_
      refine SafeOps.quiet0 E_good rfl rfl rfl (v := V.bool (x_5040 == 0)) (.fn rfl) ?_
      refine SafeOps.nil ?_
      repeat (first | refine Safe.seq ?_ | refine Safe.skip ?_ | with_reducible refine thenQ.n ?_ | with_reducible refine blockQ.n ?_)
      refine Safe.joinT (fun (_ : Unit) => go_ravellaw19_EntryBack_j1 a0_4976 x_5034 = some r) (fun (_ : Unit) => ⟨Try.f6.ntmps, [(0, V.sl 3 (rws api_Entry.cells a0_4976)), (5, V.bool x_5034)], [], [], []⟩) ?_ (fun HJ5052 => ?_)
      · intro _ h
        replace h : go_ravellaw19_EntryBack_j1 a0_4976 x_5034 = some r := h
        rw [go_ravellaw19_EntryBack_j1] at h
        repeat (first | refine Safe.seq ?_ | refine Safe.skip ?_ | with_reducible refine thenQ.n ?_ | with_reducible refine blockQ.n ?_)
        refine Safe.region ?_
        refine SafeOps.quiet0 E_good rfl rfl rfl (v := V.sl 3 (rws api_Entry.cells a0_4976)) (.fn rfl) ?_
        refine bindG h ?_
        rintro ⟨x_5053, x_5054⟩ he5055 h
        refine SafeOps.quiet E_good rfl rfl rfl (v := V.tup [V.ref [54, 0] 0 (rws (fun n => [V.int .u8 n]) x_5053).length, V.int .i64 x_5054]) (.callP rfl rfl (go_entry_Write_sc a0_4976 _ he5055) rfl) rfl ?_
        refine SafeOps.quiet0 E_good rfl rfl rfl (v := V.tup [V.ref [54, 0] 0 (rws (fun n => [V.int .u8 n]) x_5053).length, V.int .i64 x_5054]) (.fn rfl) ?_
        refine SafeOps.quiet0 E_good rfl rfl rfl (v := V.ref [54, 0] 0 (rws (fun n => [V.int .u8 n]) x_5053).length) (.fn rfl) ?_
        refine SafeOps.quiet0 E_good rfl rfl rfl (v := V.int .i64 x_5054) (.fn rfl) ?_
        refine SafeOps.quiet0 E_good rfl rfl rfl (v := V.ref [54, 0] 0 (rws (fun n => [V.int .u8 n]) x_5053).length) (.fn rfl) ?_
        refine SafeOps.quiet0 E_good rfl rfl rfl (v := V.int .i64 x_5054) (.fn rfl) ?_
        refine SafeOps.nil ?_
        repeat (first | refine Safe.seq ?_ | refine Safe.skip ?_ | with_reducible refine thenQ.n ?_ | with_reducible refine blockQ.n ?_)
        refine Safe.region ?_
        refine SafeOps.quiet0 E_good rfl rfl rfl (v := V.int .i64 x_5054) (.fn rfl) ?_
        refine SafeOps.quiet0 E_good rfl rfl rfl (v := V.bool (x_5054 != 0)) (.fn rfl) ?_
        refine SafeOps.nil ?_
        repeat (first | refine Safe.seq ?_ | refine Safe.skip ?_ | with_reducible refine thenQ.n ?_ | with_reducible refine blockQ.n ?_)
        refine ifG h (fun hc5061 h => ?_) (fun hc5061 h => ?_)
        · skip
          refine Safe.condK rfl hc5061 ?_
          repeat (first | refine Safe.seq ?_ | refine Safe.skip ?_ | with_reducible refine thenQ.n ?_ | with_reducible refine blockQ.n ?_)
          refine Safe.region ?_
          refine SafeOps.quiet0 E_good rfl rfl rfl (v := V.bool x_5034) (.fn rfl) ?_
          refine SafeOps.quiet0 E_good rfl rfl rfl (v := V.bool x_5034) (.fn rfl) ?_
          refine ifG h (fun hc5062 h => ?_) (fun hc5062 h => ?_)
          · skip
            refine SafeOps.quiet0 E_good (congrArg some hc5062) rfl rfl (v := V.sl 3 (rws api_Entry.cells a0_4976)) (.fn rfl) ?_
            refine bindG h ?_
            intro x_5065 he5066 h
            refine SafeOps.quiet0 E_good (congrArg some hc5062) rfl rfl (v := V.int .i64 x_5065) (.callP rfl rfl (go_entry_Check_sc a0_4976 _ he5066) rfl) ?_
            refine SafeOps.quiet0 E_good (congrArg some hc5062) rfl rfl (v := V.int .i64 x_5054) (.fn rfl) ?_
            refine SafeOps.quiet0 E_good (congrArg some hc5062) rfl rfl (v := V.bool (x_5065 == x_5054)) (.fn rfl) ?_
            refine SafeOps.quiet0 E_good rfl rfl rfl (v := V.bool (x_5065 == x_5054)) (.pickK rfl hc5062 rfl) ?_
            refine SafeOps.quiet0 E_good rfl rfl rfl (v := V.bool (x_5065 == x_5054)) (.fn rfl) ?_
            refine SafeOps.nil ?_
            repeat (first | refine Safe.seq ?_ | refine Safe.skip ?_ | with_reducible refine thenQ.n ?_ | with_reducible refine blockQ.n ?_)
            refine Safe.ret ?_
            repeat (first | with_reducible refine thenQ.r ?_ | with_reducible refine blockQ.r ?_)
            obtain rfl := Option.some.inj h
            exact retQ.gen (vs := [V.bool (x_5065 == x_5054)]) rfl (.tmp (v := V.bool (x_5065 == x_5054)) rfl .nil) (.free rfl) (by simp) (.inr rfl)
          · skip
            refine SafeOps.skip (congrArg some hc5062) rfl rfl ?_
            refine SafeOps.skip (congrArg some hc5062) rfl rfl ?_
            refine SafeOps.skip (congrArg some hc5062) rfl rfl ?_
            refine SafeOps.skip (congrArg some hc5062) rfl rfl ?_
            refine SafeOps.quiet0 E_good rfl rfl rfl (v := V.bool false) (.pickK rfl hc5062 rfl) ?_
            refine SafeOps.quiet0 E_good rfl rfl rfl (v := V.bool false) (.fn rfl) ?_
            refine SafeOps.nil ?_
            repeat (first | refine Safe.seq ?_ | refine Safe.skip ?_ | with_reducible refine thenQ.n ?_ | with_reducible refine blockQ.n ?_)
            refine Safe.ret ?_
            repeat (first | with_reducible refine thenQ.r ?_ | with_reducible refine blockQ.r ?_)
            obtain rfl := Option.some.inj h
            exact retQ.gen (vs := [V.bool false]) rfl (.tmp (v := V.bool false) rfl .nil) (.free rfl) (by simp) (.inr rfl)
        · skip
          refine Safe.condN rfl hc5061 ?_
          repeat (first | refine Safe.seq ?_ | refine Safe.skip ?_ | with_reducible refine thenQ.n ?_ | with_reducible refine blockQ.n ?_)
          refine Safe.region ?_
          refine SafeOps.quiet0 E_good rfl rfl rfl (v := V.ref [54, 0] 0 (rws (fun n => [V.int .u8 n]) x_5053).length) (.fn rfl) ?_
          refine bindG h ?_
          rintro ⟨x_5067, x_5068⟩ he5069 h
          refine SafeOps.quiet E_good rfl rfl rfl (v := V.tup [V.ref [68, 0] 0 (rws api_Entry.cells x_5067).length, V.int .i64 x_5068]) (.callS rfl (.cons (.full rfl rfl) .nil) (go_entry_Read_sc x_5053 _ he5069) (.tupL (.cons (.ownM (fun _ => rfl)) (.cons (.plain rfl) .nil))) rfl) rfl ?_
          refine SafeOps.quiet0 E_good rfl rfl rfl (v := V.tup [V.ref [68, 0] 0 (rws api_Entry.cells x_5067).length, V.int .i64 x_5068]) (.fn rfl) ?_
          refine SafeOps.quiet0 E_good rfl rfl rfl (v := V.ref [68, 0] 0 (rws api_Entry.cells x_5067).length) (.fn rfl) ?_
          refine SafeOps.quiet0 E_good rfl rfl rfl (v := V.int .i64 x_5068) (.fn rfl) ?_
          refine SafeOps.quiet0 E_good rfl rfl rfl (v := V.ref [68, 0] 0 (rws api_Entry.cells x_5067).length) (.fn rfl) ?_
          refine SafeOps.quiet0 E_good rfl rfl rfl (v := V.int .i64 x_5068) (.fn rfl) ?_
          refine SafeOps.nil ?_
          repeat (first | refine Safe.seq ?_ | refine Safe.skip ?_ | with_reducible refine thenQ.n ?_ | with_reducible refine blockQ.n ?_)
          refine Safe.region ?_
          refine SafeOps.quiet0 E_good rfl rfl rfl (v := V.bool x_5034) (.fn rfl) ?_
          refine SafeOps.quiet0 E_good rfl rfl rfl (v := V.bool x_5034) (.fn rfl) ?_
          refine SafeOps.bjoin 3 75 (b := (x_5034 && (x_5068 == 0))) (b1 := (x_5068 == 0)) (b0 := false) (fun hc5070 K => ?_) (fun hc5070 K => ?_) bj_and ?_
          · skip
            refine SafeOps.quiet0 E_good (congrArg some hc5070) rfl rfl (v := V.int .i64 x_5068) (.fn rfl) ?_
            refine SafeOps.quiet0 E_good (congrArg some hc5070) rfl rfl (v := V.bool (x_5068 == 0)) (.fn rfl) ?_
            refine SafeOps.quiet0 E_good rfl rfl rfl (v := V.bool (x_5068 == 0)) (.pickK rfl hc5070 rfl) ?_
            exact SafeOps.drop' 3 rfl rfl rfl K
          · skip
            refine SafeOps.skip (congrArg some hc5070) rfl rfl ?_
            refine SafeOps.skip (congrArg some hc5070) rfl rfl ?_
            refine SafeOps.quiet0 E_good rfl rfl rfl (v := V.bool false) (.pickK rfl hc5070 rfl) ?_
            exact SafeOps.drop' 3 rfl rfl rfl K
          refine SafeOps.quiet0 E_good rfl rfl rfl (v := V.bool (x_5034 && (x_5068 == 0))) (.fn rfl) ?_
          refine SafeOps.bsplit 4 80 (fun b_5074 => go_ravellaw19_EntryBack_j2 a0_4976 x_5053 b_5074 = some r) (fun HJ5075 => ?_) (fun b_5074 h => ?_)
          · refine ifG h (fun hc5071 h => ?_) (fun hc5071 h => ?_)
            · skip
              refine SafeOps.quiet0 E_good (congrArg some hc5071) rfl rfl (v := V.ref [68, 0] 0 (rws api_Entry.cells x_5067).length) (.fn rfl) ?_
              refine SafeOps.quiet0 E_good (congrArg some hc5071) rfl rfl (v := V.sl 3 (rws api_Entry.cells a0_4976)) (.fn rfl) ?_
              refine bindG h ?_
              intro x_5077 he5078 h
              refine SafeOps.quiet0 E_good (congrArg some hc5071) rfl rfl (v := V.bool x_5077) (.callS rfl (.cons (.full rfl rfl) (.cons (.free rfl) .nil)) (go_ravelref19_SameList_sc x_5067 a0_4976 _ he5078) (.plain rfl) rfl) ?_
              refine SafeOps.quiet0 E_good rfl rfl rfl (v := V.bool x_5077) (.pickK rfl hc5071 rfl) ?_
              exact SafeOps.drop' 4 rfl rfl rfl (HJ5075 _ h)
            · skip
              refine SafeOps.skip (congrArg some hc5071) rfl rfl ?_
              refine SafeOps.skip (congrArg some hc5071) rfl rfl ?_
              refine SafeOps.skip (congrArg some hc5071) rfl rfl ?_
              refine SafeOps.quiet0 E_good rfl rfl rfl (v := V.bool false) (.pickK rfl hc5071 rfl) ?_
              exact SafeOps.drop' 4 rfl rfl rfl (HJ5075 _ h)
          · replace h : go_ravellaw19_EntryBack_j2 a0_4976 x_5053 b_5074 = some r := h
            rw [go_ravellaw19_EntryBack_j2] at h
            refine SafeOps.quiet0 E_good rfl rfl rfl (v := V.bool b_5074) (.fn rfl) ?_
            refine SafeOps.bjoin 7 88 (b := (b_5074 && ((x_5053.length : Int) == (IntKind.i64.wrap (3 * (a0_4976.length : Int)))))) (b1 := ((x_5053.length : Int) == (IntKind.i64.wrap (3 * (a0_4976.length : Int))))) (b0 := false) (fun hc5076 K => ?_) (fun hc5076 K => ?_) bj_and ?_
            · skip
              refine SafeOps.quiet0 E_good (congrArg some hc5076) rfl rfl (v := V.ref [54, 0] 0 (rws (fun n => [V.int .u8 n]) x_5053).length) (.fn rfl) ?_
              refine SafeOps.quiet0 E_good (congrArg some hc5076) rfl rfl (v := V.int .i64 (x_5053.length : Int)) (.fnE rfl lenE) ?_
              refine SafeOps.quiet0 E_good (congrArg some hc5076) rfl rfl (v := V.sl 3 (rws api_Entry.cells a0_4976)) (.fn rfl) ?_
              refine SafeOps.quiet0 E_good (congrArg some hc5076) rfl rfl (v := V.int .i64 (a0_4976.length : Int)) (.fnE rfl lenE) ?_
              refine SafeOps.quiet0 E_good (congrArg some hc5076) rfl rfl (v := V.int .i64 (IntKind.i64.wrap (3 * (a0_4976.length : Int)))) (.fn rfl) ?_
              refine SafeOps.quiet0 E_good (congrArg some hc5076) rfl rfl (v := V.bool ((x_5053.length : Int) == (IntKind.i64.wrap (3 * (a0_4976.length : Int))))) (.fn rfl) ?_
              refine SafeOps.quiet0 E_good rfl rfl rfl (v := V.bool ((x_5053.length : Int) == (IntKind.i64.wrap (3 * (a0_4976.length : Int))))) (.pickK rfl hc5076 rfl) ?_
              exact SafeOps.drop' 7 rfl rfl rfl K
            · skip
              refine SafeOps.skip (congrArg some hc5076) rfl rfl ?_
              refine SafeOps.skip (congrArg some hc5076) rfl rfl ?_
              refine SafeOps.skip (congrArg some hc5076) rfl rfl ?_
              refine SafeOps.skip (congrArg some hc5076) rfl rfl ?_
              refine SafeOps.skip (congrArg some hc5076) rfl rfl ?_
              refine SafeOps.skip (congrArg some hc5076) rfl rfl ?_
              refine SafeOps.quiet0 E_good rfl rfl rfl (v := V.bool false) (.pickK rfl hc5076 rfl) ?_
              exact SafeOps.drop' 7 rfl rfl rfl K
            refine SafeOps.quiet0 E_good rfl rfl rfl (v := V.bool (b_5074 && ((x_5053.length : Int) == (IntKind.i64.wrap (3 * (a0_4976.length : Int)))))) (.fn rfl) ?_
            refine SafeOps.nil ?_
            repeat (first | refine Safe.seq ?_ | refine Safe.skip ?_ | with_reducible refine thenQ.n ?_ | with_reducible refine blockQ.n ?_)
            refine Safe.ret ?_
            repeat (first | with_reducible refine thenQ.r ?_ | with_reducible refine blockQ.r ?_)
            obtain rfl := Option.some.inj h
            exact retQ.gen (vs := [V.bool (b_5074 && ((x_5053.length : Int) == (IntKind.i64.wrap (3 * (a0_4976.length : Int)))))]) rfl (.tmp (v := V.bool (b_5074 && ((x_5053.length : Int) == (IntKind.i64.wrap (3 * (a0_4976.length : Int)))))) rfl .nil) (.free rfl) (by simp) (.inr rfl)
      · skip
        refine ifG h (fun hc5079 h => ?_) (fun hc5079 h => ?_)
        · skip
          refine Safe.condK rfl hc5079 ?_
          repeat (first | refine Safe.seq ?_ | refine Safe.skip ?_ | with_reducible refine thenQ.n ?_ | with_reducible refine blockQ.n ?_)
          refine Safe.region ?_
          refine SafeOps.quiet0 E_good rfl rfl rfl (v := V.ref [28, 0] 0 (rws api_Entry.cells x_5039).length) (.fn rfl) ?_
          refine bindG h ?_
          rintro ⟨x_5080, x_5081⟩ he5082 h
          refine SafeOps.quiet E_good rfl rfl rfl (v := V.tup [V.ref [35, 0] 0 (rws (fun n => [V.int .u8 n]) x_5080).length, V.int .i64 x_5081]) (.callS rfl (.cons (.full rfl rfl) .nil) (go_entry_Write_sc x_5039 _ he5082) (.tupL (.cons (.ownM (fun _ => rfl)) (.cons (.plain rfl) .nil))) rfl) rfl ?_
          refine SafeOps.quiet0 E_good rfl rfl rfl (v := V.tup [V.ref [35, 0] 0 (rws (fun n => [V.int .u8 n]) x_5080).length, V.int .i64 x_5081]) (.fn rfl) ?_
          refine SafeOps.quiet0 E_good rfl rfl rfl (v := V.ref [35, 0] 0 (rws (fun n => [V.int .u8 n]) x_5080).length) (.fn rfl) ?_
          refine SafeOps.quiet0 E_good rfl rfl rfl (v := V.int .i64 x_5081) (.fn rfl) ?_
          refine SafeOps.quiet0 E_good rfl rfl rfl (v := V.ref [35, 0] 0 (rws (fun n => [V.int .u8 n]) x_5080).length) (.fn rfl) ?_
          refine SafeOps.quiet0 E_good rfl rfl rfl (v := V.int .i64 x_5081) (.fn rfl) ?_
          refine SafeOps.nil ?_
          repeat (first | refine Safe.seq ?_ | refine Safe.skip ?_ | with_reducible refine thenQ.n ?_ | with_reducible refine blockQ.n ?_)
          refine Safe.region ?_
          refine SafeOps.quiet0 E_good rfl rfl rfl (v := V.int .i64 x_5081) (.fn rfl) ?_
          refine SafeOps.quiet0 E_good rfl rfl rfl (v := V.bool (x_5081 != 0)) (.fn rfl) ?_
          refine SafeOps.quiet0 E_good rfl rfl rfl (v := V.bool (x_5081 != 0)) (.fn rfl) ?_
          refine SafeOps.bjoin 6 46 (b := ((x_5081 != 0) || (!((strOfNums x_5080).toList == (strOfNums a1_4977).toList)))) (b1 := true) (b0 := (!((strOfNums x_5080).toList == (strOfNums a1_4977).toList))) (fun hc5083 K => ?_) (fun hc5083 K => ?_) bj_or ?_
          · skip
            refine SafeOps.skip (congrArg (fun b => some (!b)) hc5083) rfl rfl ?_
            refine SafeOps.skip (congrArg (fun b => some (!b)) hc5083) rfl rfl ?_
            refine SafeOps.skip (congrArg (fun b => some (!b)) hc5083) rfl rfl ?_
            refine SafeOps.skip (congrArg (fun b => some (!b)) hc5083) rfl rfl ?_
            refine SafeOps.skip (congrArg (fun b => some (!b)) hc5083) rfl rfl ?_
            refine SafeOps.quiet0 E_good rfl rfl rfl (v := V.bool true) (.pickK rfl hc5083 rfl) ?_
            exact SafeOps.drop' 6 rfl rfl rfl K
          · skip
            refine SafeOps.quiet0 E_good (congrArg (fun b => some (!b)) hc5083) rfl rfl (v := V.ref [35, 0] 0 (rws (fun n => [V.int .u8 n]) x_5080).length) (.fn rfl) ?_
            refine SafeOps.quiet0 E_good (congrArg (fun b => some (!b)) hc5083) rfl rfl (v := V.str (strOfNums x_5080)) (.convB (ns := x_5080) rfl rfl rfl rfl (.full rfl rfl)) ?_
            refine SafeOps.quiet0 E_good (congrArg (fun b => some (!b)) hc5083) rfl rfl (v := V.sl 1 (rws (fun n => [V.int .u8 n]) a1_4977)) (.fn rfl) ?_
            refine SafeOps.quiet0 E_good (congrArg (fun b => some (!b)) hc5083) rfl rfl (v := V.str (strOfNums a1_4977)) (.convB (ns := a1_4977) rfl rfl rfl rfl (.free rfl)) ?_
            refine SafeOps.quiet0 E_good (congrArg (fun b => some (!b)) hc5083) rfl rfl (v := V.bool (!((strOfNums x_5080).toList == (strOfNums a1_4977).toList))) (.fn rfl) ?_
            refine SafeOps.quiet0 E_good rfl rfl rfl (v := V.bool (!((strOfNums x_5080).toList == (strOfNums a1_4977).toList))) (.pickK rfl hc5083 rfl) ?_
            exact SafeOps.drop' 6 rfl rfl rfl K
          refine SafeOps.quiet0 E_good rfl rfl rfl (v := V.bool ((x_5081 != 0) || (!((strOfNums x_5080).toList == (strOfNums a1_4977).toList)))) (.fn rfl) ?_
          refine ifG h (fun hc5084 h => ?_) (fun hc5084 h => ?_)
          · skip
            refine SafeOps.skip (congrArg (fun b => some (!b)) hc5084) rfl rfl ?_
            refine SafeOps.skip (congrArg (fun b => some (!b)) hc5084) rfl rfl ?_
            refine SafeOps.skip (congrArg (fun b => some (!b)) hc5084) rfl rfl ?_
            refine SafeOps.quiet0 E_good rfl rfl rfl (v := V.bool true) (.pickK rfl hc5084 rfl) ?_
            refine SafeOps.nil ?_
            repeat (first | refine Safe.seq ?_ | refine Safe.skip ?_ | with_reducible refine thenQ.n ?_ | with_reducible refine blockQ.n ?_)
            refine Safe.condK rfl rfl ?_
            repeat (first | refine Safe.seq ?_ | refine Safe.skip ?_ | with_reducible refine thenQ.n ?_ | with_reducible refine blockQ.n ?_)
            refine Safe.region ?_
            refine SafeOps.quiet0 E_good rfl rfl rfl (v := V.bool false) (.fn rfl) ?_
            refine SafeOps.nil ?_
            repeat (first | refine Safe.seq ?_ | refine Safe.skip ?_ | with_reducible refine thenQ.n ?_ | with_reducible refine blockQ.n ?_)
            refine Safe.ret ?_
            repeat (first | with_reducible refine thenQ.r ?_ | with_reducible refine blockQ.r ?_)
            obtain rfl := Option.some.inj h
            exact retQ.gen (vs := [V.bool false]) rfl (.tmp (v := V.bool false) rfl .nil) (.free rfl) (by simp) (.inr rfl)
          · skip
            refine SafeOps.quiet0 E_good (congrArg (fun b => some (!b)) hc5084) rfl rfl (v := V.ref [28, 0] 0 (rws api_Entry.cells x_5039).length) (.fn rfl) ?_
            refine bindG h ?_
            intro x_5087 he5088 h
            refine SafeOps.quiet0 E_good (congrArg (fun b => some (!b)) hc5084) rfl rfl (v := V.int .i64 x_5087) (.callS rfl (.cons (.full rfl rfl) .nil) (go_entry_Check_sc x_5039 _ he5088) (.plain rfl) rfl) ?_
            refine SafeOps.quiet0 E_good (congrArg (fun b => some (!b)) hc5084) rfl rfl (v := V.bool (x_5087 != 0)) (.fn rfl) ?_
            refine SafeOps.quiet0 E_good rfl rfl rfl (v := V.bool (x_5087 != 0)) (.pickK rfl hc5084 rfl) ?_
            refine SafeOps.nil ?_
            repeat (first | refine Safe.seq ?_ | refine Safe.skip ?_ | with_reducible refine thenQ.n ?_ | with_reducible refine blockQ.n ?_)
            refine ifG h (fun hc5089 h => ?_) (fun hc5089 h => ?_)
            · skip
              refine Safe.condK rfl hc5089 ?_
              repeat (first | refine Safe.seq ?_ | refine Safe.skip ?_ | with_reducible refine thenQ.n ?_ | with_reducible refine blockQ.n ?_)
              refine Safe.region ?_
              refine SafeOps.quiet0 E_good rfl rfl rfl (v := V.bool false) (.fn rfl) ?_
              refine SafeOps.nil ?_
              repeat (first | refine Safe.seq ?_ | refine Safe.skip ?_ | with_reducible refine thenQ.n ?_ | with_reducible refine blockQ.n ?_)
              refine Safe.ret ?_
              repeat (first | with_reducible refine thenQ.r ?_ | with_reducible refine blockQ.r ?_)
              obtain rfl := Option.some.inj h
              exact retQ.gen (vs := [V.bool false]) rfl (.tmp (v := V.bool false) rfl .nil) (.free rfl) (by simp) (.inr rfl)
            · skip
              refine Safe.condN rfl hc5089 ?_
              repeat (first | refine Safe.skip ?_ | with_reducible refine thenQ.n ?_ | with_reducible refine blockQ.n ?_)
              exact Safe.got (HJ5052 () h) (.cov ⟨rfl, rfl, (upT_cons (.refl _) (upT_cons (.refl _) upT_nil)), upOb_nil, upOut_nil, rfl⟩)
        · skip
          refine Safe.condN rfl hc5079 ?_
          repeat (first | refine Safe.skip ?_ | with_reducible refine thenQ.n ?_ | with_reducible refine blockQ.n ?_)
          exact Safe.got (HJ5052 () h) (.cov ⟨rfl, rfl, (upT_cons (.refl _) (upT_cons (.refl _) upT_nil)), upOb_nil, upOut_nil, rfl⟩)
end Go.Proofs.Ythhpnmfcmgdghaa
