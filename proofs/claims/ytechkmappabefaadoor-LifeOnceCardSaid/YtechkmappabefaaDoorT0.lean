/- Helper lemmas for the claim's theorem: an abstract machine over the model, proved sound; no condition beyond each lemma's own. -/
import Derived.Test.YtechkmappabefaaDoorSEnv
set_option linter.unusedVariables false
set_option linter.unusedSimpArgs false
set_option linter.unnecessarySimpa false
set_option linter.unusedSectionVars false
namespace Go.Proofs.YtechkmappabefaaDoor
open Go Go.AM
set_option maxRecDepth 100000
set_option maxHeartbeats 1000000
set_option linter.unusedVariables false
set_option linter.unusedSimpArgs false
def go_life_state (a0_10 : Int) : Bool :=
  ((decide (a0_10 ≥ 1)) && (decide (a0_10 ≤ 7)))

theorem go_life_state_sc (a0_10 : Int) (r : Bool) (h : go_life_state a0_10 = r) : SC Tryd.prog gl 25 [V.int .i64 a0_10] (V.bool r) := by
  rw [go_life_state] at h
  refine SC.of E_good Tryd.func25 rfl (fun _ _ => Tryd.call25 _ _) rfl ?_
  repeat (first | refine Safe.seq ?_ | refine Safe.skip ?_ | with_reducible refine thenQ.n ?_ | with_reducible refine blockQ.n ?_)
  refine Safe.region ?_
  refine SafeOps.quiet0 E_good rfl rfl rfl (v := V.bool false) (.fn rfl) ?_
  refine SafeOps.nil ?_
  repeat (first | refine Safe.seq ?_ | refine Safe.skip ?_ | with_reducible refine thenQ.n ?_ | with_reducible refine blockQ.n ?_)
  refine Safe.region ?_
  refine SafeOps.quiet0 E_good rfl rfl rfl (v := V.int .i64 a0_10) (.fn rfl) ?_
  refine SafeOps.quiet0 E_good rfl rfl rfl (v := V.bool (decide (a0_10 ≥ 1))) (.fn rfl) ?_
  refine SafeOps.quiet0 E_good rfl rfl rfl (v := V.bool (decide (a0_10 ≥ 1))) (.fn rfl) ?_
  refine SafeOps.bjoin 3 8 (b := ((decide (a0_10 ≥ 1)) && (decide (a0_10 ≤ 7)))) (b1 := decide (a0_10 ≤ 7)) (b0 := false) (fun hc12 K => ?_) (fun hc12 K => ?_) bj_and ?_
  · skip
    refine SafeOps.quiet0 E_good (congrArg some hc12) rfl rfl (v := V.int .i64 a0_10) (.fn rfl) ?_
    refine SafeOps.quiet0 E_good (congrArg some hc12) rfl rfl (v := V.bool (decide (a0_10 ≤ 7))) (.fn rfl) ?_
    refine SafeOps.quiet0 E_good rfl rfl rfl (v := V.bool (decide (a0_10 ≤ 7))) (.pickK rfl hc12 rfl) ?_
    exact SafeOps.drop' 3 rfl rfl rfl K
  · skip
    refine SafeOps.skip (congrArg some hc12) rfl rfl ?_
    refine SafeOps.skip (congrArg some hc12) rfl rfl ?_
    refine SafeOps.quiet0 E_good rfl rfl rfl (v := V.bool false) (.pickK rfl hc12 rfl) ?_
    exact SafeOps.drop' 3 rfl rfl rfl K
  refine SafeOps.quiet0 E_good rfl rfl rfl (v := V.bool ((decide (a0_10 ≥ 1)) && (decide (a0_10 ≤ 7)))) (.fn rfl) ?_
  refine SafeOps.nil ?_
  repeat (first | refine Safe.seq ?_ | refine Safe.skip ?_ | with_reducible refine thenQ.n ?_ | with_reducible refine blockQ.n ?_)
  refine Safe.ret ?_
  repeat (first | with_reducible refine thenQ.r ?_ | with_reducible refine blockQ.r ?_)
  obtain rfl := h
  exact retQ.gen (vs := [V.bool ((decide (a0_10 ≥ 1)) && (decide (a0_10 ≤ 7)))]) rfl (.tmp (v := V.bool ((decide (a0_10 ≥ 1)) && (decide (a0_10 ≤ 7)))) rfl .nil) (.free rfl) (by simp) (.inr rfl)

def go_life_Trace_1 (a0_9 : Int) : Bool :=
  (!(go_life_state a0_9))

theorem go_life_Trace_1_sc (a0_9 : Int) (r : Bool) (h : go_life_Trace_1 a0_9 = r) : SC Tryd.prog gl 24 [V.int .i64 a0_9] (V.bool r) := by
  rw [go_life_Trace_1] at h
  refine SC.of E_good Tryd.func24 rfl (fun _ _ => Tryd.call24 _ _) rfl ?_
  repeat (first | refine Safe.seq ?_ | refine Safe.skip ?_ | with_reducible refine thenQ.n ?_ | with_reducible refine blockQ.n ?_)
  refine Safe.region ?_
  refine SafeOps.quiet0 E_good rfl rfl rfl (v := V.bool false) (.fn rfl) ?_
  refine SafeOps.nil ?_
  repeat (first | refine Safe.seq ?_ | refine Safe.skip ?_ | with_reducible refine thenQ.n ?_ | with_reducible refine blockQ.n ?_)
  refine Safe.region ?_
  refine SafeOps.quiet0 E_good rfl rfl rfl (v := V.int .i64 a0_9) (.fn rfl) ?_
  refine SafeOps.quiet0 E_good rfl rfl rfl (v := V.bool (go_life_state a0_9)) (.callP rfl rfl (go_life_state_sc a0_9 _ rfl) rfl) ?_
  refine SafeOps.quiet0 E_good rfl rfl rfl (v := V.bool (!(go_life_state a0_9))) (.fn rfl) ?_
  refine SafeOps.quiet0 E_good rfl rfl rfl (v := V.bool (!(go_life_state a0_9))) (.fn rfl) ?_
  refine SafeOps.nil ?_
  repeat (first | refine Safe.seq ?_ | refine Safe.skip ?_ | with_reducible refine thenQ.n ?_ | with_reducible refine blockQ.n ?_)
  refine Safe.ret ?_
  repeat (first | with_reducible refine thenQ.r ?_ | with_reducible refine blockQ.r ?_)
  obtain rfl := h
  exact retQ.gen (vs := [V.bool (!(go_life_state a0_9))]) rfl (.tmp (v := V.bool (!(go_life_state a0_9))) rfl .nil) (.free rfl) (by simp) (.inr rfl)

noncomputable def go_slices_IndexFunc_int_int_124_s1 (a0_5 : List Int) : (Int) → Option ((Int) ⊕ (Int))
  | v8_30 =>
    if (decide (v8_30 < (a0_5.length : Int))) = true then
      if 0 ≤ v8_30 ∧ v8_30 < (a0_5.length : Int) then
        if (go_life_Trace_1 (gt a0_5 v8_30)) = true then
          inrO (
            some v8_30)
        else
          nextO (IntKind.i64.wrap (v8_30 + 1))
      else none
    else
      inrO (
        some (-1))

noncomputable def go_slices_IndexFunc_int_int_124 (a0_5 : List Int) : Option Int :=
  whileO (go_slices_IndexFunc_int_int_124_s1 a0_5) 0

theorem go_slices_IndexFunc_int_int_124_sc (a0_5 : List Int) (r : Int) (h : go_slices_IndexFunc_int_int_124 a0_5 = some r) : SC Tryd.prog gl 30 [V.sl 1 (rws (fun n => [V.int .i64 n]) a0_5), V.fn 24 []] (V.int .i64 r) := by
  rw [go_slices_IndexFunc_int_int_124] at h
  refine SC.of E_good Tryd.func30 rfl (fun _ _ => Tryd.call30 _ _) rfl ?_
  repeat (first | refine Safe.seq ?_ | refine Safe.skip ?_ | with_reducible refine thenQ.n ?_ | with_reducible refine blockQ.n ?_)
  refine Safe.region ?_
  refine SafeOps.quiet0 E_good rfl rfl rfl (v := V.int .i64 0) (.fn rfl) ?_
  refine SafeOps.nil ?_
  repeat (first | refine Safe.seq ?_ | refine Safe.skip ?_ | with_reducible refine thenQ.n ?_ | with_reducible refine blockQ.n ?_)
  refine Safe.region ?_
  refine SafeOps.quiet0 E_good rfl rfl rfl (v := V.sl 1 (rws (fun n => [V.int .i64 n]) a0_5)) (.fn rfl) ?_
  refine SafeOps.quiet0 E_good rfl rfl rfl (v := V.int .i64 (a0_5.length : Int)) (.fnE rfl lenE) ?_
  refine SafeOps.quiet0 E_good rfl rfl rfl (v := V.int .i64 0) (.fn rfl) ?_
  refine SafeOps.nil ?_
  repeat (first | refine Safe.seq ?_ | refine Safe.skip ?_ | with_reducible refine thenQ.n ?_ | with_reducible refine blockQ.n ?_)
  refine Safe.block ?_
  repeat (first | refine Safe.seq ?_ | refine Safe.skip ?_ | with_reducible refine thenQ.n ?_ | with_reducible refine blockQ.n ?_)
  refine Safe.loopW (fun (v8_30 : Int) => ⟨Tryd.f30.ntmps, [(0, V.sl 1 (rws (fun n => [V.int .i64 n]) a0_5)), (1, V.fn 24 []), (7, V.int .i64 (a0_5.length : Int)), (8, V.int .i64 v8_30)], [], [], []⟩) h (.cov ⟨rfl, rfl, (upT_cons (.refl _) (upT_cons (.refl _) (upT_cons (.refl _) (upT_cons (.refl _) upT_nil)))), upOb_nil, upOut_nil, rfl⟩) ?_
  intro v8_30 ohr31 h hr31
  replace h : go_slices_IndexFunc_int_int_124_s1 a0_5 v8_30 = some ohr31 := h
  rw [go_slices_IndexFunc_int_int_124_s1] at h
  repeat (first | refine Safe.seq ?_ | refine Safe.skip ?_ | with_reducible refine thenQ.n ?_ | with_reducible refine blockQ.n ?_)
  refine Safe.region ?_
  refine SafeOps.quiet0 E_good rfl rfl rfl (v := V.bool (decide (v8_30 < (a0_5.length : Int)))) (.fn rfl) ?_
  refine SafeOps.nil ?_
  repeat (first | refine Safe.seq ?_ | refine Safe.skip ?_ | with_reducible refine thenQ.n ?_ | with_reducible refine blockQ.n ?_)
  refine ifG h (fun hc32 h => ?_) (fun hc32 h => ?_)
  · skip
    refine Safe.condK rfl hc32 ?_
    repeat (first | refine Safe.seq ?_ | refine Safe.skip ?_ | with_reducible refine thenQ.n ?_ | with_reducible refine blockQ.n ?_)
    refine Safe.block ?_
    repeat (first | refine Safe.seq ?_ | refine Safe.skip ?_ | with_reducible refine thenQ.n ?_ | with_reducible refine blockQ.n ?_)
    refine Safe.region ?_
    refine SafeOps.quiet0 E_good rfl rfl rfl (v := V.int .i64 v8_30) (.fn rfl) ?_
    refine SafeOps.quiet0 E_good rfl rfl rfl (v := V.int .i64 v8_30) (.fn rfl) ?_
    refine SafeOps.nil ?_
    repeat (first | refine Safe.seq ?_ | refine Safe.skip ?_ | with_reducible refine thenQ.n ?_ | with_reducible refine blockQ.n ?_)
    refine Safe.region ?_
    refine SafeOps.quiet0 E_good rfl rfl rfl (v := V.fn 24 []) (.fn rfl) ?_
    refine SafeOps.quiet0 E_good rfl rfl rfl (v := V.sl 1 (rws (fun n => [V.int .i64 n]) a0_5)) (.fn rfl) ?_
    refine SafeOps.quiet0 E_good rfl rfl rfl (v := V.int .i64 v8_30) (.fn rfl) ?_
    refine okG h (fun hb33 h => ?_)
    refine SafeOps.quiet0 E_good rfl rfl rfl (v := V.spt 1 (rws (fun n => [V.int .i64 n]) a0_5) (Int.toNat v8_30) 0) (.idxSlM (f := (fun n => [V.int .i64 n])) rfl rfl rfl rfl rfl hb33) ?_
    refine SafeOps.quiet0 E_good rfl rfl rfl (v := V.int .i64 (gt a0_5 v8_30)) (.load rfl rfl (.sptM (f := (fun n => [V.int .i64 n])) hb33 rfl) rfl) ?_
    refine SafeOps.quiet0 E_good rfl rfl rfl (v := V.bool (go_life_Trace_1 (gt a0_5 v8_30))) (.callP rfl rfl (go_life_Trace_1_sc (gt a0_5 v8_30) _ rfl) rfl) ?_
    refine SafeOps.nil ?_
    repeat (first | refine Safe.seq ?_ | refine Safe.skip ?_ | with_reducible refine thenQ.n ?_ | with_reducible refine blockQ.n ?_)
    refine ifG h (fun hc34 h => ?_) (fun hc34 h => ?_)
    · skip
      refine Safe.condK rfl hc34 ?_
      repeat (first | refine Safe.seq ?_ | refine Safe.skip ?_ | with_reducible refine thenQ.n ?_ | with_reducible refine blockQ.n ?_)
      refine Safe.region ?_
      refine SafeOps.quiet0 E_good rfl rfl rfl (v := V.int .i64 v8_30) (.fn rfl) ?_
      refine SafeOps.quiet0 E_good rfl rfl rfl (v := V.int .i64 v8_30) (.fn rfl) ?_
      refine SafeOps.nil ?_
      repeat (first | refine Safe.seq ?_ | refine Safe.skip ?_ | with_reducible refine thenQ.n ?_ | with_reducible refine blockQ.n ?_)
      refine Safe.ret ?_
      repeat (first | with_reducible refine thenQ.r ?_ | with_reducible refine blockQ.r ?_)
      replace h := inr_out h hr31
      obtain rfl := Option.some.inj h
      exact retQ.gen (vs := [V.int .i64 v8_30]) rfl (.tmp (v := V.int .i64 v8_30) rfl .nil) (.free rfl) (by simp) (.inr rfl)
    · skip
      refine Safe.condN rfl hc34 ?_
      repeat (first | refine Safe.seq ?_ | refine Safe.skip ?_ | with_reducible refine thenQ.n ?_ | with_reducible refine blockQ.n ?_)
      refine Safe.region ?_
      refine SafeOps.quiet0 E_good rfl rfl rfl (v := V.int .i64 (IntKind.i64.wrap (v8_30 + 1))) (.fn rfl) ?_
      refine SafeOps.quiet0 E_good rfl rfl rfl (v := V.int .i64 (IntKind.i64.wrap (v8_30 + 1))) (.fn rfl) ?_
      refine SafeOps.nil ?_
      repeat (first | refine Safe.seq ?_ | refine Safe.skip ?_ | with_reducible refine thenQ.n ?_ | with_reducible refine blockQ.n ?_)
      exact ⟨_, next_out h, (.cov ⟨rfl, rfl, (upT_cons (.refl _) (upT_cons (.refl _) (upT_cons (.refl _) (upT_cons (.refl _) upT_nil)))), upOb_nil, upOut_nil, rfl⟩)⟩
  · skip
    refine Safe.condN rfl hc32 ?_
    repeat (first | refine Safe.seq ?_ | refine Safe.skip ?_ | with_reducible refine thenQ.n ?_ | with_reducible refine blockQ.n ?_)
    refine Safe.exit ?_
    repeat (first | with_reducible refine thenQ.e ?_ | with_reducible refine blockQ.x rfl ?_ | with_reducible refine blockQ.y rfl ?_)
    replace h := inr_out h hr31
    repeat (first | refine Safe.seq ?_ | refine Safe.skip ?_ | with_reducible refine thenQ.n ?_ | with_reducible refine blockQ.n ?_)
    refine Safe.region ?_
    refine SafeOps.quiet0 E_good rfl rfl rfl (v := V.int .i64 (-1)) (.fn rfl) ?_
    refine SafeOps.nil ?_
    repeat (first | refine Safe.seq ?_ | refine Safe.skip ?_ | with_reducible refine thenQ.n ?_ | with_reducible refine blockQ.n ?_)
    refine Safe.ret ?_
    repeat (first | with_reducible refine thenQ.r ?_ | with_reducible refine blockQ.r ?_)
    obtain rfl := Option.some.inj h
    exact retQ.gen (vs := [V.int .i64 (-1)]) rfl (.tmp (v := V.int .i64 (-1)) rfl .nil) (.free rfl) (by simp) (.inr rfl)

noncomputable def go_slices_ContainsFunc_int_int_124 (a0_4 : List Int) : Option Bool :=
  (go_slices_IndexFunc_int_int_124 a0_4).bind fun x_37 =>
  some (decide (x_37 ≥ 0))

theorem go_slices_ContainsFunc_int_int_124_sc (a0_4 : List Int) (r : Bool) (h : go_slices_ContainsFunc_int_int_124 a0_4 = some r) : SC Tryd.prog gl 26 [V.sl 1 (rws (fun n => [V.int .i64 n]) a0_4), V.fn 24 []] (V.bool r) := by
  rw [go_slices_ContainsFunc_int_int_124] at h
  refine SC.of E_good Tryd.func26 rfl (fun _ _ => Tryd.call26 _ _) rfl ?_
  repeat (first | refine Safe.seq ?_ | refine Safe.skip ?_ | with_reducible refine thenQ.n ?_ | with_reducible refine blockQ.n ?_)
  refine Safe.region ?_
  refine SafeOps.quiet0 E_good rfl rfl rfl (v := V.bool false) (.fn rfl) ?_
  refine SafeOps.nil ?_
  repeat (first | refine Safe.seq ?_ | refine Safe.skip ?_ | with_reducible refine thenQ.n ?_ | with_reducible refine blockQ.n ?_)
  refine Safe.region ?_
  refine SafeOps.quiet0 E_good rfl rfl rfl (v := V.sl 1 (rws (fun n => [V.int .i64 n]) a0_4)) (.fn rfl) ?_
  refine SafeOps.quiet0 E_good rfl rfl rfl (v := V.fn 24 []) (.fn rfl) ?_
  refine bindG h ?_
  intro x_37 he38 h
  refine SafeOps.quiet0 E_good rfl rfl rfl (v := V.int .i64 x_37) (.callP rfl rfl (go_slices_IndexFunc_int_int_124_sc a0_4 _ he38) rfl) ?_
  refine SafeOps.quiet0 E_good rfl rfl rfl (v := V.bool (decide (x_37 ≥ 0))) (.fn rfl) ?_
  refine SafeOps.quiet0 E_good rfl rfl rfl (v := V.bool (decide (x_37 ≥ 0))) (.fn rfl) ?_
  refine SafeOps.nil ?_
  repeat (first | refine Safe.seq ?_ | refine Safe.skip ?_ | with_reducible refine thenQ.n ?_ | with_reducible refine blockQ.n ?_)
  refine Safe.ret ?_
  repeat (first | with_reducible refine thenQ.r ?_ | with_reducible refine blockQ.r ?_)
  obtain rfl := Option.some.inj h
  exact retQ.gen (vs := [V.bool (decide (x_37 ≥ 0))]) rfl (.tmp (v := V.bool (decide (x_37 ≥ 0))) rfl .nil) (.free rfl) (by simp) (.inr rfl)

noncomputable def go_life_Legal (a0_47 : Int) (a1_48 : Int) : Option Bool :=
  if ((go_life_state a0_47) && (go_life_state a1_48)) = true then
    if 0 ≤ a0_47 ∧ a0_47 < (8 : Int) then
      if 0 ≤ a1_48 then
        some ((IntKind.u8.wrap (BitVec.ofInt IntKind.u8.bits (Int.fdiv (follows.getD (0 + Int.toNat a0_47 * 1) 0) (2 ^ (min (Int.toNat a1_48) IntKind.u8.bits))) &&& BitVec.ofInt IntKind.u8.bits 1).toNat) == 1)
      else none
    else none
  else
    some false

theorem go_life_Legal_sc (a0_47 : Int) (a1_48 : Int) (r : Bool) (h : go_life_Legal a0_47 a1_48 = some r) : SC Tryd.prog gl 12 [V.int .i64 a0_47, V.int .i64 a1_48] (V.bool r) := by
  rw [go_life_Legal] at h
  refine SC.of E_good Tryd.func12 rfl (fun _ _ => Tryd.call12 _ _) rfl ?_
  repeat (first | refine Safe.seq ?_ | refine Safe.skip ?_ | with_reducible refine thenQ.n ?_ | with_reducible refine blockQ.n ?_)
  refine Safe.region ?_
  refine SafeOps.quiet0 E_good rfl rfl rfl (v := V.bool false) (.fn rfl) ?_
  refine SafeOps.nil ?_
  repeat (first | refine Safe.seq ?_ | refine Safe.skip ?_ | with_reducible refine thenQ.n ?_ | with_reducible refine blockQ.n ?_)
  refine Safe.region ?_
  refine SafeOps.quiet0 E_good rfl rfl rfl (v := V.int .i64 a0_47) (.fn rfl) ?_
  refine SafeOps.quiet0 E_good rfl rfl rfl (v := V.bool (go_life_state a0_47)) (.callP rfl rfl (go_life_state_sc a0_47 _ rfl) rfl) ?_
  refine SafeOps.quiet0 E_good rfl rfl rfl (v := V.bool (go_life_state a0_47)) (.fn rfl) ?_
  refine SafeOps.bjoin 3 10 (b := ((go_life_state a0_47) && (go_life_state a1_48))) (b1 := go_life_state a1_48) (b0 := false) (fun hc60 K => ?_) (fun hc60 K => ?_) bj_and ?_
  · skip
    refine SafeOps.quiet0 E_good (congrArg some hc60) rfl rfl (v := V.int .i64 a1_48) (.fn rfl) ?_
    refine SafeOps.quiet0 E_good (congrArg some hc60) rfl rfl (v := V.bool (go_life_state a1_48)) (.callP rfl rfl (go_life_state_sc a1_48 _ rfl) rfl) ?_
    refine SafeOps.quiet0 E_good rfl rfl rfl (v := V.bool (go_life_state a1_48)) (.pickK rfl hc60 rfl) ?_
    exact SafeOps.drop' 3 rfl rfl rfl K
  · skip
    refine SafeOps.skip (congrArg some hc60) rfl rfl ?_
    refine SafeOps.skip (congrArg some hc60) rfl rfl ?_
    refine SafeOps.quiet0 E_good rfl rfl rfl (v := V.bool false) (.pickK rfl hc60 rfl) ?_
    exact SafeOps.drop' 3 rfl rfl rfl K
  refine SafeOps.quiet0 E_good rfl rfl rfl (v := V.bool ((go_life_state a0_47) && (go_life_state a1_48))) (.fn rfl) ?_
  refine ifG h (fun hc61 h => ?_) (fun hc61 h => ?_)
  · skip
    refine SafeOps.quiet0 E_good (congrArg some hc61) rfl rfl (v := V.int .i64 a0_47) (.fn rfl) ?_
    refine okG h (fun hb64 h => ?_)
    refine SafeOps.quiet0 E_good (congrArg some hc61) rfl rfl (v := V.gptr 0 (0 + Int.toNat a0_47 * 1)) (.idxArrGM rfl rfl rfl rfl rfl rfl 8 rfl hb64) ?_
    refine SafeOps.quiet0 E_good (congrArg some hc61) rfl rfl (v := V.int .u8 (follows.getD (0 + Int.toNat a0_47 * 1) 0)) (.load rfl rfl (.globI (xs := follows) rfl (globlt hb64)) rfl) ?_
    refine SafeOps.quiet0 E_good (congrArg some hc61) rfl rfl (v := V.int .i64 a1_48) (.fn rfl) ?_
    refine okG h (fun hb65 h => ?_)
    refine SafeOps.quiet0 E_good (congrArg some hc61) rfl rfl (v := V.int .u8 (Int.fdiv (follows.getD (0 + Int.toNat a0_47 * 1) 0) (2 ^ (min (Int.toNat a1_48) IntKind.u8.bits)))) (.shrV rfl rfl hb65) ?_
    refine SafeOps.quiet0 E_good (congrArg some hc61) rfl rfl (v := V.int .u8 (IntKind.u8.wrap (BitVec.ofInt IntKind.u8.bits (Int.fdiv (follows.getD (0 + Int.toNat a0_47 * 1) 0) (2 ^ (min (Int.toNat a1_48) IntKind.u8.bits))) &&& BitVec.ofInt IntKind.u8.bits 1).toNat)) (.fn rfl) ?_
    refine SafeOps.quiet0 E_good (congrArg some hc61) rfl rfl (v := V.bool ((IntKind.u8.wrap (BitVec.ofInt IntKind.u8.bits (Int.fdiv (follows.getD (0 + Int.toNat a0_47 * 1) 0) (2 ^ (min (Int.toNat a1_48) IntKind.u8.bits))) &&& BitVec.ofInt IntKind.u8.bits 1).toNat) == 1)) (.fn rfl) ?_
    refine SafeOps.quiet0 E_good rfl rfl rfl (v := V.bool ((IntKind.u8.wrap (BitVec.ofInt IntKind.u8.bits (Int.fdiv (follows.getD (0 + Int.toNat a0_47 * 1) 0) (2 ^ (min (Int.toNat a1_48) IntKind.u8.bits))) &&& BitVec.ofInt IntKind.u8.bits 1).toNat) == 1)) (.pickK rfl hc61 rfl) ?_
    refine SafeOps.quiet0 E_good rfl rfl rfl (v := V.bool ((IntKind.u8.wrap (BitVec.ofInt IntKind.u8.bits (Int.fdiv (follows.getD (0 + Int.toNat a0_47 * 1) 0) (2 ^ (min (Int.toNat a1_48) IntKind.u8.bits))) &&& BitVec.ofInt IntKind.u8.bits 1).toNat) == 1)) (.fn rfl) ?_
    refine SafeOps.nil ?_
    repeat (first | refine Safe.seq ?_ | refine Safe.skip ?_ | with_reducible refine thenQ.n ?_ | with_reducible refine blockQ.n ?_)
    refine Safe.ret ?_
    repeat (first | with_reducible refine thenQ.r ?_ | with_reducible refine blockQ.r ?_)
    obtain rfl := Option.some.inj h
    exact retQ.gen (vs := [V.bool ((IntKind.u8.wrap (BitVec.ofInt IntKind.u8.bits (Int.fdiv (follows.getD (0 + Int.toNat a0_47 * 1) 0) (2 ^ (min (Int.toNat a1_48) IntKind.u8.bits))) &&& BitVec.ofInt IntKind.u8.bits 1).toNat) == 1)]) rfl (.tmp (v := V.bool ((IntKind.u8.wrap (BitVec.ofInt IntKind.u8.bits (Int.fdiv (follows.getD (0 + Int.toNat a0_47 * 1) 0) (2 ^ (min (Int.toNat a1_48) IntKind.u8.bits))) &&& BitVec.ofInt IntKind.u8.bits 1).toNat) == 1)) rfl .nil) (.free rfl) (by simp) (.inr rfl)
  · skip
    refine SafeOps.skip (congrArg some hc61) rfl rfl ?_
    refine SafeOps.skip (congrArg some hc61) rfl rfl ?_
    refine SafeOps.skip (congrArg some hc61) rfl rfl ?_
    refine SafeOps.skip (congrArg some hc61) rfl rfl ?_
    refine SafeOps.skip (congrArg some hc61) rfl rfl ?_
    refine SafeOps.skip (congrArg some hc61) rfl rfl ?_
    refine SafeOps.skip (congrArg some hc61) rfl rfl ?_
    refine SafeOps.quiet0 E_good rfl rfl rfl (v := V.bool false) (.pickK rfl hc61 rfl) ?_
    refine SafeOps.quiet0 E_good rfl rfl rfl (v := V.bool false) (.fn rfl) ?_
    refine SafeOps.nil ?_
    repeat (first | refine Safe.seq ?_ | refine Safe.skip ?_ | with_reducible refine thenQ.n ?_ | with_reducible refine blockQ.n ?_)
    refine Safe.ret ?_
    repeat (first | with_reducible refine thenQ.r ?_ | with_reducible refine blockQ.r ?_)
    obtain rfl := Option.some.inj h
    exact retQ.gen (vs := [V.bool false]) rfl (.tmp (v := V.bool false) rfl .nil) (.free rfl) (by simp) (.inr rfl)

noncomputable def go_life_Trace_s1 (a0_2 : List Int) : (Int × Int) → Option ((Int × Int) ⊕ (Int × Int))
  | (v5_110, v18_111) =>
    if (decide (v18_111 < (a0_2.length : Int))) = true then
      if 0 ≤ v18_111 ∧ v18_111 < (a0_2.length : Int) then
        (go_life_Legal v5_110 (gt a0_2 v18_111)).bind fun x_115 =>
        if ((!x_115) || ((v18_111 == 0) && ((gt a0_2 v18_111) != 1))) = true then
          inrO (
            some (v18_111, 0))
        else
          nextO ((gt a0_2 v18_111), IntKind.i64.wrap (v18_111 + 1))
      else none
    else
      inrO (
        some ((a0_2.length : Int), 0))

noncomputable def go_life_Trace (a0_2 : List Int) : Option (Int × Int) :=
  if ((a0_2.length : Int) == 0) = true then
    some (0, 1)
  else
    (go_slices_ContainsFunc_int_int_124 a0_2).bind fun x_92 =>
    if x_92 = true then
      some (0, 1)
    else
      whileO (go_life_Trace_s1 a0_2) (3, 0)

theorem go_life_Trace_sc (a0_2 : List Int) (r : Int × Int) (h : go_life_Trace a0_2 = some r) : SC Tryd.prog gl 10 [V.sl 1 (rws (fun n => [V.int .i64 n]) a0_2)] (V.tup [V.int .i64 r.1, V.int .i64 r.2]) := by
  rw [go_life_Trace] at h
  refine SC.of E_good Tryd.func10 rfl (fun _ _ => Tryd.call10 _ _) rfl ?_
  repeat (first | refine Safe.seq ?_ | refine Safe.skip ?_ | with_reducible refine thenQ.n ?_ | with_reducible refine blockQ.n ?_)
  refine Safe.region ?_
  refine SafeOps.quiet0 E_good rfl rfl rfl (v := V.int .i64 0) (.fn rfl) ?_
  refine SafeOps.quiet0 E_good rfl rfl rfl (v := V.int .i64 0) (.fn rfl) ?_
  refine SafeOps.nil ?_
  repeat (first | refine Safe.seq ?_ | refine Safe.skip ?_ | with_reducible refine thenQ.n ?_ | with_reducible refine blockQ.n ?_)
  refine Safe.region ?_
  refine SafeOps.quiet0 E_good rfl rfl rfl (v := V.fn 24 []) (.fn rfl) ?_
  refine SafeOps.nil ?_
  repeat (first | refine Safe.seq ?_ | refine Safe.skip ?_ | with_reducible refine thenQ.n ?_ | with_reducible refine blockQ.n ?_)
  refine Safe.region ?_
  refine SafeOps.quiet0 E_good rfl rfl rfl (v := V.sl 1 (rws (fun n => [V.int .i64 n]) a0_2)) (.fn rfl) ?_
  refine SafeOps.quiet0 E_good rfl rfl rfl (v := V.int .i64 (a0_2.length : Int)) (.fnE rfl lenE) ?_
  refine SafeOps.quiet0 E_good rfl rfl rfl (v := V.bool ((a0_2.length : Int) == 0)) (.fn rfl) ?_
  refine SafeOps.quiet0 E_good rfl rfl rfl (v := V.bool ((a0_2.length : Int) == 0)) (.fn rfl) ?_
  refine ifG h (fun hc89 h => ?_) (fun hc89 h => ?_)
  · skip
    refine SafeOps.skip (congrArg (fun b => some (!b)) hc89) rfl rfl ?_
    refine SafeOps.skip (congrArg (fun b => some (!b)) hc89) rfl rfl ?_
    refine SafeOps.skip (congrArg (fun b => some (!b)) hc89) rfl rfl ?_
    refine SafeOps.quiet0 E_good rfl rfl rfl (v := V.bool true) (.pickK rfl hc89 rfl) ?_
    refine SafeOps.nil ?_
    repeat (first | refine Safe.seq ?_ | refine Safe.skip ?_ | with_reducible refine thenQ.n ?_ | with_reducible refine blockQ.n ?_)
    refine Safe.condK rfl rfl ?_
    repeat (first | refine Safe.seq ?_ | refine Safe.skip ?_ | with_reducible refine thenQ.n ?_ | with_reducible refine blockQ.n ?_)
    refine Safe.region ?_
    refine SafeOps.quiet0 E_good rfl rfl rfl (v := V.int .i64 0) (.fn rfl) ?_
    refine SafeOps.quiet0 E_good rfl rfl rfl (v := V.int .i64 1) (.fn rfl) ?_
    refine SafeOps.nil ?_
    repeat (first | refine Safe.seq ?_ | refine Safe.skip ?_ | with_reducible refine thenQ.n ?_ | with_reducible refine blockQ.n ?_)
    refine Safe.ret ?_
    repeat (first | with_reducible refine thenQ.r ?_ | with_reducible refine blockQ.r ?_)
    obtain rfl := Option.some.inj h
    exact retQ.gen (vs := [V.int .i64 0, V.int .i64 1]) rfl (.tmp (v := V.int .i64 0) rfl (.tmp (v := V.int .i64 1) rfl .nil)) (.free rfl) (by simp) (.inr rfl)
  · skip
    refine SafeOps.quiet0 E_good (congrArg (fun b => some (!b)) hc89) rfl rfl (v := V.sl 1 (rws (fun n => [V.int .i64 n]) a0_2)) (.fn rfl) ?_
    refine SafeOps.quiet0 E_good (congrArg (fun b => some (!b)) hc89) rfl rfl (v := V.fn 24 []) (.fn rfl) ?_
    refine bindG h ?_
    intro x_92 he93 h
    refine SafeOps.quiet0 E_good (congrArg (fun b => some (!b)) hc89) rfl rfl (v := V.bool x_92) (.callP rfl rfl (go_slices_ContainsFunc_int_int_124_sc a0_2 _ he93) rfl) ?_
    refine SafeOps.quiet0 E_good rfl rfl rfl (v := V.bool x_92) (.pickK rfl hc89 rfl) ?_
    refine SafeOps.nil ?_
    repeat (first | refine Safe.seq ?_ | refine Safe.skip ?_ | with_reducible refine thenQ.n ?_ | with_reducible refine blockQ.n ?_)
    refine ifG h (fun hc94 h => ?_) (fun hc94 h => ?_)
    · skip
      refine Safe.condK rfl hc94 ?_
      repeat (first | refine Safe.seq ?_ | refine Safe.skip ?_ | with_reducible refine thenQ.n ?_ | with_reducible refine blockQ.n ?_)
      refine Safe.region ?_
      refine SafeOps.quiet0 E_good rfl rfl rfl (v := V.int .i64 0) (.fn rfl) ?_
      refine SafeOps.quiet0 E_good rfl rfl rfl (v := V.int .i64 1) (.fn rfl) ?_
      refine SafeOps.nil ?_
      repeat (first | refine Safe.seq ?_ | refine Safe.skip ?_ | with_reducible refine thenQ.n ?_ | with_reducible refine blockQ.n ?_)
      refine Safe.ret ?_
      repeat (first | with_reducible refine thenQ.r ?_ | with_reducible refine blockQ.r ?_)
      obtain rfl := Option.some.inj h
      exact retQ.gen (vs := [V.int .i64 0, V.int .i64 1]) rfl (.tmp (v := V.int .i64 0) rfl (.tmp (v := V.int .i64 1) rfl .nil)) (.free rfl) (by simp) (.inr rfl)
    · skip
      refine Safe.condN rfl hc94 ?_
      repeat (first | refine Safe.seq ?_ | refine Safe.skip ?_ | with_reducible refine thenQ.n ?_ | with_reducible refine blockQ.n ?_)
      refine Safe.region ?_
      refine SafeOps.quiet0 E_good rfl rfl rfl (v := V.int .i64 3) (.fn rfl) ?_
      refine SafeOps.nil ?_
      repeat (first | refine Safe.seq ?_ | refine Safe.skip ?_ | with_reducible refine thenQ.n ?_ | with_reducible refine blockQ.n ?_)
      refine Safe.region ?_
      refine SafeOps.quiet0 E_good rfl rfl rfl (v := V.sl 1 (rws (fun n => [V.int .i64 n]) a0_2)) (.fn rfl) ?_
      refine SafeOps.quiet0 E_good rfl rfl rfl (v := V.int .i64 (a0_2.length : Int)) (.fnE rfl lenE) ?_
      refine SafeOps.quiet0 E_good rfl rfl rfl (v := V.int .i64 0) (.fn rfl) ?_
      refine SafeOps.nil ?_
      repeat (first | refine Safe.seq ?_ | refine Safe.skip ?_ | with_reducible refine thenQ.n ?_ | with_reducible refine blockQ.n ?_)
      refine Safe.block ?_
      repeat (first | refine Safe.seq ?_ | refine Safe.skip ?_ | with_reducible refine thenQ.n ?_ | with_reducible refine blockQ.n ?_)
      refine Safe.loopW (fun ((v5_110, v18_111) : Int × Int) => ⟨Tryd.f10.ntmps, [(0, V.sl 1 (rws (fun n => [V.int .i64 n]) a0_2)), (5, V.int .i64 v5_110), (16, V.sl 1 (rws (fun n => [V.int .i64 n]) a0_2)), (17, V.int .i64 (a0_2.length : Int)), (18, V.int .i64 v18_111)], [], [], []⟩) h (.cov ⟨rfl, rfl, (upT_cons (.refl _) (upT_cons (.refl _) (upT_cons (.refl _) (upT_cons (.refl _) (upT_cons (.refl _) upT_nil))))), upOb_nil, upOut_nil, rfl⟩) ?_
      rintro ⟨v5_110, v18_111⟩ ohr112 h hr112
      replace h : go_life_Trace_s1 a0_2 (v5_110, v18_111) = some ohr112 := h
      rw [go_life_Trace_s1] at h
      repeat (first | refine Safe.seq ?_ | refine Safe.skip ?_ | with_reducible refine thenQ.n ?_ | with_reducible refine blockQ.n ?_)
      refine Safe.region ?_
      refine SafeOps.quiet0 E_good rfl rfl rfl (v := V.bool (decide (v18_111 < (a0_2.length : Int)))) (.fn rfl) ?_
      refine SafeOps.nil ?_
      repeat (first | refine Safe.seq ?_ | refine Safe.skip ?_ | with_reducible refine thenQ.n ?_ | with_reducible refine blockQ.n ?_)
      refine ifG h (fun hc113 h => ?_) (fun hc113 h => ?_)
      · skip
        refine Safe.condK rfl hc113 ?_
        repeat (first | refine Safe.seq ?_ | refine Safe.skip ?_ | with_reducible refine thenQ.n ?_ | with_reducible refine blockQ.n ?_)
        refine Safe.block ?_
        repeat (first | refine Safe.seq ?_ | refine Safe.skip ?_ | with_reducible refine thenQ.n ?_ | with_reducible refine blockQ.n ?_)
        refine Safe.region ?_
        refine SafeOps.quiet0 E_good rfl rfl rfl (v := V.int .i64 v18_111) (.fn rfl) ?_
        refine okG h (fun hb114 h => ?_)
        refine SafeOps.quiet0 E_good rfl rfl rfl (v := V.spt 1 (rws (fun n => [V.int .i64 n]) a0_2) (Int.toNat v18_111) 0) (.idxSlM (f := (fun n => [V.int .i64 n])) rfl rfl rfl rfl rfl hb114) ?_
        refine SafeOps.quiet0 E_good rfl rfl rfl (v := V.int .i64 (gt a0_2 v18_111)) (.load rfl rfl (.sptM (f := (fun n => [V.int .i64 n])) hb114 rfl) rfl) ?_
        refine SafeOps.quiet0 E_good rfl rfl rfl (v := V.int .i64 v18_111) (.fn rfl) ?_
        refine SafeOps.quiet0 E_good rfl rfl rfl (v := V.int .i64 (gt a0_2 v18_111)) (.fn rfl) ?_
        refine SafeOps.nil ?_
        repeat (first | refine Safe.seq ?_ | refine Safe.skip ?_ | with_reducible refine thenQ.n ?_ | with_reducible refine blockQ.n ?_)
        refine Safe.region ?_
        refine SafeOps.quiet0 E_good rfl rfl rfl (v := V.int .i64 v5_110) (.fn rfl) ?_
        refine SafeOps.quiet0 E_good rfl rfl rfl (v := V.int .i64 (gt a0_2 v18_111)) (.fn rfl) ?_
        refine bindG h ?_
        intro x_115 he116 h
        refine SafeOps.quiet0 E_good rfl rfl rfl (v := V.bool x_115) (.callP rfl rfl (go_life_Legal_sc v5_110 (gt a0_2 v18_111) _ he116) rfl) ?_
        refine SafeOps.quiet0 E_good rfl rfl rfl (v := V.bool (!x_115)) (.fn rfl) ?_
        refine SafeOps.quiet0 E_good rfl rfl rfl (v := V.bool (!x_115)) (.fn rfl) ?_
        refine SafeOps.bjoin 7 34 (b := ((!x_115) || ((v18_111 == 0) && ((gt a0_2 v18_111) != 1)))) (b1 := true) (b0 := ((v18_111 == 0) && ((gt a0_2 v18_111) != 1))) (fun hc117 K => ?_) (fun hc117 K => ?_) bj_or ?_
        · skip
          refine SafeOps.skip (congrArg (fun b => some (!b)) hc117) rfl rfl ?_
          refine SafeOps.skip (congrArg (fun b => some (!b)) hc117) rfl rfl ?_
          refine SafeOps.skip (congrArg (fun b => some (!b)) hc117) rfl rfl ?_
          refine SafeOps.skip rfl rfl rfl ?_
          refine SafeOps.skip rfl rfl rfl ?_
          refine SafeOps.skip (congrArg (fun b => some (!b)) hc117) rfl rfl ?_
          refine SafeOps.quiet0 E_good rfl rfl rfl (v := V.bool true) (.pickK rfl hc117 rfl) ?_
          exact SafeOps.drop' 7 rfl rfl rfl K
        · skip
          refine SafeOps.quiet0 E_good (congrArg (fun b => some (!b)) hc117) rfl rfl (v := V.int .i64 v18_111) (.fn rfl) ?_
          refine SafeOps.quiet0 E_good (congrArg (fun b => some (!b)) hc117) rfl rfl (v := V.bool (v18_111 == 0)) (.fn rfl) ?_
          refine SafeOps.quiet0 E_good (congrArg (fun b => some (!b)) hc117) rfl rfl (v := V.bool (v18_111 == 0)) (.fn rfl) ?_
          refine SafeOps.bjoin 3 33 (b := ((v18_111 == 0) && ((gt a0_2 v18_111) != 1))) (b1 := ((gt a0_2 v18_111) != 1)) (b0 := false) (fun hc118 K => ?_) (fun hc118 K => ?_) bj_and ?_
          · skip
            refine SafeOps.quiet0 E_good (congrArg some hc118) rfl rfl (v := V.int .i64 (gt a0_2 v18_111)) (.fn rfl) ?_
            refine SafeOps.quiet0 E_good (congrArg some hc118) rfl rfl (v := V.bool ((gt a0_2 v18_111) != 1)) (.fn rfl) ?_
            refine SafeOps.quiet0 E_good (congrArg (fun b => some (!b)) hc117) rfl rfl (v := V.bool ((gt a0_2 v18_111) != 1)) (.pickK rfl hc118 rfl) ?_
            exact SafeOps.drop' 3 rfl rfl rfl K
          · skip
            refine SafeOps.skip (congrArg some hc118) rfl rfl ?_
            refine SafeOps.skip (congrArg some hc118) rfl rfl ?_
            refine SafeOps.quiet0 E_good (congrArg (fun b => some (!b)) hc117) rfl rfl (v := V.bool false) (.pickK rfl hc118 rfl) ?_
            exact SafeOps.drop' 3 rfl rfl rfl K
          refine SafeOps.quiet0 E_good rfl rfl rfl (v := V.bool ((v18_111 == 0) && ((gt a0_2 v18_111) != 1))) (.pickK rfl hc117 rfl) ?_
          exact SafeOps.drop' 5 rfl rfl rfl K
        refine SafeOps.nil ?_
        repeat (first | refine Safe.seq ?_ | refine Safe.skip ?_ | with_reducible refine thenQ.n ?_ | with_reducible refine blockQ.n ?_)
        refine ifG h (fun hc119 h => ?_) (fun hc119 h => ?_)
        · skip
          refine Safe.condK rfl hc119 ?_
          repeat (first | refine Safe.seq ?_ | refine Safe.skip ?_ | with_reducible refine thenQ.n ?_ | with_reducible refine blockQ.n ?_)
          refine Safe.region ?_
          refine SafeOps.quiet0 E_good rfl rfl rfl (v := V.int .i64 v18_111) (.fn rfl) ?_
          refine SafeOps.quiet0 E_good rfl rfl rfl (v := V.int .i64 v18_111) (.fn rfl) ?_
          refine SafeOps.quiet0 E_good rfl rfl rfl (v := V.int .i64 0) (.fn rfl) ?_
          refine SafeOps.nil ?_
          repeat (first | refine Safe.seq ?_ | refine Safe.skip ?_ | with_reducible refine thenQ.n ?_ | with_reducible refine blockQ.n ?_)
          refine Safe.ret ?_
          repeat (first | with_reducible refine thenQ.r ?_ | with_reducible refine blockQ.r ?_)
          replace h := inr_out h hr112
          obtain rfl := Option.some.inj h
          exact retQ.gen (vs := [V.int .i64 v18_111, V.int .i64 0]) rfl (.tmp (v := V.int .i64 v18_111) rfl (.tmp (v := V.int .i64 0) rfl .nil)) (.free rfl) (by simp) (.inr rfl)
        · skip
          refine Safe.condN rfl hc119 ?_
          repeat (first | refine Safe.seq ?_ | refine Safe.skip ?_ | with_reducible refine thenQ.n ?_ | with_reducible refine blockQ.n ?_)
          refine Safe.region ?_
          refine SafeOps.quiet0 E_good rfl rfl rfl (v := V.int .i64 (gt a0_2 v18_111)) (.fn rfl) ?_
          refine SafeOps.quiet0 E_good rfl rfl rfl (v := V.int .i64 (gt a0_2 v18_111)) (.fn rfl) ?_
          refine SafeOps.nil ?_
          repeat (first | refine Safe.seq ?_ | refine Safe.skip ?_ | with_reducible refine thenQ.n ?_ | with_reducible refine blockQ.n ?_)
          refine Safe.region ?_
          refine SafeOps.quiet0 E_good rfl rfl rfl (v := V.int .i64 (IntKind.i64.wrap (v18_111 + 1))) (.fn rfl) ?_
          refine SafeOps.quiet0 E_good rfl rfl rfl (v := V.int .i64 (IntKind.i64.wrap (v18_111 + 1))) (.fn rfl) ?_
          refine SafeOps.nil ?_
          repeat (first | refine Safe.seq ?_ | refine Safe.skip ?_ | with_reducible refine thenQ.n ?_ | with_reducible refine blockQ.n ?_)
          exact ⟨_, next_out h, (.cov ⟨rfl, rfl, (upT_cons (.refl _) (upT_cons (.refl _) (upT_cons (.refl _) (upT_cons (.refl _) (upT_cons (.refl _) upT_nil))))), upOb_nil, upOut_nil, rfl⟩)⟩
      · skip
        refine Safe.condN rfl hc113 ?_
        repeat (first | refine Safe.seq ?_ | refine Safe.skip ?_ | with_reducible refine thenQ.n ?_ | with_reducible refine blockQ.n ?_)
        refine Safe.exit ?_
        repeat (first | with_reducible refine thenQ.e ?_ | with_reducible refine blockQ.x rfl ?_ | with_reducible refine blockQ.y rfl ?_)
        replace h := inr_out h hr112
        repeat (first | refine Safe.seq ?_ | refine Safe.skip ?_ | with_reducible refine thenQ.n ?_ | with_reducible refine blockQ.n ?_)
        refine Safe.region ?_
        refine SafeOps.quiet0 E_good rfl rfl rfl (v := V.sl 1 (rws (fun n => [V.int .i64 n]) a0_2)) (.fn rfl) ?_
        refine SafeOps.quiet0 E_good rfl rfl rfl (v := V.int .i64 (a0_2.length : Int)) (.fnE rfl lenE) ?_
        refine SafeOps.quiet0 E_good rfl rfl rfl (v := V.int .i64 (a0_2.length : Int)) (.fn rfl) ?_
        refine SafeOps.quiet0 E_good rfl rfl rfl (v := V.int .i64 0) (.fn rfl) ?_
        refine SafeOps.nil ?_
        repeat (first | refine Safe.seq ?_ | refine Safe.skip ?_ | with_reducible refine thenQ.n ?_ | with_reducible refine blockQ.n ?_)
        refine Safe.ret ?_
        repeat (first | with_reducible refine thenQ.r ?_ | with_reducible refine blockQ.r ?_)
        obtain rfl := Option.some.inj h
        exact retQ.gen (vs := [V.int .i64 (a0_2.length : Int), V.int .i64 0]) rfl (.tmp (v := V.int .i64 (a0_2.length : Int)) rfl (.tmp (v := V.int .i64 0) rfl .nil)) (.free rfl) (by simp) (.inr rfl)

noncomputable def go_ravellaw12_live  : Option Bool :=
  (go_life_Trace [1, 2, 3, 1, 2, 7]).bind fun (x_129, x_130) =>
  if ((x_130 == 0) && (x_129 == 6)) = true then
    (go_life_Legal 3 2).bind fun x_136 =>
    some (!x_136)
  else
    some false

theorem go_ravellaw12_live_sc  (r : Bool) (h : go_ravellaw12_live  = some r) : SC Tryd.prog gl 9 [] (V.bool r) := by
  rw [go_ravellaw12_live] at h
  refine SC.of E_good Tryd.func9 rfl (fun _ _ => Tryd.call9 _ _) rfl ?_
  repeat (first | refine Safe.seq ?_ | refine Safe.skip ?_ | with_reducible refine thenQ.n ?_ | with_reducible refine blockQ.n ?_)
  refine Safe.region ?_
  refine SafeOps.quiet0 E_good rfl rfl rfl (v := V.bool false) (.fn rfl) ?_
  refine SafeOps.nil ?_
  repeat (first | refine Safe.seq ?_ | refine Safe.skip ?_ | with_reducible refine thenQ.n ?_ | with_reducible refine blockQ.n ?_)
  refine Safe.region ?_
  refine SafeOps.quiet1 E_good rfl rfl rfl (.litM (f := (fun n => [V.int .i64 n])) (xs := [1, 2, 3, 1, 2, 7]) rfl rfl (by decide) rfl rfl rfl rfl rfl) rfl ?_
  refine bindG h ?_
  rintro ⟨x_129, x_130⟩ he131 h
  refine SafeOps.quiet0 E_good rfl rfl rfl (v := V.tup [V.int .i64 x_129, V.int .i64 x_130]) (.callS rfl (.cons (.full rfl rfl) .nil) (go_life_Trace_sc [1, 2, 3, 1, 2, 7] _ he131) (.tupL (.cons (.plain rfl) (.cons (.plain rfl) .nil))) rfl) ?_
  refine SafeOps.quiet0 E_good rfl rfl rfl (v := V.tup [V.int .i64 x_129, V.int .i64 x_130]) (.fn rfl) ?_
  refine SafeOps.quiet0 E_good rfl rfl rfl (v := V.int .i64 x_129) (.fn rfl) ?_
  refine SafeOps.quiet0 E_good rfl rfl rfl (v := V.int .i64 x_130) (.fn rfl) ?_
  refine SafeOps.quiet0 E_good rfl rfl rfl (v := V.int .i64 x_129) (.fn rfl) ?_
  refine SafeOps.quiet0 E_good rfl rfl rfl (v := V.int .i64 x_130) (.fn rfl) ?_
  refine SafeOps.nil ?_
  repeat (first | refine Safe.seq ?_ | refine Safe.skip ?_ | with_reducible refine thenQ.n ?_ | with_reducible refine blockQ.n ?_)
  refine Safe.region ?_
  refine SafeOps.quiet0 E_good rfl rfl rfl (v := V.int .i64 x_130) (.fn rfl) ?_
  refine SafeOps.quiet0 E_good rfl rfl rfl (v := V.bool (x_130 == 0)) (.fn rfl) ?_
  refine SafeOps.quiet0 E_good rfl rfl rfl (v := V.bool (x_130 == 0)) (.fn rfl) ?_
  refine SafeOps.bjoin 3 13 (b := ((x_130 == 0) && (x_129 == 6))) (b1 := (x_129 == 6)) (b0 := false) (fun hc132 K => ?_) (fun hc132 K => ?_) bj_and ?_
  · skip
    refine SafeOps.quiet0 E_good (congrArg some hc132) rfl rfl (v := V.int .i64 x_129) (.fn rfl) ?_
    refine SafeOps.quiet0 E_good (congrArg some hc132) rfl rfl (v := V.bool (x_129 == 6)) (.fn rfl) ?_
    refine SafeOps.quiet0 E_good rfl rfl rfl (v := V.bool (x_129 == 6)) (.pickK rfl hc132 rfl) ?_
    exact SafeOps.drop' 3 rfl rfl rfl K
  · skip
    refine SafeOps.skip (congrArg some hc132) rfl rfl ?_
    refine SafeOps.skip (congrArg some hc132) rfl rfl ?_
    refine SafeOps.quiet0 E_good rfl rfl rfl (v := V.bool false) (.pickK rfl hc132 rfl) ?_
    exact SafeOps.drop' 3 rfl rfl rfl K
  refine SafeOps.quiet0 E_good rfl rfl rfl (v := V.bool ((x_130 == 0) && (x_129 == 6))) (.fn rfl) ?_
  refine ifG h (fun hc133 h => ?_) (fun hc133 h => ?_)
  · skip
    refine bindG h ?_
    intro x_136 he137 h
    refine SafeOps.quiet0 E_good (congrArg some hc133) rfl rfl (v := V.bool x_136) (.callP rfl rfl (go_life_Legal_sc 3 2 _ he137) rfl) ?_
    refine SafeOps.quiet0 E_good (congrArg some hc133) rfl rfl (v := V.bool (!x_136)) (.fn rfl) ?_
    refine SafeOps.quiet0 E_good rfl rfl rfl (v := V.bool (!x_136)) (.pickK rfl hc133 rfl) ?_
    refine SafeOps.quiet0 E_good rfl rfl rfl (v := V.bool (!x_136)) (.fn rfl) ?_
    refine SafeOps.nil ?_
    repeat (first | refine Safe.seq ?_ | refine Safe.skip ?_ | with_reducible refine thenQ.n ?_ | with_reducible refine blockQ.n ?_)
    refine Safe.ret ?_
    repeat (first | with_reducible refine thenQ.r ?_ | with_reducible refine blockQ.r ?_)
    obtain rfl := Option.some.inj h
    exact retQ.gen (vs := [V.bool (!x_136)]) rfl (.tmp (v := V.bool (!x_136)) rfl .nil) (.free rfl) (by simp) (.inr rfl)
  · skip
    refine SafeOps.skip (congrArg some hc133) rfl rfl ?_
    refine SafeOps.skip (congrArg some hc133) rfl rfl ?_
    refine SafeOps.quiet0 E_good rfl rfl rfl (v := V.bool false) (.pickK rfl hc133 rfl) ?_
    refine SafeOps.quiet0 E_good rfl rfl rfl (v := V.bool false) (.fn rfl) ?_
    refine SafeOps.nil ?_
    repeat (first | refine Safe.seq ?_ | refine Safe.skip ?_ | with_reducible refine thenQ.n ?_ | with_reducible refine blockQ.n ?_)
    refine Safe.ret ?_
    repeat (first | with_reducible refine thenQ.r ?_ | with_reducible refine blockQ.r ?_)
    obtain rfl := Option.some.inj h
    exact retQ.gen (vs := [V.bool false]) rfl (.tmp (v := V.bool false) rfl .nil) (.free rfl) (by simp) (.inr rfl)

def go_ravelref12_state (a0_151 : Int) : Bool :=
  ((decide (a0_151 ≥ 1)) && (decide (a0_151 ≤ 7)))

theorem go_ravelref12_state_sc (a0_151 : Int) (r : Bool) (h : go_ravelref12_state a0_151 = r) : SC Tryd.prog gl 27 [V.int .i64 a0_151] (V.bool r) := by
  rw [go_ravelref12_state] at h
  refine SC.of E_good Tryd.func27 rfl (fun _ _ => Tryd.call27 _ _) rfl ?_
  repeat (first | refine Safe.seq ?_ | refine Safe.skip ?_ | with_reducible refine thenQ.n ?_ | with_reducible refine blockQ.n ?_)
  refine Safe.region ?_
  refine SafeOps.quiet0 E_good rfl rfl rfl (v := V.bool false) (.fn rfl) ?_
  refine SafeOps.nil ?_
  repeat (first | refine Safe.seq ?_ | refine Safe.skip ?_ | with_reducible refine thenQ.n ?_ | with_reducible refine blockQ.n ?_)
  refine Safe.region ?_
  refine SafeOps.quiet0 E_good rfl rfl rfl (v := V.int .i64 a0_151) (.fn rfl) ?_
  refine SafeOps.quiet0 E_good rfl rfl rfl (v := V.bool (decide (a0_151 ≥ 1))) (.fn rfl) ?_
  refine SafeOps.quiet0 E_good rfl rfl rfl (v := V.bool (decide (a0_151 ≥ 1))) (.fn rfl) ?_
  refine SafeOps.bjoin 3 8 (b := ((decide (a0_151 ≥ 1)) && (decide (a0_151 ≤ 7)))) (b1 := decide (a0_151 ≤ 7)) (b0 := false) (fun hc153 K => ?_) (fun hc153 K => ?_) bj_and ?_
  · skip
    refine SafeOps.quiet0 E_good (congrArg some hc153) rfl rfl (v := V.int .i64 a0_151) (.fn rfl) ?_
    refine SafeOps.quiet0 E_good (congrArg some hc153) rfl rfl (v := V.bool (decide (a0_151 ≤ 7))) (.fn rfl) ?_
    refine SafeOps.quiet0 E_good rfl rfl rfl (v := V.bool (decide (a0_151 ≤ 7))) (.pickK rfl hc153 rfl) ?_
    exact SafeOps.drop' 3 rfl rfl rfl K
  · skip
    refine SafeOps.skip (congrArg some hc153) rfl rfl ?_
    refine SafeOps.skip (congrArg some hc153) rfl rfl ?_
    refine SafeOps.quiet0 E_good rfl rfl rfl (v := V.bool false) (.pickK rfl hc153 rfl) ?_
    exact SafeOps.drop' 3 rfl rfl rfl K
  refine SafeOps.quiet0 E_good rfl rfl rfl (v := V.bool ((decide (a0_151 ≥ 1)) && (decide (a0_151 ≤ 7)))) (.fn rfl) ?_
  refine SafeOps.nil ?_
  repeat (first | refine Safe.seq ?_ | refine Safe.skip ?_ | with_reducible refine thenQ.n ?_ | with_reducible refine blockQ.n ?_)
  refine Safe.ret ?_
  repeat (first | with_reducible refine thenQ.r ?_ | with_reducible refine blockQ.r ?_)
  obtain rfl := h
  exact retQ.gen (vs := [V.bool ((decide (a0_151 ≥ 1)) && (decide (a0_151 ≤ 7)))]) rfl (.tmp (v := V.bool ((decide (a0_151 ≥ 1)) && (decide (a0_151 ≤ 7)))) rfl .nil) (.free rfl) (by simp) (.inr rfl)

def go_ravelref12_Waits (a0_189 : Int) : Bool :=
  ((decide (a0_189 ≥ 3)) && (decide (a0_189 ≤ 6)))

theorem go_ravelref12_Waits_sc (a0_189 : Int) (r : Bool) (h : go_ravelref12_Waits a0_189 = r) : SC Tryd.prog gl 15 [V.int .i64 a0_189] (V.bool r) := by
  rw [go_ravelref12_Waits] at h
  refine SC.of E_good Tryd.func15 rfl (fun _ _ => Tryd.call15 _ _) rfl ?_
  repeat (first | refine Safe.seq ?_ | refine Safe.skip ?_ | with_reducible refine thenQ.n ?_ | with_reducible refine blockQ.n ?_)
  refine Safe.region ?_
  refine SafeOps.quiet0 E_good rfl rfl rfl (v := V.bool false) (.fn rfl) ?_
  refine SafeOps.nil ?_
  repeat (first | refine Safe.seq ?_ | refine Safe.skip ?_ | with_reducible refine thenQ.n ?_ | with_reducible refine blockQ.n ?_)
  refine Safe.region ?_
  refine SafeOps.quiet0 E_good rfl rfl rfl (v := V.int .i64 a0_189) (.fn rfl) ?_
  refine SafeOps.quiet0 E_good rfl rfl rfl (v := V.bool (decide (a0_189 ≥ 3))) (.fn rfl) ?_
  refine SafeOps.quiet0 E_good rfl rfl rfl (v := V.bool (decide (a0_189 ≥ 3))) (.fn rfl) ?_
  refine SafeOps.bjoin 3 8 (b := ((decide (a0_189 ≥ 3)) && (decide (a0_189 ≤ 6)))) (b1 := decide (a0_189 ≤ 6)) (b0 := false) (fun hc191 K => ?_) (fun hc191 K => ?_) bj_and ?_
  · skip
    refine SafeOps.quiet0 E_good (congrArg some hc191) rfl rfl (v := V.int .i64 a0_189) (.fn rfl) ?_
    refine SafeOps.quiet0 E_good (congrArg some hc191) rfl rfl (v := V.bool (decide (a0_189 ≤ 6))) (.fn rfl) ?_
    refine SafeOps.quiet0 E_good rfl rfl rfl (v := V.bool (decide (a0_189 ≤ 6))) (.pickK rfl hc191 rfl) ?_
    exact SafeOps.drop' 3 rfl rfl rfl K
  · skip
    refine SafeOps.skip (congrArg some hc191) rfl rfl ?_
    refine SafeOps.skip (congrArg some hc191) rfl rfl ?_
    refine SafeOps.quiet0 E_good rfl rfl rfl (v := V.bool false) (.pickK rfl hc191 rfl) ?_
    exact SafeOps.drop' 3 rfl rfl rfl K
  refine SafeOps.quiet0 E_good rfl rfl rfl (v := V.bool ((decide (a0_189 ≥ 3)) && (decide (a0_189 ≤ 6)))) (.fn rfl) ?_
  refine SafeOps.nil ?_
  repeat (first | refine Safe.seq ?_ | refine Safe.skip ?_ | with_reducible refine thenQ.n ?_ | with_reducible refine blockQ.n ?_)
  refine Safe.ret ?_
  repeat (first | with_reducible refine thenQ.r ?_ | with_reducible refine blockQ.r ?_)
  obtain rfl := h
  exact retQ.gen (vs := [V.bool ((decide (a0_189 ≥ 3)) && (decide (a0_189 ≤ 6)))]) rfl (.tmp (v := V.bool ((decide (a0_189 ≥ 3)) && (decide (a0_189 ≤ 6)))) rfl .nil) (.free rfl) (by simp) (.inr rfl)

def go_ravelref12_Legal (a0_181 : Int) (a1_182 : Int) : Bool :=
  if ((!(go_ravelref12_state a0_181)) || (!(go_ravelref12_state a1_182))) = true then
    false
  else
    if (a1_182 == 7) = true then
      (a0_181 != 7)
    else
      if (a1_182 == 2) = true then
        (a0_181 == 1)
      else
        if (a1_182 == 1) = true then
          ((a0_181 == 2) || (go_ravelref12_Waits a0_181))
        else
          (a0_181 == 2)

theorem go_ravelref12_Legal_sc (a0_181 : Int) (a1_182 : Int) (r : Bool) (h : go_ravelref12_Legal a0_181 a1_182 = r) : SC Tryd.prog gl 13 [V.int .i64 a0_181, V.int .i64 a1_182] (V.bool r) := by
  rw [go_ravelref12_Legal] at h
  refine SC.of E_good Tryd.func13 rfl (fun _ _ => Tryd.call13 _ _) rfl ?_
  repeat (first | refine Safe.seq ?_ | refine Safe.skip ?_ | with_reducible refine thenQ.n ?_ | with_reducible refine blockQ.n ?_)
  refine Safe.region ?_
  refine SafeOps.quiet0 E_good rfl rfl rfl (v := V.bool false) (.fn rfl) ?_
  refine SafeOps.nil ?_
  repeat (first | refine Safe.seq ?_ | refine Safe.skip ?_ | with_reducible refine thenQ.n ?_ | with_reducible refine blockQ.n ?_)
  refine Safe.region ?_
  refine SafeOps.quiet0 E_good rfl rfl rfl (v := V.int .i64 a0_181) (.fn rfl) ?_
  refine SafeOps.quiet0 E_good rfl rfl rfl (v := V.bool (go_ravelref12_state a0_181)) (.callP rfl rfl (go_ravelref12_state_sc a0_181 _ rfl) rfl) ?_
  refine SafeOps.quiet0 E_good rfl rfl rfl (v := V.bool (!(go_ravelref12_state a0_181))) (.fn rfl) ?_
  refine SafeOps.quiet0 E_good rfl rfl rfl (v := V.bool (!(go_ravelref12_state a0_181))) (.fn rfl) ?_
  refine SafeOps.bjoin 4 12 (b := ((!(go_ravelref12_state a0_181)) || (!(go_ravelref12_state a1_182)))) (b1 := true) (b0 := (!(go_ravelref12_state a1_182))) (fun hc192 K => ?_) (fun hc192 K => ?_) bj_or ?_
  · skip
    refine SafeOps.skip (congrArg (fun b => some (!b)) hc192) rfl rfl ?_
    refine SafeOps.skip (congrArg (fun b => some (!b)) hc192) rfl rfl ?_
    refine SafeOps.skip (congrArg (fun b => some (!b)) hc192) rfl rfl ?_
    refine SafeOps.quiet0 E_good rfl rfl rfl (v := V.bool true) (.pickK rfl hc192 rfl) ?_
    exact SafeOps.drop' 4 rfl rfl rfl K
  · skip
    refine SafeOps.quiet0 E_good (congrArg (fun b => some (!b)) hc192) rfl rfl (v := V.int .i64 a1_182) (.fn rfl) ?_
    refine SafeOps.quiet0 E_good (congrArg (fun b => some (!b)) hc192) rfl rfl (v := V.bool (go_ravelref12_state a1_182)) (.callP rfl rfl (go_ravelref12_state_sc a1_182 _ rfl) rfl) ?_
    refine SafeOps.quiet0 E_good (congrArg (fun b => some (!b)) hc192) rfl rfl (v := V.bool (!(go_ravelref12_state a1_182))) (.fn rfl) ?_
    refine SafeOps.quiet0 E_good rfl rfl rfl (v := V.bool (!(go_ravelref12_state a1_182))) (.pickK rfl hc192 rfl) ?_
    exact SafeOps.drop' 4 rfl rfl rfl K
  refine SafeOps.nil ?_
  repeat (first | refine Safe.seq ?_ | refine Safe.skip ?_ | with_reducible refine thenQ.n ?_ | with_reducible refine blockQ.n ?_)
  refine ifG h (fun hc193 h => ?_) (fun hc193 h => ?_)
  · skip
    refine Safe.condK rfl hc193 ?_
    repeat (first | refine Safe.seq ?_ | refine Safe.skip ?_ | with_reducible refine thenQ.n ?_ | with_reducible refine blockQ.n ?_)
    refine Safe.region ?_
    refine SafeOps.quiet0 E_good rfl rfl rfl (v := V.bool false) (.fn rfl) ?_
    refine SafeOps.nil ?_
    repeat (first | refine Safe.seq ?_ | refine Safe.skip ?_ | with_reducible refine thenQ.n ?_ | with_reducible refine blockQ.n ?_)
    refine Safe.ret ?_
    repeat (first | with_reducible refine thenQ.r ?_ | with_reducible refine blockQ.r ?_)
    obtain rfl := h
    exact retQ.gen (vs := [V.bool false]) rfl (.tmp (v := V.bool false) rfl .nil) (.free rfl) (by simp) (.inr rfl)
  · skip
    refine Safe.condN rfl hc193 ?_
    repeat (first | refine Safe.seq ?_ | refine Safe.skip ?_ | with_reducible refine thenQ.n ?_ | with_reducible refine blockQ.n ?_)
    refine Safe.region ?_
    refine SafeOps.quiet0 E_good rfl rfl rfl (v := V.int .i64 a1_182) (.fn rfl) ?_
    refine SafeOps.quiet0 E_good rfl rfl rfl (v := V.bool (a1_182 == 7)) (.fn rfl) ?_
    refine SafeOps.nil ?_
    repeat (first | refine Safe.seq ?_ | refine Safe.skip ?_ | with_reducible refine thenQ.n ?_ | with_reducible refine blockQ.n ?_)
    refine ifG h (fun hc194 h => ?_) (fun hc194 h => ?_)
    · skip
      refine Safe.condK rfl hc194 ?_
      repeat (first | refine Safe.seq ?_ | refine Safe.skip ?_ | with_reducible refine thenQ.n ?_ | with_reducible refine blockQ.n ?_)
      refine Safe.region ?_
      refine SafeOps.quiet0 E_good rfl rfl rfl (v := V.int .i64 a0_181) (.fn rfl) ?_
      refine SafeOps.quiet0 E_good rfl rfl rfl (v := V.bool (a0_181 != 7)) (.fn rfl) ?_
      refine SafeOps.quiet0 E_good rfl rfl rfl (v := V.bool (a0_181 != 7)) (.fn rfl) ?_
      refine SafeOps.nil ?_
      repeat (first | refine Safe.seq ?_ | refine Safe.skip ?_ | with_reducible refine thenQ.n ?_ | with_reducible refine blockQ.n ?_)
      refine Safe.ret ?_
      repeat (first | with_reducible refine thenQ.r ?_ | with_reducible refine blockQ.r ?_)
      obtain rfl := h
      exact retQ.gen (vs := [V.bool (a0_181 != 7)]) rfl (.tmp (v := V.bool (a0_181 != 7)) rfl .nil) (.free rfl) (by simp) (.inr rfl)
    · skip
      refine Safe.condN rfl hc194 ?_
      repeat (first | refine Safe.seq ?_ | refine Safe.skip ?_ | with_reducible refine thenQ.n ?_ | with_reducible refine blockQ.n ?_)
      refine Safe.region ?_
      refine SafeOps.quiet0 E_good rfl rfl rfl (v := V.int .i64 a1_182) (.fn rfl) ?_
      refine SafeOps.quiet0 E_good rfl rfl rfl (v := V.bool (a1_182 == 2)) (.fn rfl) ?_
      refine SafeOps.nil ?_
      repeat (first | refine Safe.seq ?_ | refine Safe.skip ?_ | with_reducible refine thenQ.n ?_ | with_reducible refine blockQ.n ?_)
      refine ifG h (fun hc195 h => ?_) (fun hc195 h => ?_)
      · skip
        refine Safe.condK rfl hc195 ?_
        repeat (first | refine Safe.seq ?_ | refine Safe.skip ?_ | with_reducible refine thenQ.n ?_ | with_reducible refine blockQ.n ?_)
        refine Safe.region ?_
        refine SafeOps.quiet0 E_good rfl rfl rfl (v := V.int .i64 a0_181) (.fn rfl) ?_
        refine SafeOps.quiet0 E_good rfl rfl rfl (v := V.bool (a0_181 == 1)) (.fn rfl) ?_
        refine SafeOps.quiet0 E_good rfl rfl rfl (v := V.bool (a0_181 == 1)) (.fn rfl) ?_
        refine SafeOps.nil ?_
        repeat (first | refine Safe.seq ?_ | refine Safe.skip ?_ | with_reducible refine thenQ.n ?_ | with_reducible refine blockQ.n ?_)
        refine Safe.ret ?_
        repeat (first | with_reducible refine thenQ.r ?_ | with_reducible refine blockQ.r ?_)
        obtain rfl := h
        exact retQ.gen (vs := [V.bool (a0_181 == 1)]) rfl (.tmp (v := V.bool (a0_181 == 1)) rfl .nil) (.free rfl) (by simp) (.inr rfl)
      · skip
        refine Safe.condN rfl hc195 ?_
        repeat (first | refine Safe.seq ?_ | refine Safe.skip ?_ | with_reducible refine thenQ.n ?_ | with_reducible refine blockQ.n ?_)
        refine Safe.region ?_
        refine SafeOps.quiet0 E_good rfl rfl rfl (v := V.int .i64 a1_182) (.fn rfl) ?_
        refine SafeOps.quiet0 E_good rfl rfl rfl (v := V.bool (a1_182 == 1)) (.fn rfl) ?_
        refine SafeOps.nil ?_
        repeat (first | refine Safe.seq ?_ | refine Safe.skip ?_ | with_reducible refine thenQ.n ?_ | with_reducible refine blockQ.n ?_)
        refine ifG h (fun hc196 h => ?_) (fun hc196 h => ?_)
        · skip
          refine Safe.condK rfl hc196 ?_
          repeat (first | refine Safe.seq ?_ | refine Safe.skip ?_ | with_reducible refine thenQ.n ?_ | with_reducible refine blockQ.n ?_)
          refine Safe.region ?_
          refine SafeOps.quiet0 E_good rfl rfl rfl (v := V.int .i64 a0_181) (.fn rfl) ?_
          refine SafeOps.quiet0 E_good rfl rfl rfl (v := V.bool (a0_181 == 2)) (.fn rfl) ?_
          refine SafeOps.quiet0 E_good rfl rfl rfl (v := V.bool (a0_181 == 2)) (.fn rfl) ?_
          refine SafeOps.bjoin 3 28 (b := ((a0_181 == 2) || (go_ravelref12_Waits a0_181))) (b1 := true) (b0 := go_ravelref12_Waits a0_181) (fun hc197 K => ?_) (fun hc197 K => ?_) bj_or ?_
          · skip
            refine SafeOps.skip (congrArg (fun b => some (!b)) hc197) rfl rfl ?_
            refine SafeOps.skip (congrArg (fun b => some (!b)) hc197) rfl rfl ?_
            refine SafeOps.quiet0 E_good rfl rfl rfl (v := V.bool true) (.pickK rfl hc197 rfl) ?_
            exact SafeOps.drop' 3 rfl rfl rfl K
          · skip
            refine SafeOps.quiet0 E_good (congrArg (fun b => some (!b)) hc197) rfl rfl (v := V.int .i64 a0_181) (.fn rfl) ?_
            refine SafeOps.quiet0 E_good (congrArg (fun b => some (!b)) hc197) rfl rfl (v := V.bool (go_ravelref12_Waits a0_181)) (.callP rfl rfl (go_ravelref12_Waits_sc a0_181 _ rfl) rfl) ?_
            refine SafeOps.quiet0 E_good rfl rfl rfl (v := V.bool (go_ravelref12_Waits a0_181)) (.pickK rfl hc197 rfl) ?_
            exact SafeOps.drop' 3 rfl rfl rfl K
          refine SafeOps.quiet0 E_good rfl rfl rfl (v := V.bool ((a0_181 == 2) || (go_ravelref12_Waits a0_181))) (.fn rfl) ?_
          refine SafeOps.nil ?_
          repeat (first | refine Safe.seq ?_ | refine Safe.skip ?_ | with_reducible refine thenQ.n ?_ | with_reducible refine blockQ.n ?_)
          refine Safe.ret ?_
          repeat (first | with_reducible refine thenQ.r ?_ | with_reducible refine blockQ.r ?_)
          obtain rfl := h
          exact retQ.gen (vs := [V.bool ((a0_181 == 2) || (go_ravelref12_Waits a0_181))]) rfl (.tmp (v := V.bool ((a0_181 == 2) || (go_ravelref12_Waits a0_181))) rfl .nil) (.free rfl) (by simp) (.inr rfl)
        · skip
          refine Safe.condN rfl hc196 ?_
          repeat (first | refine Safe.seq ?_ | refine Safe.skip ?_ | with_reducible refine thenQ.n ?_ | with_reducible refine blockQ.n ?_)
          refine Safe.region ?_
          refine SafeOps.quiet0 E_good rfl rfl rfl (v := V.int .i64 a0_181) (.fn rfl) ?_
          refine SafeOps.quiet0 E_good rfl rfl rfl (v := V.bool (a0_181 == 2)) (.fn rfl) ?_
          refine SafeOps.quiet0 E_good rfl rfl rfl (v := V.bool (a0_181 == 2)) (.fn rfl) ?_
          refine SafeOps.nil ?_
          repeat (first | refine Safe.seq ?_ | refine Safe.skip ?_ | with_reducible refine thenQ.n ?_ | with_reducible refine blockQ.n ?_)
          refine Safe.ret ?_
          repeat (first | with_reducible refine thenQ.r ?_ | with_reducible refine blockQ.r ?_)
          obtain rfl := h
          exact retQ.gen (vs := [V.bool (a0_181 == 2)]) rfl (.tmp (v := V.bool (a0_181 == 2)) rfl .nil) (.free rfl) (by simp) (.inr rfl)

noncomputable def go_ravelref12_Trace_s3 (a0_145 : List Int) : (Int) → Option ((Int) ⊕ (Int × Int))
  | v6_246 =>
    if (decide (v6_246 < (a0_145.length : Int))) = true then
      if 0 ≤ (IntKind.i64.wrap (v6_246 - 1)) ∧ (IntKind.i64.wrap (v6_246 - 1)) < (a0_145.length : Int) then
        if 0 ≤ v6_246 ∧ v6_246 < (a0_145.length : Int) then
          if (!(go_ravelref12_Legal (gt a0_145 (IntKind.i64.wrap (v6_246 - 1))) (gt a0_145 v6_246))) = true then
            inrO (
              some (v6_246, 0))
          else
            nextO (IntKind.i64.wrap (v6_246 + 1))
        else none
      else none
    else
      inrO (
        some ((a0_145.length : Int), 0))

noncomputable def go_ravelref12_Trace_s2 (a0_145 : List Int) : (Int) → Option ((Int) ⊕ (Int × Int))
  | v12_230 =>
    if (decide (v12_230 < (a0_145.length : Int))) = true then
      if 0 ≤ v12_230 ∧ v12_230 < (a0_145.length : Int) then
        if (!(go_ravelref12_state (gt a0_145 v12_230))) = true then
          inrO (
            some (0, 1))
        else
          nextO (IntKind.i64.wrap (v12_230 + 1))
      else none
    else
      inrO (
        if 0 ≤ (0 : Int) ∧ (0 : Int) < (a0_145.length : Int) then
          if ((gt a0_145 0) != 1) = true then
            some (0, 0)
          else
            whileO (go_ravelref12_Trace_s3 a0_145) 1
        else none)

noncomputable def go_ravelref12_Trace (a0_145 : List Int) : Option (Int × Int) :=
  if ((a0_145.length : Int) == 0) = true then
    some (0, 1)
  else
    whileO (go_ravelref12_Trace_s2 a0_145) 0

theorem go_ravelref12_Trace_sc (a0_145 : List Int) (r : Int × Int) (h : go_ravelref12_Trace a0_145 = some r) : SC Tryd.prog gl 11 [V.sl 1 (rws (fun n => [V.int .i64 n]) a0_145)] (V.tup [V.int .i64 r.1, V.int .i64 r.2]) := by
  rw [go_ravelref12_Trace] at h
  refine SC.of E_good Tryd.func11 rfl (fun _ _ => Tryd.call11 _ _) rfl ?_
  repeat (first | refine Safe.seq ?_ | refine Safe.skip ?_ | with_reducible refine thenQ.n ?_ | with_reducible refine blockQ.n ?_)
  refine Safe.region ?_
  refine SafeOps.quiet0 E_good rfl rfl rfl (v := V.int .i64 0) (.fn rfl) ?_
  refine SafeOps.quiet0 E_good rfl rfl rfl (v := V.int .i64 0) (.fn rfl) ?_
  refine SafeOps.nil ?_
  repeat (first | refine Safe.seq ?_ | refine Safe.skip ?_ | with_reducible refine thenQ.n ?_ | with_reducible refine blockQ.n ?_)
  refine Safe.region ?_
  refine SafeOps.quiet0 E_good rfl rfl rfl (v := V.sl 1 (rws (fun n => [V.int .i64 n]) a0_145)) (.fn rfl) ?_
  refine SafeOps.quiet0 E_good rfl rfl rfl (v := V.int .i64 (a0_145.length : Int)) (.fnE rfl lenE) ?_
  refine SafeOps.quiet0 E_good rfl rfl rfl (v := V.bool ((a0_145.length : Int) == 0)) (.fn rfl) ?_
  refine SafeOps.nil ?_
  repeat (first | refine Safe.seq ?_ | refine Safe.skip ?_ | with_reducible refine thenQ.n ?_ | with_reducible refine blockQ.n ?_)
  refine ifG h (fun hc210 h => ?_) (fun hc210 h => ?_)
  · skip
    refine Safe.condK rfl hc210 ?_
    repeat (first | refine Safe.seq ?_ | refine Safe.skip ?_ | with_reducible refine thenQ.n ?_ | with_reducible refine blockQ.n ?_)
    refine Safe.region ?_
    refine SafeOps.quiet0 E_good rfl rfl rfl (v := V.int .i64 0) (.fn rfl) ?_
    refine SafeOps.quiet0 E_good rfl rfl rfl (v := V.int .i64 1) (.fn rfl) ?_
    refine SafeOps.nil ?_
    repeat (first | refine Safe.seq ?_ | refine Safe.skip ?_ | with_reducible refine thenQ.n ?_ | with_reducible refine blockQ.n ?_)
    refine Safe.ret ?_
    repeat (first | with_reducible refine thenQ.r ?_ | with_reducible refine blockQ.r ?_)
    obtain rfl := Option.some.inj h
    exact retQ.gen (vs := [V.int .i64 0, V.int .i64 1]) rfl (.tmp (v := V.int .i64 0) rfl (.tmp (v := V.int .i64 1) rfl .nil)) (.free rfl) (by simp) (.inr rfl)
  · skip
    refine Safe.condN rfl hc210 ?_
    repeat (first | refine Safe.seq ?_ | refine Safe.skip ?_ | with_reducible refine thenQ.n ?_ | with_reducible refine blockQ.n ?_)
    refine Safe.region ?_
    refine SafeOps.quiet0 E_good rfl rfl rfl (v := V.sl 1 (rws (fun n => [V.int .i64 n]) a0_145)) (.fn rfl) ?_
    refine SafeOps.quiet0 E_good rfl rfl rfl (v := V.int .i64 (a0_145.length : Int)) (.fnE rfl lenE) ?_
    refine SafeOps.quiet0 E_good rfl rfl rfl (v := V.int .i64 0) (.fn rfl) ?_
    refine SafeOps.nil ?_
    repeat (first | refine Safe.seq ?_ | refine Safe.skip ?_ | with_reducible refine thenQ.n ?_ | with_reducible refine blockQ.n ?_)
    refine Safe.block ?_
    repeat (first | refine Safe.seq ?_ | refine Safe.skip ?_ | with_reducible refine thenQ.n ?_ | with_reducible refine blockQ.n ?_)
    refine Safe.loopW (fun (v12_230 : Int) => ⟨Tryd.f11.ntmps, [(0, V.sl 1 (rws (fun n => [V.int .i64 n]) a0_145)), (10, V.sl 1 (rws (fun n => [V.int .i64 n]) a0_145)), (11, V.int .i64 (a0_145.length : Int)), (12, V.int .i64 v12_230)], [], [], []⟩) h (.cov ⟨rfl, rfl, (upT_cons (.refl _) (upT_cons (.refl _) (upT_cons (.refl _) (upT_cons (.refl _) upT_nil)))), upOb_nil, upOut_nil, rfl⟩) ?_
    intro v12_230 ohr231 h hr231
    replace h : go_ravelref12_Trace_s2 a0_145 v12_230 = some ohr231 := h
    rw [go_ravelref12_Trace_s2] at h
    repeat (first | refine Safe.seq ?_ | refine Safe.skip ?_ | with_reducible refine thenQ.n ?_ | with_reducible refine blockQ.n ?_)
    refine Safe.region ?_
    refine SafeOps.quiet0 E_good rfl rfl rfl (v := V.bool (decide (v12_230 < (a0_145.length : Int)))) (.fn rfl) ?_
    refine SafeOps.nil ?_
    repeat (first | refine Safe.seq ?_ | refine Safe.skip ?_ | with_reducible refine thenQ.n ?_ | with_reducible refine blockQ.n ?_)
    refine ifG h (fun hc232 h => ?_) (fun hc232 h => ?_)
    · skip
      refine Safe.condK rfl hc232 ?_
      repeat (first | refine Safe.seq ?_ | refine Safe.skip ?_ | with_reducible refine thenQ.n ?_ | with_reducible refine blockQ.n ?_)
      refine Safe.block ?_
      repeat (first | refine Safe.seq ?_ | refine Safe.skip ?_ | with_reducible refine thenQ.n ?_ | with_reducible refine blockQ.n ?_)
      refine Safe.region ?_
      refine okG h (fun hb233 h => ?_)
      refine SafeOps.quiet0 E_good rfl rfl rfl (v := V.spt 1 (rws (fun n => [V.int .i64 n]) a0_145) (Int.toNat v12_230) 0) (.idxSlM (f := (fun n => [V.int .i64 n])) rfl rfl rfl rfl rfl hb233) ?_
      refine SafeOps.quiet0 E_good rfl rfl rfl (v := V.int .i64 (gt a0_145 v12_230)) (.load rfl rfl (.sptM (f := (fun n => [V.int .i64 n])) hb233 rfl) rfl) ?_
      refine SafeOps.quiet0 E_good rfl rfl rfl (v := V.int .i64 (gt a0_145 v12_230)) (.fn rfl) ?_
      refine SafeOps.nil ?_
      repeat (first | refine Safe.seq ?_ | refine Safe.skip ?_ | with_reducible refine thenQ.n ?_ | with_reducible refine blockQ.n ?_)
      refine Safe.region ?_
      refine SafeOps.quiet0 E_good rfl rfl rfl (v := V.int .i64 (gt a0_145 v12_230)) (.fn rfl) ?_
      refine SafeOps.quiet0 E_good rfl rfl rfl (v := V.bool (go_ravelref12_state (gt a0_145 v12_230))) (.callP rfl rfl (go_ravelref12_state_sc (gt a0_145 v12_230) _ rfl) rfl) ?_
      refine SafeOps.quiet0 E_good rfl rfl rfl (v := V.bool (!(go_ravelref12_state (gt a0_145 v12_230)))) (.fn rfl) ?_
      refine SafeOps.nil ?_
      repeat (first | refine Safe.seq ?_ | refine Safe.skip ?_ | with_reducible refine thenQ.n ?_ | with_reducible refine blockQ.n ?_)
      refine ifG h (fun hc234 h => ?_) (fun hc234 h => ?_)
      · skip
        refine Safe.condK rfl hc234 ?_
        repeat (first | refine Safe.seq ?_ | refine Safe.skip ?_ | with_reducible refine thenQ.n ?_ | with_reducible refine blockQ.n ?_)
        refine Safe.region ?_
        refine SafeOps.quiet0 E_good rfl rfl rfl (v := V.int .i64 0) (.fn rfl) ?_
        refine SafeOps.quiet0 E_good rfl rfl rfl (v := V.int .i64 1) (.fn rfl) ?_
        refine SafeOps.nil ?_
        repeat (first | refine Safe.seq ?_ | refine Safe.skip ?_ | with_reducible refine thenQ.n ?_ | with_reducible refine blockQ.n ?_)
        refine Safe.ret ?_
        repeat (first | with_reducible refine thenQ.r ?_ | with_reducible refine blockQ.r ?_)
        replace h := inr_out h hr231
        obtain rfl := Option.some.inj h
        exact retQ.gen (vs := [V.int .i64 0, V.int .i64 1]) rfl (.tmp (v := V.int .i64 0) rfl (.tmp (v := V.int .i64 1) rfl .nil)) (.free rfl) (by simp) (.inr rfl)
      · skip
        refine Safe.condN rfl hc234 ?_
        repeat (first | refine Safe.seq ?_ | refine Safe.skip ?_ | with_reducible refine thenQ.n ?_ | with_reducible refine blockQ.n ?_)
        refine Safe.region ?_
        refine SafeOps.quiet0 E_good rfl rfl rfl (v := V.int .i64 (IntKind.i64.wrap (v12_230 + 1))) (.fn rfl) ?_
        refine SafeOps.quiet0 E_good rfl rfl rfl (v := V.int .i64 (IntKind.i64.wrap (v12_230 + 1))) (.fn rfl) ?_
        refine SafeOps.nil ?_
        repeat (first | refine Safe.seq ?_ | refine Safe.skip ?_ | with_reducible refine thenQ.n ?_ | with_reducible refine blockQ.n ?_)
        exact ⟨_, next_out h, (.cov ⟨rfl, rfl, (upT_cons (.refl _) (upT_cons (.refl _) (upT_cons (.refl _) (upT_cons (.refl _) upT_nil)))), upOb_nil, upOut_nil, rfl⟩)⟩
    · skip
      refine Safe.condN rfl hc232 ?_
      repeat (first | refine Safe.seq ?_ | refine Safe.skip ?_ | with_reducible refine thenQ.n ?_ | with_reducible refine blockQ.n ?_)
      refine Safe.exit ?_
      repeat (first | with_reducible refine thenQ.e ?_ | with_reducible refine blockQ.x rfl ?_ | with_reducible refine blockQ.y rfl ?_)
      replace h := inr_out h hr231
      repeat (first | refine Safe.seq ?_ | refine Safe.skip ?_ | with_reducible refine thenQ.n ?_ | with_reducible refine blockQ.n ?_)
      refine Safe.region ?_
      refine SafeOps.quiet0 E_good rfl rfl rfl (v := V.sl 1 (rws (fun n => [V.int .i64 n]) a0_145)) (.fn rfl) ?_
      refine okG h (fun hb235 h => ?_)
      refine SafeOps.quiet0 E_good rfl rfl rfl (v := V.spt 1 (rws (fun n => [V.int .i64 n]) a0_145) (Int.toNat 0) 0) (.idxSlM (f := (fun n => [V.int .i64 n])) rfl rfl rfl rfl rfl hb235) ?_
      refine SafeOps.quiet0 E_good rfl rfl rfl (v := V.int .i64 (gt a0_145 0)) (.load rfl rfl (.sptM (f := (fun n => [V.int .i64 n])) hb235 rfl) rfl) ?_
      refine SafeOps.quiet0 E_good rfl rfl rfl (v := V.bool ((gt a0_145 0) != 1)) (.fn rfl) ?_
      refine SafeOps.nil ?_
      repeat (first | refine Safe.seq ?_ | refine Safe.skip ?_ | with_reducible refine thenQ.n ?_ | with_reducible refine blockQ.n ?_)
      refine ifG h (fun hc236 h => ?_) (fun hc236 h => ?_)
      · skip
        refine Safe.condK rfl hc236 ?_
        repeat (first | refine Safe.seq ?_ | refine Safe.skip ?_ | with_reducible refine thenQ.n ?_ | with_reducible refine blockQ.n ?_)
        refine Safe.region ?_
        refine SafeOps.quiet0 E_good rfl rfl rfl (v := V.int .i64 0) (.fn rfl) ?_
        refine SafeOps.quiet0 E_good rfl rfl rfl (v := V.int .i64 0) (.fn rfl) ?_
        refine SafeOps.nil ?_
        repeat (first | refine Safe.seq ?_ | refine Safe.skip ?_ | with_reducible refine thenQ.n ?_ | with_reducible refine blockQ.n ?_)
        refine Safe.ret ?_
        repeat (first | with_reducible refine thenQ.r ?_ | with_reducible refine blockQ.r ?_)
        obtain rfl := Option.some.inj h
        exact retQ.gen (vs := [V.int .i64 0, V.int .i64 0]) rfl (.tmp (v := V.int .i64 0) rfl (.tmp (v := V.int .i64 0) rfl .nil)) (.free rfl) (by simp) (.inr rfl)
      · skip
        refine Safe.condN rfl hc236 ?_
        repeat (first | refine Safe.seq ?_ | refine Safe.skip ?_ | with_reducible refine thenQ.n ?_ | with_reducible refine blockQ.n ?_)
        refine Safe.region ?_
        refine SafeOps.quiet0 E_good rfl rfl rfl (v := V.int .i64 1) (.fn rfl) ?_
        refine SafeOps.nil ?_
        repeat (first | refine Safe.seq ?_ | refine Safe.skip ?_ | with_reducible refine thenQ.n ?_ | with_reducible refine blockQ.n ?_)
        refine Safe.block ?_
        repeat (first | refine Safe.seq ?_ | refine Safe.skip ?_ | with_reducible refine thenQ.n ?_ | with_reducible refine blockQ.n ?_)
        refine Safe.loopW (fun (v6_246 : Int) => ⟨Tryd.f11.ntmps, [(0, V.sl 1 (rws (fun n => [V.int .i64 n]) a0_145)), (6, V.int .i64 v6_246)], [], [], []⟩) h (.cov ⟨rfl, rfl, (upT_cons (.refl _) (upT_cons (.refl _) upT_nil)), upOb_nil, upOut_nil, rfl⟩) ?_
        intro v6_246 ohr247 h hr247
        replace h : go_ravelref12_Trace_s3 a0_145 v6_246 = some ohr247 := h
        rw [go_ravelref12_Trace_s3] at h
        repeat (first | refine Safe.seq ?_ | refine Safe.skip ?_ | with_reducible refine thenQ.n ?_ | with_reducible refine blockQ.n ?_)
        refine Safe.region ?_
        refine SafeOps.quiet0 E_good rfl rfl rfl (v := V.int .i64 v6_246) (.fn rfl) ?_
        refine SafeOps.quiet0 E_good rfl rfl rfl (v := V.sl 1 (rws (fun n => [V.int .i64 n]) a0_145)) (.fn rfl) ?_
        refine SafeOps.quiet0 E_good rfl rfl rfl (v := V.int .i64 (a0_145.length : Int)) (.fnE rfl lenE) ?_
        refine SafeOps.quiet0 E_good rfl rfl rfl (v := V.bool (decide (v6_246 < (a0_145.length : Int)))) (.fn rfl) ?_
        refine SafeOps.nil ?_
        repeat (first | refine Safe.seq ?_ | refine Safe.skip ?_ | with_reducible refine thenQ.n ?_ | with_reducible refine blockQ.n ?_)
        refine ifG h (fun hc248 h => ?_) (fun hc248 h => ?_)
        · skip
          refine Safe.condK rfl hc248 ?_
          repeat (first | refine Safe.seq ?_ | refine Safe.skip ?_ | with_reducible refine thenQ.n ?_ | with_reducible refine blockQ.n ?_)
          refine Safe.block ?_
          repeat (first | refine Safe.seq ?_ | refine Safe.skip ?_ | with_reducible refine thenQ.n ?_ | with_reducible refine blockQ.n ?_)
          refine Safe.regionD (n := 11) E_good mixed rfl ?_
          refine DAny.take (i := 0) rfl (by kernel_rfl) (by kernel_rfl) rfl rfl rfl (v := V.sl 1 (rws (fun n => [V.int .i64 n]) a0_145)) (.fn rfl) ?_
          refine DAny.take (i := 1) rfl (by kernel_rfl) (by kernel_rfl) rfl rfl rfl (v := V.int .i64 v6_246) (.fn rfl) ?_
          refine DAny.take (i := 2) rfl (by kernel_rfl) (by kernel_rfl) rfl rfl rfl (v := V.int .i64 (IntKind.i64.wrap (v6_246 - 1))) (.fn rfl) ?_
          refine okG h (fun hb249 h => ?_)
          refine DAny.take (i := 3) rfl (by kernel_rfl) (by kernel_rfl) rfl rfl rfl (v := V.spt 1 (rws (fun n => [V.int .i64 n]) a0_145) (Int.toNat (IntKind.i64.wrap (v6_246 - 1))) 0) (.idxSlM (f := (fun n => [V.int .i64 n])) rfl rfl rfl rfl rfl hb249) ?_
          refine DAny.take (i := 4) rfl (by kernel_rfl) (by kernel_rfl) rfl rfl rfl (v := V.int .i64 (gt a0_145 (IntKind.i64.wrap (v6_246 - 1)))) (.load rfl rfl (.sptM (f := (fun n => [V.int .i64 n])) hb249 rfl) rfl) ?_
          refine DAny.take (i := 5) rfl (by kernel_rfl) (by kernel_rfl) rfl rfl rfl (v := V.sl 1 (rws (fun n => [V.int .i64 n]) a0_145)) (.fn rfl) ?_
          refine DAny.take (i := 6) rfl (by kernel_rfl) (by kernel_rfl) rfl rfl rfl (v := V.int .i64 v6_246) (.fn rfl) ?_
          refine okG h (fun hb250 h => ?_)
          refine DAny.take (i := 7) rfl (by kernel_rfl) (by kernel_rfl) rfl rfl rfl (v := V.spt 1 (rws (fun n => [V.int .i64 n]) a0_145) (Int.toNat v6_246) 0) (.idxSlM (f := (fun n => [V.int .i64 n])) rfl rfl rfl rfl rfl hb250) ?_
          refine DAny.take (i := 8) rfl (by kernel_rfl) (by kernel_rfl) rfl rfl rfl (v := V.int .i64 (gt a0_145 v6_246)) (.load rfl rfl (.sptM (f := (fun n => [V.int .i64 n])) hb250 rfl) rfl) ?_
          refine DAny.take (i := 9) rfl (by kernel_rfl) (by kernel_rfl) rfl rfl rfl (v := V.bool (go_ravelref12_Legal (gt a0_145 (IntKind.i64.wrap (v6_246 - 1))) (gt a0_145 v6_246))) (.callP rfl rfl (go_ravelref12_Legal_sc (gt a0_145 (IntKind.i64.wrap (v6_246 - 1))) (gt a0_145 v6_246) _ rfl) rfl) ?_
          refine DAny.take (i := 10) rfl (by kernel_rfl) (by kernel_rfl) rfl rfl rfl (v := V.bool (!(go_ravelref12_Legal (gt a0_145 (IntKind.i64.wrap (v6_246 - 1))) (gt a0_145 v6_246)))) (.fn rfl) ?_
          refine DAny.nil (by kernel_rfl) ?_
          repeat (first | refine Safe.seq ?_ | refine Safe.skip ?_ | with_reducible refine thenQ.n ?_ | with_reducible refine blockQ.n ?_)
          refine ifG h (fun hc251 h => ?_) (fun hc251 h => ?_)
          · skip
            refine Safe.condK rfl hc251 ?_
            repeat (first | refine Safe.seq ?_ | refine Safe.skip ?_ | with_reducible refine thenQ.n ?_ | with_reducible refine blockQ.n ?_)
            refine Safe.region ?_
            refine SafeOps.quiet0 E_good rfl rfl rfl (v := V.int .i64 v6_246) (.fn rfl) ?_
            refine SafeOps.quiet0 E_good rfl rfl rfl (v := V.int .i64 v6_246) (.fn rfl) ?_
            refine SafeOps.quiet0 E_good rfl rfl rfl (v := V.int .i64 0) (.fn rfl) ?_
            refine SafeOps.nil ?_
            repeat (first | refine Safe.seq ?_ | refine Safe.skip ?_ | with_reducible refine thenQ.n ?_ | with_reducible refine blockQ.n ?_)
            refine Safe.ret ?_
            repeat (first | with_reducible refine thenQ.r ?_ | with_reducible refine blockQ.r ?_)
            replace h := inr_out h hr247
            obtain rfl := Option.some.inj h
            exact retQ.gen (vs := [V.int .i64 v6_246, V.int .i64 0]) rfl (.tmp (v := V.int .i64 v6_246) rfl (.tmp (v := V.int .i64 0) rfl .nil)) (.free rfl) (by simp) (.inr rfl)
          · skip
            refine Safe.condN rfl hc251 ?_
            repeat (first | refine Safe.seq ?_ | refine Safe.skip ?_ | with_reducible refine thenQ.n ?_ | with_reducible refine blockQ.n ?_)
            refine Safe.region ?_
            refine SafeOps.quiet0 E_good rfl rfl rfl (v := V.int .i64 v6_246) (.fn rfl) ?_
            refine SafeOps.quiet0 E_good rfl rfl rfl (v := V.int .i64 (IntKind.i64.wrap (v6_246 + 1))) (.fn rfl) ?_
            refine SafeOps.quiet0 E_good rfl rfl rfl (v := V.int .i64 (IntKind.i64.wrap (v6_246 + 1))) (.fn rfl) ?_
            refine SafeOps.nil ?_
            repeat (first | refine Safe.seq ?_ | refine Safe.skip ?_ | with_reducible refine thenQ.n ?_ | with_reducible refine blockQ.n ?_)
            exact ⟨_, next_out h, (.cov ⟨rfl, rfl, (upT_cons (.refl _) (upT_cons (.refl _) upT_nil)), upOb_nil, upOut_nil, rfl⟩)⟩
        · skip
          refine Safe.condN rfl hc248 ?_
          repeat (first | refine Safe.seq ?_ | refine Safe.skip ?_ | with_reducible refine thenQ.n ?_ | with_reducible refine blockQ.n ?_)
          refine Safe.exit ?_
          repeat (first | with_reducible refine thenQ.e ?_ | with_reducible refine blockQ.x rfl ?_ | with_reducible refine blockQ.y rfl ?_)
          replace h := inr_out h hr247
          repeat (first | refine Safe.seq ?_ | refine Safe.skip ?_ | with_reducible refine thenQ.n ?_ | with_reducible refine blockQ.n ?_)
          refine Safe.region ?_
          refine SafeOps.quiet0 E_good rfl rfl rfl (v := V.sl 1 (rws (fun n => [V.int .i64 n]) a0_145)) (.fn rfl) ?_
          refine SafeOps.quiet0 E_good rfl rfl rfl (v := V.int .i64 (a0_145.length : Int)) (.fnE rfl lenE) ?_
          refine SafeOps.quiet0 E_good rfl rfl rfl (v := V.int .i64 (a0_145.length : Int)) (.fn rfl) ?_
          refine SafeOps.quiet0 E_good rfl rfl rfl (v := V.int .i64 0) (.fn rfl) ?_
          refine SafeOps.nil ?_
          repeat (first | refine Safe.seq ?_ | refine Safe.skip ?_ | with_reducible refine thenQ.n ?_ | with_reducible refine blockQ.n ?_)
          refine Safe.ret ?_
          repeat (first | with_reducible refine thenQ.r ?_ | with_reducible refine blockQ.r ?_)
          obtain rfl := Option.some.inj h
          exact retQ.gen (vs := [V.int .i64 (a0_145.length : Int), V.int .i64 0]) rfl (.tmp (v := V.int .i64 (a0_145.length : Int)) rfl (.tmp (v := V.int .i64 0) rfl .nil)) (.free rfl) (by simp) (.inr rfl)

noncomputable def go_ravellaw12_LifeTraces (a0_1 : List Int) : Option Bool :=
  (go_ravellaw12_live).bind fun x_257 =>
  if (!x_257) = true then
    some false
  else
    if (decide ((a0_1.length : Int) > 300)) = true then
      some x_257
    else
      (go_life_Trace a0_1).bind fun (x_261, x_262) =>
      (go_ravelref12_Trace a0_1).bind fun (x_264, x_265) =>
      some ((x_257 && (x_261 == x_264)) && (x_262 == x_265))

theorem go_ravellaw12_LifeTraces_sc (a0_1 : List Int) (r : Bool) (h : go_ravellaw12_LifeTraces a0_1 = some r) : SC Tryd.prog gl 3 [V.sl 1 (rws (fun n => [V.int .i64 n]) a0_1)] (V.bool r) := by
  rw [go_ravellaw12_LifeTraces] at h
  refine SC.of E_good Tryd.func3 rfl (fun _ _ => Tryd.call3 _ _) rfl ?_
  repeat (first | refine Safe.seq ?_ | refine Safe.skip ?_ | with_reducible refine thenQ.n ?_ | with_reducible refine blockQ.n ?_)
  refine Safe.region ?_
  refine SafeOps.quiet0 E_good rfl rfl rfl (v := V.bool false) (.fn rfl) ?_
  refine SafeOps.nil ?_
  repeat (first | refine Safe.seq ?_ | refine Safe.skip ?_ | with_reducible refine thenQ.n ?_ | with_reducible refine blockQ.n ?_)
  refine Safe.region ?_
  refine bindG h ?_
  intro x_257 he258 h
  refine SafeOps.quiet0 E_good rfl rfl rfl (v := V.bool x_257) (.callP rfl rfl (go_ravellaw12_live_sc  _ he258) rfl) ?_
  refine SafeOps.quiet0 E_good rfl rfl rfl (v := V.bool x_257) (.fn rfl) ?_
  refine SafeOps.nil ?_
  repeat (first | refine Safe.seq ?_ | refine Safe.skip ?_ | with_reducible refine thenQ.n ?_ | with_reducible refine blockQ.n ?_)
  refine Safe.region ?_
  refine SafeOps.quiet0 E_good rfl rfl rfl (v := V.bool x_257) (.fn rfl) ?_
  refine SafeOps.quiet0 E_good rfl rfl rfl (v := V.bool (!x_257)) (.fn rfl) ?_
  refine SafeOps.nil ?_
  repeat (first | refine Safe.seq ?_ | refine Safe.skip ?_ | with_reducible refine thenQ.n ?_ | with_reducible refine blockQ.n ?_)
  refine ifG h (fun hc259 h => ?_) (fun hc259 h => ?_)
  · skip
    refine Safe.condK rfl hc259 ?_
    repeat (first | refine Safe.seq ?_ | refine Safe.skip ?_ | with_reducible refine thenQ.n ?_ | with_reducible refine blockQ.n ?_)
    refine Safe.region ?_
    refine SafeOps.quiet0 E_good rfl rfl rfl (v := V.bool false) (.fn rfl) ?_
    refine SafeOps.nil ?_
    repeat (first | refine Safe.seq ?_ | refine Safe.skip ?_ | with_reducible refine thenQ.n ?_ | with_reducible refine blockQ.n ?_)
    refine Safe.ret ?_
    repeat (first | with_reducible refine thenQ.r ?_ | with_reducible refine blockQ.r ?_)
    obtain rfl := Option.some.inj h
    exact retQ.gen (vs := [V.bool false]) rfl (.tmp (v := V.bool false) rfl .nil) (.free rfl) (by simp) (.inr rfl)
  · skip
    refine Safe.condN rfl hc259 ?_
    repeat (first | refine Safe.seq ?_ | refine Safe.skip ?_ | with_reducible refine thenQ.n ?_ | with_reducible refine blockQ.n ?_)
    refine Safe.region ?_
    refine SafeOps.quiet0 E_good rfl rfl rfl (v := V.sl 1 (rws (fun n => [V.int .i64 n]) a0_1)) (.fn rfl) ?_
    refine SafeOps.quiet0 E_good rfl rfl rfl (v := V.int .i64 (a0_1.length : Int)) (.fnE rfl lenE) ?_
    refine SafeOps.quiet0 E_good rfl rfl rfl (v := V.bool (decide ((a0_1.length : Int) > 300))) (.fn rfl) ?_
    refine SafeOps.nil ?_
    repeat (first | refine Safe.seq ?_ | refine Safe.skip ?_ | with_reducible refine thenQ.n ?_ | with_reducible refine blockQ.n ?_)
    refine ifG h (fun hc260 h => ?_) (fun hc260 h => ?_)
    · skip
      refine Safe.condK rfl hc260 ?_
      repeat (first | refine Safe.seq ?_ | refine Safe.skip ?_ | with_reducible refine thenQ.n ?_ | with_reducible refine blockQ.n ?_)
      refine Safe.region ?_
      refine SafeOps.quiet0 E_good rfl rfl rfl (v := V.bool x_257) (.fn rfl) ?_
      refine SafeOps.quiet0 E_good rfl rfl rfl (v := V.bool x_257) (.fn rfl) ?_
      refine SafeOps.nil ?_
      repeat (first | refine Safe.seq ?_ | refine Safe.skip ?_ | with_reducible refine thenQ.n ?_ | with_reducible refine blockQ.n ?_)
      refine Safe.ret ?_
      repeat (first | with_reducible refine thenQ.r ?_ | with_reducible refine blockQ.r ?_)
      obtain rfl := Option.some.inj h
      exact retQ.gen (vs := [V.bool x_257]) rfl (.tmp (v := V.bool x_257) rfl .nil) (.free rfl) (by simp) (.inr rfl)
    · skip
      refine Safe.condN rfl hc260 ?_
      repeat (first | refine Safe.seq ?_ | refine Safe.skip ?_ | with_reducible refine thenQ.n ?_ | with_reducible refine blockQ.n ?_)
      refine Safe.region ?_
      refine SafeOps.quiet0 E_good rfl rfl rfl (v := V.sl 1 (rws (fun n => [V.int .i64 n]) a0_1)) (.fn rfl) ?_
      refine bindG h ?_
      rintro ⟨x_261, x_262⟩ he263 h
      refine SafeOps.quiet0 E_good rfl rfl rfl (v := V.tup [V.int .i64 x_261, V.int .i64 x_262]) (.callP rfl rfl (go_life_Trace_sc a0_1 _ he263) rfl) ?_
      refine SafeOps.quiet0 E_good rfl rfl rfl (v := V.tup [V.int .i64 x_261, V.int .i64 x_262]) (.fn rfl) ?_
      refine SafeOps.quiet0 E_good rfl rfl rfl (v := V.int .i64 x_261) (.fn rfl) ?_
      refine SafeOps.quiet0 E_good rfl rfl rfl (v := V.int .i64 x_262) (.fn rfl) ?_
      refine SafeOps.quiet0 E_good rfl rfl rfl (v := V.int .i64 x_261) (.fn rfl) ?_
      refine SafeOps.quiet0 E_good rfl rfl rfl (v := V.int .i64 x_262) (.fn rfl) ?_
      refine SafeOps.nil ?_
      repeat (first | refine Safe.seq ?_ | refine Safe.skip ?_ | with_reducible refine thenQ.n ?_ | with_reducible refine blockQ.n ?_)
      refine Safe.region ?_
      refine SafeOps.quiet0 E_good rfl rfl rfl (v := V.sl 1 (rws (fun n => [V.int .i64 n]) a0_1)) (.fn rfl) ?_
      refine bindG h ?_
      rintro ⟨x_264, x_265⟩ he266 h
      refine SafeOps.quiet0 E_good rfl rfl rfl (v := V.tup [V.int .i64 x_264, V.int .i64 x_265]) (.callP rfl rfl (go_ravelref12_Trace_sc a0_1 _ he266) rfl) ?_
      refine SafeOps.quiet0 E_good rfl rfl rfl (v := V.tup [V.int .i64 x_264, V.int .i64 x_265]) (.fn rfl) ?_
      refine SafeOps.quiet0 E_good rfl rfl rfl (v := V.int .i64 x_264) (.fn rfl) ?_
      refine SafeOps.quiet0 E_good rfl rfl rfl (v := V.int .i64 x_265) (.fn rfl) ?_
      refine SafeOps.quiet0 E_good rfl rfl rfl (v := V.int .i64 x_264) (.fn rfl) ?_
      refine SafeOps.quiet0 E_good rfl rfl rfl (v := V.int .i64 x_265) (.fn rfl) ?_
      refine SafeOps.nil ?_
      repeat (first | refine Safe.seq ?_ | refine Safe.skip ?_ | with_reducible refine thenQ.n ?_ | with_reducible refine blockQ.n ?_)
      refine Safe.region ?_
      refine SafeOps.quiet0 E_good rfl rfl rfl (v := V.bool x_257) (.fn rfl) ?_
      refine SafeOps.quiet0 E_good rfl rfl rfl (v := V.bool x_257) (.fn rfl) ?_
      refine SafeOps.bjoin 4 30 (b := (x_257 && (x_261 == x_264))) (b1 := (x_261 == x_264)) (b0 := false) (fun hc267 K => ?_) (fun hc267 K => ?_) bj_and ?_
      · skip
        refine SafeOps.quiet0 E_good (congrArg some hc267) rfl rfl (v := V.int .i64 x_261) (.fn rfl) ?_
        refine SafeOps.quiet0 E_good (congrArg some hc267) rfl rfl (v := V.int .i64 x_264) (.fn rfl) ?_
        refine SafeOps.quiet0 E_good (congrArg some hc267) rfl rfl (v := V.bool (x_261 == x_264)) (.fn rfl) ?_
        refine SafeOps.quiet0 E_good rfl rfl rfl (v := V.bool (x_261 == x_264)) (.pickK rfl hc267 rfl) ?_
        exact SafeOps.drop' 4 rfl rfl rfl K
      · skip
        refine SafeOps.skip (congrArg some hc267) rfl rfl ?_
        refine SafeOps.skip (congrArg some hc267) rfl rfl ?_
        refine SafeOps.skip (congrArg some hc267) rfl rfl ?_
        refine SafeOps.quiet0 E_good rfl rfl rfl (v := V.bool false) (.pickK rfl hc267 rfl) ?_
        exact SafeOps.drop' 4 rfl rfl rfl K
      refine SafeOps.quiet0 E_good rfl rfl rfl (v := V.bool (x_257 && (x_261 == x_264))) (.fn rfl) ?_
      refine SafeOps.bjoin 4 35 (b := ((x_257 && (x_261 == x_264)) && (x_262 == x_265))) (b1 := (x_262 == x_265)) (b0 := false) (fun hc268 K => ?_) (fun hc268 K => ?_) bj_and ?_
      · skip
        refine SafeOps.quiet0 E_good (congrArg some hc268) rfl rfl (v := V.int .i64 x_262) (.fn rfl) ?_
        refine SafeOps.quiet0 E_good (congrArg some hc268) rfl rfl (v := V.int .i64 x_265) (.fn rfl) ?_
        refine SafeOps.quiet0 E_good (congrArg some hc268) rfl rfl (v := V.bool (x_262 == x_265)) (.fn rfl) ?_
        refine SafeOps.quiet0 E_good rfl rfl rfl (v := V.bool (x_262 == x_265)) (.pickK rfl hc268 rfl) ?_
        exact SafeOps.drop' 4 rfl rfl rfl K
      · skip
        refine SafeOps.skip (congrArg some hc268) rfl rfl ?_
        refine SafeOps.skip (congrArg some hc268) rfl rfl ?_
        refine SafeOps.skip (congrArg some hc268) rfl rfl ?_
        refine SafeOps.quiet0 E_good rfl rfl rfl (v := V.bool false) (.pickK rfl hc268 rfl) ?_
        exact SafeOps.drop' 4 rfl rfl rfl K
      refine SafeOps.quiet0 E_good rfl rfl rfl (v := V.bool ((x_257 && (x_261 == x_264)) && (x_262 == x_265))) (.fn rfl) ?_
      refine SafeOps.nil ?_
      repeat (first | refine Safe.seq ?_ | refine Safe.skip ?_ | with_reducible refine thenQ.n ?_ | with_reducible refine blockQ.n ?_)
      refine Safe.ret ?_
      repeat (first | with_reducible refine thenQ.r ?_ | with_reducible refine blockQ.r ?_)
      obtain rfl := Option.some.inj h
      exact retQ.gen (vs := [V.bool ((x_257 && (x_261 == x_264)) && (x_262 == x_265))]) rfl (.tmp (v := V.bool ((x_257 && (x_261 == x_264)) && (x_262 == x_265))) rfl .nil) (.free rfl) (by simp) (.inr rfl)

noncomputable def go_ravellaw12_LifeTrace_j3 (x_356 : Int) (x_410 : Int) (b_425 : Bool) : Option Bool :=
  some (b_425 && (decide (x_410 ≥ x_356)))

noncomputable def go_ravellaw12_LifeTrace_s2 (a0_269 : List Int) (a1_270 : Int) (x_351 : Bool) (x_356 : Int) : (Int) → Option ((Int) ⊕ (Bool))
  | v8_399 =>
    if (decide (v8_399 ≤ (a0_269.length : Int))) = true then
      if 0 ≤ v8_399 ∧ v8_399 ≤ (a0_269.length : Int) then
        (go_life_Trace (sub a0_269 0 v8_399)).bind fun (x_403, x_404) =>
        if ((x_404 != 0) || (x_403 != (if v8_399 < x_356 then v8_399 else x_356))) = true then
          inrO (
            some false)
        else
          nextO (IntKind.i64.wrap (v8_399 + 1))
      else none
    else
      inrO (
        if few ([] ++ a0_269).length then
          if few (([] ++ a0_269) ++ [a1_270]).length then
            (go_life_Trace (([] ++ a0_269) ++ [a1_270])).bind fun (x_410, x_411) =>
            if (x_411 != 0) = true then
              some (x_351 && ((decide (a1_270 < 1)) || (decide (a1_270 > 7))))
            else
              if (decide (x_356 < (a0_269.length : Int))) = true then
                some (x_351 && (x_410 == x_356))
              else
                if x_351 = true then
                  if 0 ≤ (IntKind.i64.wrap (x_356 - 1)) ∧ (IntKind.i64.wrap (x_356 - 1)) < (a0_269.length : Int) then
                    (go_life_Legal (gt a0_269 (IntKind.i64.wrap (x_356 - 1))) a1_270).bind fun x_429 =>
                    go_ravellaw12_LifeTrace_j3 x_356 x_410 ((x_410 == (IntKind.i64.wrap (x_356 + 1))) == x_429)
                  else none
                else
                  go_ravellaw12_LifeTrace_j3 x_356 x_410 false
          else none
        else none)

noncomputable def go_ravellaw12_LifeTrace (a0_269 : List Int) (a1_270 : Int) : Option Bool :=
  (go_ravellaw12_live).bind fun x_351 =>
  if (!x_351) = true then
    some false
  else
    if ((decide ((a0_269.length : Int) < 1)) || (decide ((a0_269.length : Int) > 100))) = true then
      some x_351
    else
      (go_life_Trace a0_269).bind fun (x_356, x_357) =>
      if (x_357 != 0) = true then
        some x_351
      else
        whileO (go_ravellaw12_LifeTrace_s2 a0_269 a1_270 x_351 x_356) 1

theorem go_ravellaw12_LifeTrace_sc (a0_269 : List Int) (a1_270 : Int) (r : Bool) (h : go_ravellaw12_LifeTrace a0_269 a1_270 = some r) : SC Tryd.prog gl 4 [V.sl 1 (rws (fun n => [V.int .i64 n]) a0_269), V.int .i64 a1_270] (V.bool r) := by
  rw [go_ravellaw12_LifeTrace] at h
  refine SC.of E_good Tryd.func4 rfl (fun _ _ => Tryd.call4 _ _) rfl ?_
  repeat (first | refine Safe.seq ?_ | refine Safe.skip ?_ | with_reducible refine thenQ.n ?_ | with_reducible refine blockQ.n ?_)
  refine Safe.region ?_
  refine SafeOps.quiet0 E_good rfl rfl rfl (v := V.bool false) (.fn rfl) ?_
  refine SafeOps.nil ?_
  repeat (first | refine Safe.seq ?_ | refine Safe.skip ?_ | with_reducible refine thenQ.n ?_ | with_reducible refine blockQ.n ?_)
  refine Safe.region ?_
  refine bindG h ?_
  intro x_351 he352 h
  refine SafeOps.quiet0 E_good rfl rfl rfl (v := V.bool x_351) (.callP rfl rfl (go_ravellaw12_live_sc  _ he352) rfl) ?_
  refine SafeOps.quiet0 E_good rfl rfl rfl (v := V.bool x_351) (.fn rfl) ?_
  refine SafeOps.nil ?_
  repeat (first | refine Safe.seq ?_ | refine Safe.skip ?_ | with_reducible refine thenQ.n ?_ | with_reducible refine blockQ.n ?_)
  refine Safe.region ?_
  refine SafeOps.quiet0 E_good rfl rfl rfl (v := V.bool x_351) (.fn rfl) ?_
  refine SafeOps.quiet0 E_good rfl rfl rfl (v := V.bool (!x_351)) (.fn rfl) ?_
  refine SafeOps.nil ?_
  repeat (first | refine Safe.seq ?_ | refine Safe.skip ?_ | with_reducible refine thenQ.n ?_ | with_reducible refine blockQ.n ?_)
  refine ifG h (fun hc353 h => ?_) (fun hc353 h => ?_)
  · skip
    refine Safe.condK rfl hc353 ?_
    repeat (first | refine Safe.seq ?_ | refine Safe.skip ?_ | with_reducible refine thenQ.n ?_ | with_reducible refine blockQ.n ?_)
    refine Safe.region ?_
    refine SafeOps.quiet0 E_good rfl rfl rfl (v := V.bool false) (.fn rfl) ?_
    refine SafeOps.nil ?_
    repeat (first | refine Safe.seq ?_ | refine Safe.skip ?_ | with_reducible refine thenQ.n ?_ | with_reducible refine blockQ.n ?_)
    refine Safe.ret ?_
    repeat (first | with_reducible refine thenQ.r ?_ | with_reducible refine blockQ.r ?_)
    obtain rfl := Option.some.inj h
    exact retQ.gen (vs := [V.bool false]) rfl (.tmp (v := V.bool false) rfl .nil) (.free rfl) (by simp) (.inr rfl)
  · skip
    refine Safe.condN rfl hc353 ?_
    repeat (first | refine Safe.seq ?_ | refine Safe.skip ?_ | with_reducible refine thenQ.n ?_ | with_reducible refine blockQ.n ?_)
    refine Safe.region ?_
    refine SafeOps.quiet0 E_good rfl rfl rfl (v := V.sl 1 (rws (fun n => [V.int .i64 n]) a0_269)) (.fn rfl) ?_
    refine SafeOps.quiet0 E_good rfl rfl rfl (v := V.int .i64 (a0_269.length : Int)) (.fnE rfl lenE) ?_
    refine SafeOps.quiet0 E_good rfl rfl rfl (v := V.bool (decide ((a0_269.length : Int) < 1))) (.fn rfl) ?_
    refine SafeOps.quiet0 E_good rfl rfl rfl (v := V.bool (decide ((a0_269.length : Int) < 1))) (.fn rfl) ?_
    refine SafeOps.bjoin 4 23 (b := ((decide ((a0_269.length : Int) < 1)) || (decide ((a0_269.length : Int) > 100)))) (b1 := true) (b0 := decide ((a0_269.length : Int) > 100)) (fun hc354 K => ?_) (fun hc354 K => ?_) bj_or ?_
    · skip
      refine SafeOps.skip (congrArg (fun b => some (!b)) hc354) rfl rfl ?_
      refine SafeOps.skip (congrArg (fun b => some (!b)) hc354) rfl rfl ?_
      refine SafeOps.skip (congrArg (fun b => some (!b)) hc354) rfl rfl ?_
      refine SafeOps.quiet0 E_good rfl rfl rfl (v := V.bool true) (.pickK rfl hc354 rfl) ?_
      exact SafeOps.drop' 4 rfl rfl rfl K
    · skip
      refine SafeOps.quiet0 E_good (congrArg (fun b => some (!b)) hc354) rfl rfl (v := V.sl 1 (rws (fun n => [V.int .i64 n]) a0_269)) (.fn rfl) ?_
      refine SafeOps.quiet0 E_good (congrArg (fun b => some (!b)) hc354) rfl rfl (v := V.int .i64 (a0_269.length : Int)) (.fnE rfl lenE) ?_
      refine SafeOps.quiet0 E_good (congrArg (fun b => some (!b)) hc354) rfl rfl (v := V.bool (decide ((a0_269.length : Int) > 100))) (.fn rfl) ?_
      refine SafeOps.quiet0 E_good rfl rfl rfl (v := V.bool (decide ((a0_269.length : Int) > 100))) (.pickK rfl hc354 rfl) ?_
      exact SafeOps.drop' 4 rfl rfl rfl K
    refine SafeOps.nil ?_
    repeat (first | refine Safe.seq ?_ | refine Safe.skip ?_ | with_reducible refine thenQ.n ?_ | with_reducible refine blockQ.n ?_)
    refine ifG h (fun hc355 h => ?_) (fun hc355 h => ?_)
    · skip
      refine Safe.condK rfl hc355 ?_
      repeat (first | refine Safe.seq ?_ | refine Safe.skip ?_ | with_reducible refine thenQ.n ?_ | with_reducible refine blockQ.n ?_)
      refine Safe.region ?_
      refine SafeOps.quiet0 E_good rfl rfl rfl (v := V.bool x_351) (.fn rfl) ?_
      refine SafeOps.quiet0 E_good rfl rfl rfl (v := V.bool x_351) (.fn rfl) ?_
      refine SafeOps.nil ?_
      repeat (first | refine Safe.seq ?_ | refine Safe.skip ?_ | with_reducible refine thenQ.n ?_ | with_reducible refine blockQ.n ?_)
      refine Safe.ret ?_
      repeat (first | with_reducible refine thenQ.r ?_ | with_reducible refine blockQ.r ?_)
      obtain rfl := Option.some.inj h
      exact retQ.gen (vs := [V.bool x_351]) rfl (.tmp (v := V.bool x_351) rfl .nil) (.free rfl) (by simp) (.inr rfl)
    · skip
      refine Safe.condN rfl hc355 ?_
      repeat (first | refine Safe.seq ?_ | refine Safe.skip ?_ | with_reducible refine thenQ.n ?_ | with_reducible refine blockQ.n ?_)
      refine Safe.region ?_
      refine SafeOps.quiet0 E_good rfl rfl rfl (v := V.sl 1 (rws (fun n => [V.int .i64 n]) a0_269)) (.fn rfl) ?_
      refine bindG h ?_
      rintro ⟨x_356, x_357⟩ he358 h
      refine SafeOps.quiet0 E_good rfl rfl rfl (v := V.tup [V.int .i64 x_356, V.int .i64 x_357]) (.callP rfl rfl (go_life_Trace_sc a0_269 _ he358) rfl) ?_
      refine SafeOps.quiet0 E_good rfl rfl rfl (v := V.tup [V.int .i64 x_356, V.int .i64 x_357]) (.fn rfl) ?_
      refine SafeOps.quiet0 E_good rfl rfl rfl (v := V.int .i64 x_356) (.fn rfl) ?_
      refine SafeOps.quiet0 E_good rfl rfl rfl (v := V.int .i64 x_357) (.fn rfl) ?_
      refine SafeOps.quiet0 E_good rfl rfl rfl (v := V.int .i64 x_356) (.fn rfl) ?_
      refine SafeOps.quiet0 E_good rfl rfl rfl (v := V.int .i64 x_357) (.fn rfl) ?_
      refine SafeOps.nil ?_
      repeat (first | refine Safe.seq ?_ | refine Safe.skip ?_ | with_reducible refine thenQ.n ?_ | with_reducible refine blockQ.n ?_)
      refine Safe.region ?_
      refine SafeOps.quiet0 E_good rfl rfl rfl (v := V.int .i64 x_357) (.fn rfl) ?_
      refine SafeOps.quiet0 E_good rfl rfl rfl (v := V.bool (x_357 != 0)) (.fn rfl) ?_
      refine SafeOps.nil ?_
      repeat (first | refine Safe.seq ?_ | refine Safe.skip ?_ | with_reducible refine thenQ.n ?_ | with_reducible refine blockQ.n ?_)
      refine ifG h (fun hc359 h => ?_) (fun hc359 h => ?_)
      · skip
        refine Safe.condK rfl hc359 ?_
        repeat (first | refine Safe.seq ?_ | refine Safe.skip ?_ | with_reducible refine thenQ.n ?_ | with_reducible refine blockQ.n ?_)
        refine Safe.region ?_
        refine SafeOps.quiet0 E_good rfl rfl rfl (v := V.bool x_351) (.fn rfl) ?_
        refine SafeOps.quiet0 E_good rfl rfl rfl (v := V.bool x_351) (.fn rfl) ?_
        refine SafeOps.nil ?_
        repeat (first | refine Safe.seq ?_ | refine Safe.skip ?_ | with_reducible refine thenQ.n ?_ | with_reducible refine blockQ.n ?_)
        refine Safe.ret ?_
        repeat (first | with_reducible refine thenQ.r ?_ | with_reducible refine blockQ.r ?_)
        obtain rfl := Option.some.inj h
        exact retQ.gen (vs := [V.bool x_351]) rfl (.tmp (v := V.bool x_351) rfl .nil) (.free rfl) (by simp) (.inr rfl)
      · skip
        refine Safe.condN rfl hc359 ?_
        repeat (first | refine Safe.seq ?_ | refine Safe.skip ?_ | with_reducible refine thenQ.n ?_ | with_reducible refine blockQ.n ?_)
        refine Safe.region ?_
        refine SafeOps.quiet0 E_good rfl rfl rfl (v := V.int .i64 1) (.fn rfl) ?_
        refine SafeOps.nil ?_
        repeat (first | refine Safe.seq ?_ | refine Safe.skip ?_ | with_reducible refine thenQ.n ?_ | with_reducible refine blockQ.n ?_)
        refine Safe.block ?_
        repeat (first | refine Safe.seq ?_ | refine Safe.skip ?_ | with_reducible refine thenQ.n ?_ | with_reducible refine blockQ.n ?_)
        refine Safe.loopW (fun (v8_399 : Int) => ⟨Tryd.f4.ntmps, [(0, V.sl 1 (rws (fun n => [V.int .i64 n]) a0_269)), (1, V.int .i64 a1_270), (5, V.bool x_351), (6, V.int .i64 x_356), (8, V.int .i64 v8_399)], [], [], []⟩) h (.cov ⟨rfl, rfl, (upT_cons (.refl _) (upT_cons (.refl _) (upT_cons (.refl _) (upT_cons (.refl _) (upT_cons (.refl _) upT_nil))))), upOb_nil, upOut_nil, rfl⟩) ?_
        intro v8_399 ohr400 h hr400
        replace h : go_ravellaw12_LifeTrace_s2 a0_269 a1_270 x_351 x_356 v8_399 = some ohr400 := h
        rw [go_ravellaw12_LifeTrace_s2] at h
        repeat (first | refine Safe.seq ?_ | refine Safe.skip ?_ | with_reducible refine thenQ.n ?_ | with_reducible refine blockQ.n ?_)
        refine Safe.region ?_
        refine SafeOps.quiet0 E_good rfl rfl rfl (v := V.int .i64 v8_399) (.fn rfl) ?_
        refine SafeOps.quiet0 E_good rfl rfl rfl (v := V.sl 1 (rws (fun n => [V.int .i64 n]) a0_269)) (.fn rfl) ?_
        refine SafeOps.quiet0 E_good rfl rfl rfl (v := V.int .i64 (a0_269.length : Int)) (.fnE rfl lenE) ?_
        refine SafeOps.quiet0 E_good rfl rfl rfl (v := V.bool (decide (v8_399 ≤ (a0_269.length : Int)))) (.fn rfl) ?_
        refine SafeOps.nil ?_
        repeat (first | refine Safe.seq ?_ | refine Safe.skip ?_ | with_reducible refine thenQ.n ?_ | with_reducible refine blockQ.n ?_)
        refine ifG h (fun hc401 h => ?_) (fun hc401 h => ?_)
        · skip
          refine Safe.condK rfl hc401 ?_
          repeat (first | refine Safe.seq ?_ | refine Safe.skip ?_ | with_reducible refine thenQ.n ?_ | with_reducible refine blockQ.n ?_)
          refine Safe.block ?_
          repeat (first | refine Safe.seq ?_ | refine Safe.skip ?_ | with_reducible refine thenQ.n ?_ | with_reducible refine blockQ.n ?_)
          refine Safe.region ?_
          refine SafeOps.quiet0 E_good rfl rfl rfl (v := V.sl 1 (rws (fun n => [V.int .i64 n]) a0_269)) (.fn rfl) ?_
          refine SafeOps.quiet0 E_good rfl rfl rfl (v := V.int .i64 v8_399) (.fn rfl) ?_
          refine okG h (fun hb402 h => ?_)
          refine SafeOps.quiet0 E_good rfl rfl rfl (v := V.sl 1 (rws (fun n => [V.int .i64 n]) (sub a0_269 0 v8_399))) (.slH (f := (fun n => [V.int .i64 n])) rfl rfl rfl rfl rfl hb402) ?_
          refine bindG h ?_
          rintro ⟨x_403, x_404⟩ he405 h
          refine SafeOps.quiet0 E_good rfl rfl rfl (v := V.tup [V.int .i64 x_403, V.int .i64 x_404]) (.callP rfl rfl (go_life_Trace_sc (sub a0_269 0 v8_399) _ he405) rfl) ?_
          refine SafeOps.quiet0 E_good rfl rfl rfl (v := V.tup [V.int .i64 x_403, V.int .i64 x_404]) (.fn rfl) ?_
          refine SafeOps.quiet0 E_good rfl rfl rfl (v := V.int .i64 x_403) (.fn rfl) ?_
          refine SafeOps.quiet0 E_good rfl rfl rfl (v := V.int .i64 x_404) (.fn rfl) ?_
          refine SafeOps.quiet0 E_good rfl rfl rfl (v := V.int .i64 x_403) (.fn rfl) ?_
          refine SafeOps.quiet0 E_good rfl rfl rfl (v := V.int .i64 x_404) (.fn rfl) ?_
          refine SafeOps.nil ?_
          repeat (first | refine Safe.seq ?_ | refine Safe.skip ?_ | with_reducible refine thenQ.n ?_ | with_reducible refine blockQ.n ?_)
          refine Safe.region ?_
          refine SafeOps.quiet0 E_good rfl rfl rfl (v := V.int .i64 x_404) (.fn rfl) ?_
          refine SafeOps.quiet0 E_good rfl rfl rfl (v := V.bool (x_404 != 0)) (.fn rfl) ?_
          refine SafeOps.quiet0 E_good rfl rfl rfl (v := V.bool (x_404 != 0)) (.fn rfl) ?_
          refine SafeOps.bjoin 6 54 (b := ((x_404 != 0) || (x_403 != (if v8_399 < x_356 then v8_399 else x_356)))) (b1 := true) (b0 := (x_403 != (if v8_399 < x_356 then v8_399 else x_356))) (fun hc406 K => ?_) (fun hc406 K => ?_) bj_or ?_
          · skip
            refine SafeOps.skip (congrArg (fun b => some (!b)) hc406) rfl rfl ?_
            refine SafeOps.skip (congrArg (fun b => some (!b)) hc406) rfl rfl ?_
            refine SafeOps.skip (congrArg (fun b => some (!b)) hc406) rfl rfl ?_
            refine SafeOps.skip (congrArg (fun b => some (!b)) hc406) rfl rfl ?_
            refine SafeOps.skip (congrArg (fun b => some (!b)) hc406) rfl rfl ?_
            refine SafeOps.quiet0 E_good rfl rfl rfl (v := V.bool true) (.pickK rfl hc406 rfl) ?_
            exact SafeOps.drop' 6 rfl rfl rfl K
          · skip
            refine SafeOps.quiet0 E_good (congrArg (fun b => some (!b)) hc406) rfl rfl (v := V.int .i64 x_403) (.fn rfl) ?_
            refine SafeOps.quiet0 E_good (congrArg (fun b => some (!b)) hc406) rfl rfl (v := V.int .i64 x_356) (.fn rfl) ?_
            refine SafeOps.quiet0 E_good (congrArg (fun b => some (!b)) hc406) rfl rfl (v := V.int .i64 v8_399) (.fn rfl) ?_
            refine SafeOps.quiet0 E_good (congrArg (fun b => some (!b)) hc406) rfl rfl (v := V.int .i64 (if v8_399 < x_356 then v8_399 else x_356)) (.fn rfl) ?_
            refine SafeOps.quiet0 E_good (congrArg (fun b => some (!b)) hc406) rfl rfl (v := V.bool (x_403 != (if v8_399 < x_356 then v8_399 else x_356))) (.fn rfl) ?_
            refine SafeOps.quiet0 E_good rfl rfl rfl (v := V.bool (x_403 != (if v8_399 < x_356 then v8_399 else x_356))) (.pickK rfl hc406 rfl) ?_
            exact SafeOps.drop' 6 rfl rfl rfl K
          refine SafeOps.nil ?_
          repeat (first | refine Safe.seq ?_ | refine Safe.skip ?_ | with_reducible refine thenQ.n ?_ | with_reducible refine blockQ.n ?_)
          refine ifG h (fun hc407 h => ?_) (fun hc407 h => ?_)
          · skip
            refine Safe.condK rfl hc407 ?_
            repeat (first | refine Safe.seq ?_ | refine Safe.skip ?_ | with_reducible refine thenQ.n ?_ | with_reducible refine blockQ.n ?_)
            refine Safe.region ?_
            refine SafeOps.quiet0 E_good rfl rfl rfl (v := V.bool false) (.fn rfl) ?_
            refine SafeOps.nil ?_
            repeat (first | refine Safe.seq ?_ | refine Safe.skip ?_ | with_reducible refine thenQ.n ?_ | with_reducible refine blockQ.n ?_)
            refine Safe.ret ?_
            repeat (first | with_reducible refine thenQ.r ?_ | with_reducible refine blockQ.r ?_)
            replace h := inr_out h hr400
            obtain rfl := Option.some.inj h
            exact retQ.gen (vs := [V.bool false]) rfl (.tmp (v := V.bool false) rfl .nil) (.free rfl) (by simp) (.inr rfl)
          · skip
            refine Safe.condN rfl hc407 ?_
            repeat (first | refine Safe.seq ?_ | refine Safe.skip ?_ | with_reducible refine thenQ.n ?_ | with_reducible refine blockQ.n ?_)
            refine Safe.region ?_
            refine SafeOps.quiet0 E_good rfl rfl rfl (v := V.int .i64 v8_399) (.fn rfl) ?_
            refine SafeOps.quiet0 E_good rfl rfl rfl (v := V.int .i64 (IntKind.i64.wrap (v8_399 + 1))) (.fn rfl) ?_
            refine SafeOps.quiet0 E_good rfl rfl rfl (v := V.int .i64 (IntKind.i64.wrap (v8_399 + 1))) (.fn rfl) ?_
            refine SafeOps.nil ?_
            repeat (first | refine Safe.seq ?_ | refine Safe.skip ?_ | with_reducible refine thenQ.n ?_ | with_reducible refine blockQ.n ?_)
            exact ⟨_, next_out h, (.cov ⟨rfl, rfl, (upT_cons (.refl _) (upT_cons (.refl _) (upT_cons (.refl _) (upT_cons (.refl _) (upT_cons (.refl _) upT_nil))))), upOb_nil, upOut_nil, rfl⟩)⟩
        · skip
          refine Safe.condN rfl hc401 ?_
          repeat (first | refine Safe.seq ?_ | refine Safe.skip ?_ | with_reducible refine thenQ.n ?_ | with_reducible refine blockQ.n ?_)
          refine Safe.exit ?_
          repeat (first | with_reducible refine thenQ.e ?_ | with_reducible refine blockQ.x rfl ?_ | with_reducible refine blockQ.y rfl ?_)
          replace h := inr_out h hr400
          repeat (first | refine Safe.seq ?_ | refine Safe.skip ?_ | with_reducible refine thenQ.n ?_ | with_reducible refine blockQ.n ?_)
          refine Safe.region ?_
          refine SafeOps.quiet0 E_good rfl rfl rfl (v := V.sl 1 (rws (fun n => [V.int .i64 n]) a0_269)) (.fn rfl) ?_
          refine okG h (fun hb408 h => ?_)
          refine SafeOps.appendM (fun n => [V.int .i64 n]) (xs := []) (ys := a0_269) E_good rfl rfl rfl rfl rfl rfl rfl rfl rfl .nils (.sl _) (fun _ => rfl) hb408 ?_
          refine SafeOps.quiet0 E_good rfl rfl rfl (v := V.int .i64 a1_270) (.fn rfl) ?_
          refine SafeOps.quiet1 E_good rfl rfl rfl (.litM (f := (fun n => [V.int .i64 n])) (xs := [a1_270]) rfl rfl (by decide) rfl rfl rfl rfl rfl) rfl ?_
          refine okG h (fun hb409 h => ?_)
          refine SafeOps.appendM (fun n => [V.int .i64 n]) (xs := [] ++ a0_269) (ys := [a1_270]) E_good rfl rfl rfl rfl rfl rfl rfl rfl rfl (.own rfl) (.own rfl) (fun _ => rfl) hb409 ?_
          refine bindG h ?_
          rintro ⟨x_410, x_411⟩ he412 h
          refine SafeOps.quiet0 E_good rfl rfl rfl (v := V.tup [V.int .i64 x_410, V.int .i64 x_411]) (.callS rfl (.cons (.full rfl rfl) .nil) (go_life_Trace_sc (([] ++ a0_269) ++ [a1_270]) _ he412) (.tupL (.cons (.plain rfl) (.cons (.plain rfl) .nil))) rfl) ?_
          refine SafeOps.quiet0 E_good rfl rfl rfl (v := V.tup [V.int .i64 x_410, V.int .i64 x_411]) (.fn rfl) ?_
          refine SafeOps.quiet0 E_good rfl rfl rfl (v := V.int .i64 x_410) (.fn rfl) ?_
          refine SafeOps.quiet0 E_good rfl rfl rfl (v := V.int .i64 x_411) (.fn rfl) ?_
          refine SafeOps.quiet0 E_good rfl rfl rfl (v := V.int .i64 x_410) (.fn rfl) ?_
          refine SafeOps.quiet0 E_good rfl rfl rfl (v := V.int .i64 x_411) (.fn rfl) ?_
          refine SafeOps.nil ?_
          repeat (first | refine Safe.seq ?_ | refine Safe.skip ?_ | with_reducible refine thenQ.n ?_ | with_reducible refine blockQ.n ?_)
          refine Safe.region ?_
          refine SafeOps.quiet0 E_good rfl rfl rfl (v := V.int .i64 x_411) (.fn rfl) ?_
          refine SafeOps.quiet0 E_good rfl rfl rfl (v := V.bool (x_411 != 0)) (.fn rfl) ?_
          refine SafeOps.nil ?_
          repeat (first | refine Safe.seq ?_ | refine Safe.skip ?_ | with_reducible refine thenQ.n ?_ | with_reducible refine blockQ.n ?_)
          refine ifG h (fun hc415 h => ?_) (fun hc415 h => ?_)
          · skip
            refine Safe.condK rfl hc415 ?_
            repeat (first | refine Safe.seq ?_ | refine Safe.skip ?_ | with_reducible refine thenQ.n ?_ | with_reducible refine blockQ.n ?_)
            refine Safe.region ?_
            refine SafeOps.quiet0 E_good rfl rfl rfl (v := V.bool x_351) (.fn rfl) ?_
            refine SafeOps.quiet0 E_good rfl rfl rfl (v := V.bool x_351) (.fn rfl) ?_
            refine SafeOps.bjoin 7 74 (b := (x_351 && ((decide (a1_270 < 1)) || (decide (a1_270 > 7))))) (b1 := ((decide (a1_270 < 1)) || (decide (a1_270 > 7)))) (b0 := false) (fun hc416 K => ?_) (fun hc416 K => ?_) bj_and ?_
            · skip
              refine SafeOps.quiet0 E_good (congrArg some hc416) rfl rfl (v := V.int .i64 a1_270) (.fn rfl) ?_
              refine SafeOps.quiet0 E_good (congrArg some hc416) rfl rfl (v := V.bool (decide (a1_270 < 1))) (.fn rfl) ?_
              refine SafeOps.quiet0 E_good (congrArg some hc416) rfl rfl (v := V.bool (decide (a1_270 < 1))) (.fn rfl) ?_
              refine SafeOps.bjoin 3 73 (b := ((decide (a1_270 < 1)) || (decide (a1_270 > 7)))) (b1 := true) (b0 := decide (a1_270 > 7)) (fun hc417 K => ?_) (fun hc417 K => ?_) bj_or ?_
              · skip
                refine SafeOps.skip (congrArg (fun b => some (!b)) hc417) rfl rfl ?_
                refine SafeOps.skip (congrArg (fun b => some (!b)) hc417) rfl rfl ?_
                refine SafeOps.quiet0 E_good (congrArg some hc416) rfl rfl (v := V.bool true) (.pickK rfl hc417 rfl) ?_
                exact SafeOps.drop' 3 rfl rfl rfl K
              · skip
                refine SafeOps.quiet0 E_good (congrArg (fun b => some (!b)) hc417) rfl rfl (v := V.int .i64 a1_270) (.fn rfl) ?_
                refine SafeOps.quiet0 E_good (congrArg (fun b => some (!b)) hc417) rfl rfl (v := V.bool (decide (a1_270 > 7))) (.fn rfl) ?_
                refine SafeOps.quiet0 E_good (congrArg some hc416) rfl rfl (v := V.bool (decide (a1_270 > 7))) (.pickK rfl hc417 rfl) ?_
                exact SafeOps.drop' 3 rfl rfl rfl K
              refine SafeOps.quiet0 E_good rfl rfl rfl (v := V.bool ((decide (a1_270 < 1)) || (decide (a1_270 > 7)))) (.pickK rfl hc416 rfl) ?_
              exact SafeOps.drop' 5 rfl rfl rfl K
            · skip
              refine SafeOps.skip (congrArg some hc416) rfl rfl ?_
              refine SafeOps.skip (congrArg some hc416) rfl rfl ?_
              refine SafeOps.skip (congrArg some hc416) rfl rfl ?_
              refine SafeOps.skip rfl rfl rfl ?_
              refine SafeOps.skip rfl rfl rfl ?_
              refine SafeOps.skip (congrArg some hc416) rfl rfl ?_
              refine SafeOps.quiet0 E_good rfl rfl rfl (v := V.bool false) (.pickK rfl hc416 rfl) ?_
              exact SafeOps.drop' 7 rfl rfl rfl K
            refine SafeOps.quiet0 E_good rfl rfl rfl (v := V.bool (x_351 && ((decide (a1_270 < 1)) || (decide (a1_270 > 7))))) (.fn rfl) ?_
            refine SafeOps.nil ?_
            repeat (first | refine Safe.seq ?_ | refine Safe.skip ?_ | with_reducible refine thenQ.n ?_ | with_reducible refine blockQ.n ?_)
            refine Safe.ret ?_
            repeat (first | with_reducible refine thenQ.r ?_ | with_reducible refine blockQ.r ?_)
            obtain rfl := Option.some.inj h
            exact retQ.gen (vs := [V.bool (x_351 && ((decide (a1_270 < 1)) || (decide (a1_270 > 7))))]) rfl (.tmp (v := V.bool (x_351 && ((decide (a1_270 < 1)) || (decide (a1_270 > 7))))) rfl .nil) (.free rfl) (by simp) (.inr rfl)
          · skip
            refine Safe.condN rfl hc415 ?_
            repeat (first | refine Safe.seq ?_ | refine Safe.skip ?_ | with_reducible refine thenQ.n ?_ | with_reducible refine blockQ.n ?_)
            refine Safe.region ?_
            refine SafeOps.quiet0 E_good rfl rfl rfl (v := V.int .i64 x_356) (.fn rfl) ?_
            refine SafeOps.quiet0 E_good rfl rfl rfl (v := V.sl 1 (rws (fun n => [V.int .i64 n]) a0_269)) (.fn rfl) ?_
            refine SafeOps.quiet0 E_good rfl rfl rfl (v := V.int .i64 (a0_269.length : Int)) (.fnE rfl lenE) ?_
            refine SafeOps.quiet0 E_good rfl rfl rfl (v := V.bool (decide (x_356 < (a0_269.length : Int)))) (.fn rfl) ?_
            refine SafeOps.nil ?_
            repeat (first | refine Safe.seq ?_ | refine Safe.skip ?_ | with_reducible refine thenQ.n ?_ | with_reducible refine blockQ.n ?_)
            refine ifG h (fun hc419 h => ?_) (fun hc419 h => ?_)
            · skip
              refine Safe.condK rfl hc419 ?_
              repeat (first | refine Safe.seq ?_ | refine Safe.skip ?_ | with_reducible refine thenQ.n ?_ | with_reducible refine blockQ.n ?_)
              refine Safe.region ?_
              refine SafeOps.quiet0 E_good rfl rfl rfl (v := V.bool x_351) (.fn rfl) ?_
              refine SafeOps.quiet0 E_good rfl rfl rfl (v := V.bool x_351) (.fn rfl) ?_
              refine SafeOps.bjoin 4 84 (b := (x_351 && (x_410 == x_356))) (b1 := (x_410 == x_356)) (b0 := false) (fun hc420 K => ?_) (fun hc420 K => ?_) bj_and ?_
              · skip
                refine SafeOps.quiet0 E_good (congrArg some hc420) rfl rfl (v := V.int .i64 x_410) (.fn rfl) ?_
                refine SafeOps.quiet0 E_good (congrArg some hc420) rfl rfl (v := V.int .i64 x_356) (.fn rfl) ?_
                refine SafeOps.quiet0 E_good (congrArg some hc420) rfl rfl (v := V.bool (x_410 == x_356)) (.fn rfl) ?_
                refine SafeOps.quiet0 E_good rfl rfl rfl (v := V.bool (x_410 == x_356)) (.pickK rfl hc420 rfl) ?_
                exact SafeOps.drop' 4 rfl rfl rfl K
              · skip
                refine SafeOps.skip (congrArg some hc420) rfl rfl ?_
                refine SafeOps.skip (congrArg some hc420) rfl rfl ?_
                refine SafeOps.skip (congrArg some hc420) rfl rfl ?_
                refine SafeOps.quiet0 E_good rfl rfl rfl (v := V.bool false) (.pickK rfl hc420 rfl) ?_
                exact SafeOps.drop' 4 rfl rfl rfl K
              refine SafeOps.quiet0 E_good rfl rfl rfl (v := V.bool (x_351 && (x_410 == x_356))) (.fn rfl) ?_
              refine SafeOps.nil ?_
              repeat (first | refine Safe.seq ?_ | refine Safe.skip ?_ | with_reducible refine thenQ.n ?_ | with_reducible refine blockQ.n ?_)
              refine Safe.ret ?_
              repeat (first | with_reducible refine thenQ.r ?_ | with_reducible refine blockQ.r ?_)
              obtain rfl := Option.some.inj h
              exact retQ.gen (vs := [V.bool (x_351 && (x_410 == x_356))]) rfl (.tmp (v := V.bool (x_351 && (x_410 == x_356))) rfl .nil) (.free rfl) (by simp) (.inr rfl)
            · skip
              refine Safe.condN rfl hc419 ?_
              repeat (first | refine Safe.seq ?_ | refine Safe.skip ?_ | with_reducible refine thenQ.n ?_ | with_reducible refine blockQ.n ?_)
              refine Safe.region ?_
              refine SafeOps.quiet0 E_good rfl rfl rfl (v := V.bool x_351) (.fn rfl) ?_
              refine SafeOps.quiet0 E_good rfl rfl rfl (v := V.bool x_351) (.fn rfl) ?_
              refine SafeOps.bsplit 13 99 (fun b_425 => go_ravellaw12_LifeTrace_j3 x_356 x_410 b_425 = some r) (fun HJ426 => ?_) (fun b_425 h => ?_)
              · refine ifG h (fun hc421 h => ?_) (fun hc421 h => ?_)
                · skip
                  refine SafeOps.quiet0 E_good (congrArg some hc421) rfl rfl (v := V.int .i64 x_410) (.fn rfl) ?_
                  refine SafeOps.quiet0 E_good (congrArg some hc421) rfl rfl (v := V.int .i64 x_356) (.fn rfl) ?_
                  refine SafeOps.quiet0 E_good (congrArg some hc421) rfl rfl (v := V.int .i64 (IntKind.i64.wrap (x_356 + 1))) (.fn rfl) ?_
                  refine SafeOps.quiet0 E_good (congrArg some hc421) rfl rfl (v := V.bool (x_410 == (IntKind.i64.wrap (x_356 + 1)))) (.fn rfl) ?_
                  refine SafeOps.quiet0 E_good (congrArg some hc421) rfl rfl (v := V.sl 1 (rws (fun n => [V.int .i64 n]) a0_269)) (.fn rfl) ?_
                  refine SafeOps.quiet0 E_good (congrArg some hc421) rfl rfl (v := V.int .i64 x_356) (.fn rfl) ?_
                  refine SafeOps.quiet0 E_good (congrArg some hc421) rfl rfl (v := V.int .i64 (IntKind.i64.wrap (x_356 - 1))) (.fn rfl) ?_
                  refine okG h (fun hb428 h => ?_)
                  refine SafeOps.quiet0 E_good (congrArg some hc421) rfl rfl (v := V.spt 1 (rws (fun n => [V.int .i64 n]) a0_269) (Int.toNat (IntKind.i64.wrap (x_356 - 1))) 0) (.idxSlM (f := (fun n => [V.int .i64 n])) rfl rfl rfl rfl rfl hb428) ?_
                  refine SafeOps.quiet0 E_good (congrArg some hc421) rfl rfl (v := V.int .i64 (gt a0_269 (IntKind.i64.wrap (x_356 - 1)))) (.load rfl rfl (.sptM (f := (fun n => [V.int .i64 n])) hb428 rfl) rfl) ?_
                  refine SafeOps.quiet0 E_good (congrArg some hc421) rfl rfl (v := V.int .i64 a1_270) (.fn rfl) ?_
                  refine bindG h ?_
                  intro x_429 he430 h
                  refine SafeOps.quiet0 E_good (congrArg some hc421) rfl rfl (v := V.bool x_429) (.callP rfl rfl (go_life_Legal_sc (gt a0_269 (IntKind.i64.wrap (x_356 - 1))) a1_270 _ he430) rfl) ?_
                  refine SafeOps.quiet0 E_good (congrArg some hc421) rfl rfl (v := V.bool ((x_410 == (IntKind.i64.wrap (x_356 + 1))) == x_429)) (.fn rfl) ?_
                  refine SafeOps.quiet0 E_good rfl rfl rfl (v := V.bool ((x_410 == (IntKind.i64.wrap (x_356 + 1))) == x_429)) (.pickK rfl hc421 rfl) ?_
                  exact SafeOps.drop' 13 rfl rfl rfl (HJ426 _ h)
                · skip
                  refine SafeOps.skip (congrArg some hc421) rfl rfl ?_
                  refine SafeOps.skip (congrArg some hc421) rfl rfl ?_
                  refine SafeOps.skip (congrArg some hc421) rfl rfl ?_
                  refine SafeOps.skip (congrArg some hc421) rfl rfl ?_
                  refine SafeOps.skip (congrArg some hc421) rfl rfl ?_
                  refine SafeOps.skip (congrArg some hc421) rfl rfl ?_
                  refine SafeOps.skip (congrArg some hc421) rfl rfl ?_
                  refine SafeOps.skip (congrArg some hc421) rfl rfl ?_
                  refine SafeOps.skip (congrArg some hc421) rfl rfl ?_
                  refine SafeOps.skip (congrArg some hc421) rfl rfl ?_
                  refine SafeOps.skip (congrArg some hc421) rfl rfl ?_
                  refine SafeOps.skip (congrArg some hc421) rfl rfl ?_
                  refine SafeOps.quiet0 E_good rfl rfl rfl (v := V.bool false) (.pickK rfl hc421 rfl) ?_
                  exact SafeOps.drop' 13 rfl rfl rfl (HJ426 _ h)
              · replace h : go_ravellaw12_LifeTrace_j3 x_356 x_410 b_425 = some r := h
                rw [go_ravellaw12_LifeTrace_j3] at h
                refine SafeOps.quiet0 E_good rfl rfl rfl (v := V.bool b_425) (.fn rfl) ?_
                refine SafeOps.bjoin 4 104 (b := (b_425 && (decide (x_410 ≥ x_356)))) (b1 := decide (x_410 ≥ x_356)) (b0 := false) (fun hc427 K => ?_) (fun hc427 K => ?_) bj_and ?_
                · skip
                  refine SafeOps.quiet0 E_good (congrArg some hc427) rfl rfl (v := V.int .i64 x_410) (.fn rfl) ?_
                  refine SafeOps.quiet0 E_good (congrArg some hc427) rfl rfl (v := V.int .i64 x_356) (.fn rfl) ?_
                  refine SafeOps.quiet0 E_good (congrArg some hc427) rfl rfl (v := V.bool (decide (x_410 ≥ x_356))) (.fn rfl) ?_
                  refine SafeOps.quiet0 E_good rfl rfl rfl (v := V.bool (decide (x_410 ≥ x_356))) (.pickK rfl hc427 rfl) ?_
                  exact SafeOps.drop' 4 rfl rfl rfl K
                · skip
                  refine SafeOps.skip (congrArg some hc427) rfl rfl ?_
                  refine SafeOps.skip (congrArg some hc427) rfl rfl ?_
                  refine SafeOps.skip (congrArg some hc427) rfl rfl ?_
                  refine SafeOps.quiet0 E_good rfl rfl rfl (v := V.bool false) (.pickK rfl hc427 rfl) ?_
                  exact SafeOps.drop' 4 rfl rfl rfl K
                refine SafeOps.quiet0 E_good rfl rfl rfl (v := V.bool (b_425 && (decide (x_410 ≥ x_356)))) (.fn rfl) ?_
                refine SafeOps.nil ?_
                repeat (first | refine Safe.seq ?_ | refine Safe.skip ?_ | with_reducible refine thenQ.n ?_ | with_reducible refine blockQ.n ?_)
                refine Safe.ret ?_
                repeat (first | with_reducible refine thenQ.r ?_ | with_reducible refine blockQ.r ?_)
                obtain rfl := Option.some.inj h
                exact retQ.gen (vs := [V.bool (b_425 && (decide (x_410 ≥ x_356)))]) rfl (.tmp (v := V.bool (b_425 && (decide (x_410 ≥ x_356)))) rfl .nil) (.free rfl) (by simp) (.inr rfl)

def go_life_Waits (a0_442 : Int) : Bool :=
  ((decide (a0_442 ≥ 3)) && (decide (a0_442 ≤ 6)))

theorem go_life_Waits_sc (a0_442 : Int) (r : Bool) (h : go_life_Waits a0_442 = r) : SC Tryd.prog gl 14 [V.int .i64 a0_442] (V.bool r) := by
  rw [go_life_Waits] at h
  refine SC.of E_good Tryd.func14 rfl (fun _ _ => Tryd.call14 _ _) rfl ?_
  repeat (first | refine Safe.seq ?_ | refine Safe.skip ?_ | with_reducible refine thenQ.n ?_ | with_reducible refine blockQ.n ?_)
  refine Safe.region ?_
  refine SafeOps.quiet0 E_good rfl rfl rfl (v := V.bool false) (.fn rfl) ?_
  refine SafeOps.nil ?_
  repeat (first | refine Safe.seq ?_ | refine Safe.skip ?_ | with_reducible refine thenQ.n ?_ | with_reducible refine blockQ.n ?_)
  refine Safe.region ?_
  refine SafeOps.quiet0 E_good rfl rfl rfl (v := V.int .i64 a0_442) (.fn rfl) ?_
  refine SafeOps.quiet0 E_good rfl rfl rfl (v := V.bool (decide (a0_442 ≥ 3))) (.fn rfl) ?_
  refine SafeOps.quiet0 E_good rfl rfl rfl (v := V.bool (decide (a0_442 ≥ 3))) (.fn rfl) ?_
  refine SafeOps.bjoin 3 8 (b := ((decide (a0_442 ≥ 3)) && (decide (a0_442 ≤ 6)))) (b1 := decide (a0_442 ≤ 6)) (b0 := false) (fun hc444 K => ?_) (fun hc444 K => ?_) bj_and ?_
  · skip
    refine SafeOps.quiet0 E_good (congrArg some hc444) rfl rfl (v := V.int .i64 a0_442) (.fn rfl) ?_
    refine SafeOps.quiet0 E_good (congrArg some hc444) rfl rfl (v := V.bool (decide (a0_442 ≤ 6))) (.fn rfl) ?_
    refine SafeOps.quiet0 E_good rfl rfl rfl (v := V.bool (decide (a0_442 ≤ 6))) (.pickK rfl hc444 rfl) ?_
    exact SafeOps.drop' 3 rfl rfl rfl K
  · skip
    refine SafeOps.skip (congrArg some hc444) rfl rfl ?_
    refine SafeOps.skip (congrArg some hc444) rfl rfl ?_
    refine SafeOps.quiet0 E_good rfl rfl rfl (v := V.bool false) (.pickK rfl hc444 rfl) ?_
    exact SafeOps.drop' 3 rfl rfl rfl K
  refine SafeOps.quiet0 E_good rfl rfl rfl (v := V.bool ((decide (a0_442 ≥ 3)) && (decide (a0_442 ≤ 6)))) (.fn rfl) ?_
  refine SafeOps.nil ?_
  repeat (first | refine Safe.seq ?_ | refine Safe.skip ?_ | with_reducible refine thenQ.n ?_ | with_reducible refine blockQ.n ?_)
  refine Safe.ret ?_
  repeat (first | with_reducible refine thenQ.r ?_ | with_reducible refine blockQ.r ?_)
  obtain rfl := h
  exact retQ.gen (vs := [V.bool ((decide (a0_442 ≥ 3)) && (decide (a0_442 ≤ 6)))]) rfl (.tmp (v := V.bool ((decide (a0_442 ≥ 3)) && (decide (a0_442 ≤ 6)))) rfl .nil) (.free rfl) (by simp) (.inr rfl)

noncomputable def go_ravellaw12_LifeLegal_j1 (a0_431 : Int) (b_453 : Bool) : Option Bool :=
  some (b_453 && ((go_life_Waits a0_431) == (go_ravelref12_Waits a0_431)))

noncomputable def go_ravellaw12_LifeLegal (a0_431 : Int) (a1_432 : Int) : Option Bool :=
  (go_ravellaw12_live).bind fun x_447 =>
  if (!x_447) = true then
    some false
  else
    if x_447 = true then
      (go_life_Legal a0_431 a1_432).bind fun x_456 =>
      go_ravellaw12_LifeLegal_j1 a0_431 (x_456 == (go_ravelref12_Legal a0_431 a1_432))
    else
      go_ravellaw12_LifeLegal_j1 a0_431 false

theorem go_ravellaw12_LifeLegal_sc (a0_431 : Int) (a1_432 : Int) (r : Bool) (h : go_ravellaw12_LifeLegal a0_431 a1_432 = some r) : SC Tryd.prog gl 5 [V.int .i64 a0_431, V.int .i64 a1_432] (V.bool r) := by
  rw [go_ravellaw12_LifeLegal] at h
  refine SC.of E_good Tryd.func5 rfl (fun _ _ => Tryd.call5 _ _) rfl ?_
  repeat (first | refine Safe.seq ?_ | refine Safe.skip ?_ | with_reducible refine thenQ.n ?_ | with_reducible refine blockQ.n ?_)
  refine Safe.region ?_
  refine SafeOps.quiet0 E_good rfl rfl rfl (v := V.bool false) (.fn rfl) ?_
  refine SafeOps.nil ?_
  repeat (first | refine Safe.seq ?_ | refine Safe.skip ?_ | with_reducible refine thenQ.n ?_ | with_reducible refine blockQ.n ?_)
  refine Safe.region ?_
  refine bindG h ?_
  intro x_447 he448 h
  refine SafeOps.quiet0 E_good rfl rfl rfl (v := V.bool x_447) (.callP rfl rfl (go_ravellaw12_live_sc  _ he448) rfl) ?_
  refine SafeOps.quiet0 E_good rfl rfl rfl (v := V.bool x_447) (.fn rfl) ?_
  refine SafeOps.nil ?_
  repeat (first | refine Safe.seq ?_ | refine Safe.skip ?_ | with_reducible refine thenQ.n ?_ | with_reducible refine blockQ.n ?_)
  refine Safe.region ?_
  refine SafeOps.quiet0 E_good rfl rfl rfl (v := V.bool x_447) (.fn rfl) ?_
  refine SafeOps.quiet0 E_good rfl rfl rfl (v := V.bool (!x_447)) (.fn rfl) ?_
  refine SafeOps.nil ?_
  repeat (first | refine Safe.seq ?_ | refine Safe.skip ?_ | with_reducible refine thenQ.n ?_ | with_reducible refine blockQ.n ?_)
  refine ifG h (fun hc449 h => ?_) (fun hc449 h => ?_)
  · skip
    refine Safe.condK rfl hc449 ?_
    repeat (first | refine Safe.seq ?_ | refine Safe.skip ?_ | with_reducible refine thenQ.n ?_ | with_reducible refine blockQ.n ?_)
    refine Safe.region ?_
    refine SafeOps.quiet0 E_good rfl rfl rfl (v := V.bool false) (.fn rfl) ?_
    refine SafeOps.nil ?_
    repeat (first | refine Safe.seq ?_ | refine Safe.skip ?_ | with_reducible refine thenQ.n ?_ | with_reducible refine blockQ.n ?_)
    refine Safe.ret ?_
    repeat (first | with_reducible refine thenQ.r ?_ | with_reducible refine blockQ.r ?_)
    obtain rfl := Option.some.inj h
    exact retQ.gen (vs := [V.bool false]) rfl (.tmp (v := V.bool false) rfl .nil) (.free rfl) (by simp) (.inr rfl)
  · skip
    refine Safe.condN rfl hc449 ?_
    repeat (first | refine Safe.seq ?_ | refine Safe.skip ?_ | with_reducible refine thenQ.n ?_ | with_reducible refine blockQ.n ?_)
    refine Safe.region ?_
    refine SafeOps.quiet0 E_good rfl rfl rfl (v := V.bool x_447) (.fn rfl) ?_
    refine SafeOps.quiet0 E_good rfl rfl rfl (v := V.bool x_447) (.fn rfl) ?_
    refine SafeOps.bsplit 8 18 (fun b_453 => go_ravellaw12_LifeLegal_j1 a0_431 b_453 = some r) (fun HJ454 => ?_) (fun b_453 h => ?_)
    · refine ifG h (fun hc450 h => ?_) (fun hc450 h => ?_)
      · skip
        refine SafeOps.quiet0 E_good (congrArg some hc450) rfl rfl (v := V.int .i64 a0_431) (.fn rfl) ?_
        refine SafeOps.quiet0 E_good (congrArg some hc450) rfl rfl (v := V.int .i64 a1_432) (.fn rfl) ?_
        refine bindG h ?_
        intro x_456 he457 h
        refine SafeOps.quiet0 E_good (congrArg some hc450) rfl rfl (v := V.bool x_456) (.callP rfl rfl (go_life_Legal_sc a0_431 a1_432 _ he457) rfl) ?_
        refine SafeOps.quiet0 E_good (congrArg some hc450) rfl rfl (v := V.int .i64 a0_431) (.fn rfl) ?_
        refine SafeOps.quiet0 E_good (congrArg some hc450) rfl rfl (v := V.int .i64 a1_432) (.fn rfl) ?_
        refine SafeOps.quiet0 E_good (congrArg some hc450) rfl rfl (v := V.bool (go_ravelref12_Legal a0_431 a1_432)) (.callP rfl rfl (go_ravelref12_Legal_sc a0_431 a1_432 _ rfl) rfl) ?_
        refine SafeOps.quiet0 E_good (congrArg some hc450) rfl rfl (v := V.bool (x_456 == (go_ravelref12_Legal a0_431 a1_432))) (.fn rfl) ?_
        refine SafeOps.quiet0 E_good rfl rfl rfl (v := V.bool (x_456 == (go_ravelref12_Legal a0_431 a1_432))) (.pickK rfl hc450 rfl) ?_
        exact SafeOps.drop' 8 rfl rfl rfl (HJ454 _ h)
      · skip
        refine SafeOps.skip (congrArg some hc450) rfl rfl ?_
        refine SafeOps.skip (congrArg some hc450) rfl rfl ?_
        refine SafeOps.skip (congrArg some hc450) rfl rfl ?_
        refine SafeOps.skip (congrArg some hc450) rfl rfl ?_
        refine SafeOps.skip (congrArg some hc450) rfl rfl ?_
        refine SafeOps.skip (congrArg some hc450) rfl rfl ?_
        refine SafeOps.skip (congrArg some hc450) rfl rfl ?_
        refine SafeOps.quiet0 E_good rfl rfl rfl (v := V.bool false) (.pickK rfl hc450 rfl) ?_
        exact SafeOps.drop' 8 rfl rfl rfl (HJ454 _ h)
    · replace h : go_ravellaw12_LifeLegal_j1 a0_431 b_453 = some r := h
      rw [go_ravellaw12_LifeLegal_j1] at h
      refine SafeOps.quiet0 E_good rfl rfl rfl (v := V.bool b_453) (.fn rfl) ?_
      refine SafeOps.bjoin 6 25 (b := (b_453 && ((go_life_Waits a0_431) == (go_ravelref12_Waits a0_431)))) (b1 := ((go_life_Waits a0_431) == (go_ravelref12_Waits a0_431))) (b0 := false) (fun hc455 K => ?_) (fun hc455 K => ?_) bj_and ?_
      · skip
        refine SafeOps.quiet0 E_good (congrArg some hc455) rfl rfl (v := V.int .i64 a0_431) (.fn rfl) ?_
        refine SafeOps.quiet0 E_good (congrArg some hc455) rfl rfl (v := V.bool (go_life_Waits a0_431)) (.callP rfl rfl (go_life_Waits_sc a0_431 _ rfl) rfl) ?_
        refine SafeOps.quiet0 E_good (congrArg some hc455) rfl rfl (v := V.int .i64 a0_431) (.fn rfl) ?_
        refine SafeOps.quiet0 E_good (congrArg some hc455) rfl rfl (v := V.bool (go_ravelref12_Waits a0_431)) (.callP rfl rfl (go_ravelref12_Waits_sc a0_431 _ rfl) rfl) ?_
        refine SafeOps.quiet0 E_good (congrArg some hc455) rfl rfl (v := V.bool ((go_life_Waits a0_431) == (go_ravelref12_Waits a0_431))) (.fn rfl) ?_
        refine SafeOps.quiet0 E_good rfl rfl rfl (v := V.bool ((go_life_Waits a0_431) == (go_ravelref12_Waits a0_431))) (.pickK rfl hc455 rfl) ?_
        exact SafeOps.drop' 6 rfl rfl rfl K
      · skip
        refine SafeOps.skip (congrArg some hc455) rfl rfl ?_
        refine SafeOps.skip (congrArg some hc455) rfl rfl ?_
        refine SafeOps.skip (congrArg some hc455) rfl rfl ?_
        refine SafeOps.skip (congrArg some hc455) rfl rfl ?_
        refine SafeOps.skip (congrArg some hc455) rfl rfl ?_
        refine SafeOps.quiet0 E_good rfl rfl rfl (v := V.bool false) (.pickK rfl hc455 rfl) ?_
        exact SafeOps.drop' 6 rfl rfl rfl K
      refine SafeOps.quiet0 E_good rfl rfl rfl (v := V.bool (b_453 && ((go_life_Waits a0_431) == (go_ravelref12_Waits a0_431)))) (.fn rfl) ?_
      refine SafeOps.nil ?_
      repeat (first | refine Safe.seq ?_ | refine Safe.skip ?_ | with_reducible refine thenQ.n ?_ | with_reducible refine blockQ.n ?_)
      refine Safe.ret ?_
      repeat (first | with_reducible refine thenQ.r ?_ | with_reducible refine blockQ.r ?_)
      obtain rfl := Option.some.inj h
      exact retQ.gen (vs := [V.bool (b_453 && ((go_life_Waits a0_431) == (go_ravelref12_Waits a0_431)))]) rfl (.tmp (v := V.bool (b_453 && ((go_life_Waits a0_431) == (go_ravelref12_Waits a0_431)))) rfl .nil) (.free rfl) (by simp) (.inr rfl)

@[ext] structure A4_Int where
  a0 : Int
  a1 : Int
  a2 : Int
  a3 : Int
  deriving Inhabited
def A4_Int.cells (x : A4_Int) : List V := [V.int .i64 x.a0, V.int .i64 x.a1, V.int .i64 x.a2, V.int .i64 x.a3]
def A4_Int.zero : A4_Int := ⟨0, 0, 0, 0⟩
def A4_Int.beq (x y : A4_Int) : Bool := ((x.a0 == y.a0) && ((x.a1 == y.a1) && ((x.a2 == y.a2) && ((x.a3 == y.a3) && true))))

@[ext] structure api_Task where
  Id : Int
  Tenant : Int
  Prog : Int
  Pc : Int
  Unit : Int
  Keeps : A4_Int
  State : Int
  Ran : Int
  deriving Inhabited
def api_Task.cells (x : api_Task) : List V := [V.int .i64 x.Id, V.int .i64 x.Tenant, V.int .i64 x.Prog, V.int .i64 x.Pc, V.int .i64 x.Unit, V.int .i64 x.Keeps.a0, V.int .i64 x.Keeps.a1, V.int .i64 x.Keeps.a2, V.int .i64 x.Keeps.a3, V.int .i64 x.State, V.int .i64 x.Ran]
def api_Task.zero : api_Task := ⟨0, 0, 0, 0, 0, ⟨0, 0, 0, 0⟩, 0, 0⟩
def api_Task.beq (x y : api_Task) : Bool := ((x.Id == y.Id) && ((x.Tenant == y.Tenant) && ((x.Prog == y.Prog) && ((x.Pc == y.Pc) && ((x.Unit == y.Unit) && (((x.Keeps.a0 == y.Keeps.a0) && ((x.Keeps.a1 == y.Keeps.a1) && ((x.Keeps.a2 == y.Keeps.a2) && ((x.Keeps.a3 == y.Keeps.a3) && true)))) && ((x.State == y.State) && ((x.Ran == y.Ran) && true))))))))

def go_life_below (a0_471 : Int) (a1_472 : Int) : Bool :=
  ((decide (a0_471 ≥ 0)) && (decide (a0_471 < a1_472)))

theorem go_life_below_sc (a0_471 : Int) (a1_472 : Int) (r : Bool) (h : go_life_below a0_471 a1_472 = r) : SC Tryd.prog gl 28 [V.int .i64 a0_471, V.int .i64 a1_472] (V.bool r) := by
  rw [go_life_below] at h
  refine SC.of E_good Tryd.func28 rfl (fun _ _ => Tryd.call28 _ _) rfl ?_
  repeat (first | refine Safe.seq ?_ | refine Safe.skip ?_ | with_reducible refine thenQ.n ?_ | with_reducible refine blockQ.n ?_)
  refine Safe.region ?_
  refine SafeOps.quiet0 E_good rfl rfl rfl (v := V.bool false) (.fn rfl) ?_
  refine SafeOps.nil ?_
  repeat (first | refine Safe.seq ?_ | refine Safe.skip ?_ | with_reducible refine thenQ.n ?_ | with_reducible refine blockQ.n ?_)
  refine Safe.region ?_
  refine SafeOps.quiet0 E_good rfl rfl rfl (v := V.int .i64 a0_471) (.fn rfl) ?_
  refine SafeOps.quiet0 E_good rfl rfl rfl (v := V.bool (decide (a0_471 ≥ 0))) (.fn rfl) ?_
  refine SafeOps.quiet0 E_good rfl rfl rfl (v := V.bool (decide (a0_471 ≥ 0))) (.fn rfl) ?_
  refine SafeOps.bjoin 4 11 (b := ((decide (a0_471 ≥ 0)) && (decide (a0_471 < a1_472)))) (b1 := decide (a0_471 < a1_472)) (b0 := false) (fun hc474 K => ?_) (fun hc474 K => ?_) bj_and ?_
  · skip
    refine SafeOps.quiet0 E_good (congrArg some hc474) rfl rfl (v := V.int .i64 a0_471) (.fn rfl) ?_
    refine SafeOps.quiet0 E_good (congrArg some hc474) rfl rfl (v := V.int .i64 a1_472) (.fn rfl) ?_
    refine SafeOps.quiet0 E_good (congrArg some hc474) rfl rfl (v := V.bool (decide (a0_471 < a1_472))) (.fn rfl) ?_
    refine SafeOps.quiet0 E_good rfl rfl rfl (v := V.bool (decide (a0_471 < a1_472))) (.pickK rfl hc474 rfl) ?_
    exact SafeOps.drop' 4 rfl rfl rfl K
  · skip
    refine SafeOps.skip (congrArg some hc474) rfl rfl ?_
    refine SafeOps.skip (congrArg some hc474) rfl rfl ?_
    refine SafeOps.skip (congrArg some hc474) rfl rfl ?_
    refine SafeOps.quiet0 E_good rfl rfl rfl (v := V.bool false) (.pickK rfl hc474 rfl) ?_
    exact SafeOps.drop' 4 rfl rfl rfl K
  refine SafeOps.quiet0 E_good rfl rfl rfl (v := V.bool ((decide (a0_471 ≥ 0)) && (decide (a0_471 < a1_472)))) (.fn rfl) ?_
  refine SafeOps.nil ?_
  repeat (first | refine Safe.seq ?_ | refine Safe.skip ?_ | with_reducible refine thenQ.n ?_ | with_reducible refine blockQ.n ?_)
  refine Safe.ret ?_
  repeat (first | with_reducible refine thenQ.r ?_ | with_reducible refine blockQ.r ?_)
  obtain rfl := h
  exact retQ.gen (vs := [V.bool ((decide (a0_471 ≥ 0)) && (decide (a0_471 < a1_472)))]) rfl (.tmp (v := V.bool ((decide (a0_471 ≥ 0)) && (decide (a0_471 < a1_472)))) rfl .nil) (.free rfl) (by simp) (.inr rfl)

noncomputable def go_slices_Min_int64_int64_s1 (a0_482 : List Int) : (Int × Int) → Option ((Int × Int) ⊕ (Int))
  | (v3_504, v4_505) =>
    if (decide (v4_505 < (a0_482.length : Int))) = true then
      if 0 ≤ v4_505 ∧ v4_505 < (a0_482.length : Int) then
        nextO ((if (gt a0_482 v4_505) < v3_504 then (gt a0_482 v4_505) else v3_504), IntKind.i64.wrap (v4_505 + 1))
      else none
    else
      inrO (
        some v3_504)

noncomputable def go_slices_Min_int64_int64 (a0_482 : List Int) : Option Int :=
  if (decide ((a0_482.length : Int) < 1)) = true then
    none
  else
    if 0 ≤ (0 : Int) ∧ (0 : Int) < (a0_482.length : Int) then
      whileO (go_slices_Min_int64_int64_s1 a0_482) ((gt a0_482 0), 1)
    else none

theorem go_slices_Min_int64_int64_sc (a0_482 : List Int) (r : Int) (h : go_slices_Min_int64_int64 a0_482 = some r) : SC Tryd.prog gl 29 [V.sl 1 (rws (fun n => [V.int .i64 n]) a0_482)] (V.int .i64 r) := by
  rw [go_slices_Min_int64_int64] at h
  refine SC.of E_good Tryd.func29 rfl (fun _ _ => Tryd.call29 _ _) rfl ?_
  repeat (first | refine Safe.seq ?_ | refine Safe.skip ?_ | with_reducible refine thenQ.n ?_ | with_reducible refine blockQ.n ?_)
  refine Safe.region ?_
  refine SafeOps.quiet0 E_good rfl rfl rfl (v := V.int .i64 0) (.fn rfl) ?_
  refine SafeOps.nil ?_
  repeat (first | refine Safe.seq ?_ | refine Safe.skip ?_ | with_reducible refine thenQ.n ?_ | with_reducible refine blockQ.n ?_)
  refine Safe.region ?_
  refine SafeOps.quiet0 E_good rfl rfl rfl (v := V.sl 1 (rws (fun n => [V.int .i64 n]) a0_482)) (.fn rfl) ?_
  refine SafeOps.quiet0 E_good rfl rfl rfl (v := V.int .i64 (a0_482.length : Int)) (.fnE rfl lenE) ?_
  refine SafeOps.quiet0 E_good rfl rfl rfl (v := V.bool (decide ((a0_482.length : Int) < 1))) (.fn rfl) ?_
  refine SafeOps.nil ?_
  repeat (first | refine Safe.seq ?_ | refine Safe.skip ?_ | with_reducible refine thenQ.n ?_ | with_reducible refine blockQ.n ?_)
  refine ifG h (fun hc496 h => ?_) (fun hc496 h => ?_)
  · skip
    refine Safe.condK rfl hc496 ?_
    repeat (first | refine Safe.seq ?_ | refine Safe.skip ?_ | with_reducible refine thenQ.n ?_ | with_reducible refine blockQ.n ?_)
    refine Safe.region ?_
    cases h
  · skip
    refine Safe.condN rfl hc496 ?_
    repeat (first | refine Safe.seq ?_ | refine Safe.skip ?_ | with_reducible refine thenQ.n ?_ | with_reducible refine blockQ.n ?_)
    refine Safe.region ?_
    refine SafeOps.quiet0 E_good rfl rfl rfl (v := V.sl 1 (rws (fun n => [V.int .i64 n]) a0_482)) (.fn rfl) ?_
    refine okG h (fun hb497 h => ?_)
    refine SafeOps.quiet0 E_good rfl rfl rfl (v := V.spt 1 (rws (fun n => [V.int .i64 n]) a0_482) (Int.toNat 0) 0) (.idxSlM (f := (fun n => [V.int .i64 n])) rfl rfl rfl rfl rfl hb497) ?_
    refine SafeOps.quiet0 E_good rfl rfl rfl (v := V.int .i64 (gt a0_482 0)) (.load rfl rfl (.sptM (f := (fun n => [V.int .i64 n])) hb497 rfl) rfl) ?_
    refine SafeOps.quiet0 E_good rfl rfl rfl (v := V.int .i64 (gt a0_482 0)) (.fn rfl) ?_
    refine SafeOps.nil ?_
    repeat (first | refine Safe.seq ?_ | refine Safe.skip ?_ | with_reducible refine thenQ.n ?_ | with_reducible refine blockQ.n ?_)
    refine Safe.region ?_
    refine SafeOps.quiet0 E_good rfl rfl rfl (v := V.int .i64 1) (.fn rfl) ?_
    refine SafeOps.nil ?_
    repeat (first | refine Safe.seq ?_ | refine Safe.skip ?_ | with_reducible refine thenQ.n ?_ | with_reducible refine blockQ.n ?_)
    refine Safe.block ?_
    repeat (first | refine Safe.seq ?_ | refine Safe.skip ?_ | with_reducible refine thenQ.n ?_ | with_reducible refine blockQ.n ?_)
    refine Safe.loopW (fun ((v3_504, v4_505) : Int × Int) => ⟨Tryd.f29.ntmps, [(0, V.sl 1 (rws (fun n => [V.int .i64 n]) a0_482)), (3, V.int .i64 v3_504), (4, V.int .i64 v4_505)], [], [], []⟩) h (.cov ⟨rfl, rfl, (upT_cons (.refl _) (upT_cons (.refl _) (upT_cons (.refl _) upT_nil))), upOb_nil, upOut_nil, rfl⟩) ?_
    rintro ⟨v3_504, v4_505⟩ ohr506 h hr506
    replace h : go_slices_Min_int64_int64_s1 a0_482 (v3_504, v4_505) = some ohr506 := h
    rw [go_slices_Min_int64_int64_s1] at h
    repeat (first | refine Safe.seq ?_ | refine Safe.skip ?_ | with_reducible refine thenQ.n ?_ | with_reducible refine blockQ.n ?_)
    refine Safe.region ?_
    refine SafeOps.quiet0 E_good rfl rfl rfl (v := V.int .i64 v4_505) (.fn rfl) ?_
    refine SafeOps.quiet0 E_good rfl rfl rfl (v := V.sl 1 (rws (fun n => [V.int .i64 n]) a0_482)) (.fn rfl) ?_
    refine SafeOps.quiet0 E_good rfl rfl rfl (v := V.int .i64 (a0_482.length : Int)) (.fnE rfl lenE) ?_
    refine SafeOps.quiet0 E_good rfl rfl rfl (v := V.bool (decide (v4_505 < (a0_482.length : Int)))) (.fn rfl) ?_
    refine SafeOps.nil ?_
    repeat (first | refine Safe.seq ?_ | refine Safe.skip ?_ | with_reducible refine thenQ.n ?_ | with_reducible refine blockQ.n ?_)
    refine ifG h (fun hc507 h => ?_) (fun hc507 h => ?_)
    · skip
      refine Safe.condK rfl hc507 ?_
      repeat (first | refine Safe.seq ?_ | refine Safe.skip ?_ | with_reducible refine thenQ.n ?_ | with_reducible refine blockQ.n ?_)
      refine Safe.block ?_
      repeat (first | refine Safe.seq ?_ | refine Safe.skip ?_ | with_reducible refine thenQ.n ?_ | with_reducible refine blockQ.n ?_)
      refine Safe.region ?_
      refine SafeOps.quiet0 E_good rfl rfl rfl (v := V.int .i64 v3_504) (.fn rfl) ?_
      refine SafeOps.quiet0 E_good rfl rfl rfl (v := V.sl 1 (rws (fun n => [V.int .i64 n]) a0_482)) (.fn rfl) ?_
      refine SafeOps.quiet0 E_good rfl rfl rfl (v := V.int .i64 v4_505) (.fn rfl) ?_
      refine okG h (fun hb508 h => ?_)
      refine SafeOps.quiet0 E_good rfl rfl rfl (v := V.spt 1 (rws (fun n => [V.int .i64 n]) a0_482) (Int.toNat v4_505) 0) (.idxSlM (f := (fun n => [V.int .i64 n])) rfl rfl rfl rfl rfl hb508) ?_
      refine SafeOps.quiet0 E_good rfl rfl rfl (v := V.int .i64 (gt a0_482 v4_505)) (.load rfl rfl (.sptM (f := (fun n => [V.int .i64 n])) hb508 rfl) rfl) ?_
      refine SafeOps.quiet0 E_good rfl rfl rfl (v := V.int .i64 (if (gt a0_482 v4_505) < v3_504 then (gt a0_482 v4_505) else v3_504)) (.fn rfl) ?_
      refine SafeOps.quiet0 E_good rfl rfl rfl (v := V.int .i64 (if (gt a0_482 v4_505) < v3_504 then (gt a0_482 v4_505) else v3_504)) (.fn rfl) ?_
      refine SafeOps.nil ?_
      repeat (first | refine Safe.seq ?_ | refine Safe.skip ?_ | with_reducible refine thenQ.n ?_ | with_reducible refine blockQ.n ?_)
      refine Safe.region ?_
      refine SafeOps.quiet0 E_good rfl rfl rfl (v := V.int .i64 v4_505) (.fn rfl) ?_
      refine SafeOps.quiet0 E_good rfl rfl rfl (v := V.int .i64 (IntKind.i64.wrap (v4_505 + 1))) (.fn rfl) ?_
      refine SafeOps.quiet0 E_good rfl rfl rfl (v := V.int .i64 (IntKind.i64.wrap (v4_505 + 1))) (.fn rfl) ?_
      refine SafeOps.nil ?_
      repeat (first | refine Safe.seq ?_ | refine Safe.skip ?_ | with_reducible refine thenQ.n ?_ | with_reducible refine blockQ.n ?_)
      exact ⟨_, next_out h, (.cov ⟨rfl, rfl, (upT_cons (.refl _) (upT_cons (.refl _) (upT_cons (.refl _) upT_nil))), upOb_nil, upOut_nil, rfl⟩)⟩
    · skip
      refine Safe.condN rfl hc507 ?_
      repeat (first | refine Safe.seq ?_ | refine Safe.skip ?_ | with_reducible refine thenQ.n ?_ | with_reducible refine blockQ.n ?_)
      refine Safe.exit ?_
      repeat (first | with_reducible refine thenQ.e ?_ | with_reducible refine blockQ.x rfl ?_ | with_reducible refine blockQ.y rfl ?_)
      replace h := inr_out h hr506
      repeat (first | refine Safe.seq ?_ | refine Safe.skip ?_ | with_reducible refine thenQ.n ?_ | with_reducible refine blockQ.n ?_)
      refine Safe.region ?_
      refine SafeOps.quiet0 E_good rfl rfl rfl (v := V.int .i64 v3_504) (.fn rfl) ?_
      refine SafeOps.quiet0 E_good rfl rfl rfl (v := V.int .i64 v3_504) (.fn rfl) ?_
      refine SafeOps.nil ?_
      repeat (first | refine Safe.seq ?_ | refine Safe.skip ?_ | with_reducible refine thenQ.n ?_ | with_reducible refine blockQ.n ?_)
      refine Safe.ret ?_
      repeat (first | with_reducible refine thenQ.r ?_ | with_reducible refine blockQ.r ?_)
      obtain rfl := Option.some.inj h
      exact retQ.gen (vs := [V.int .i64 v3_504]) rfl (.tmp (v := V.int .i64 v3_504) rfl .nil) (.free rfl) (by simp) (.inr rfl)

noncomputable def go_life_Check (a0_469 : api_Task) : Option Int :=
  if (!((((((((decide (a0_469.Id ≥ 0)) && (go_life_below a0_469.Tenant 16)) && (go_life_below a0_469.Prog 16)) && (go_life_below a0_469.Pc 33)) && (go_life_below a0_469.Unit 100)) && (go_life_state a0_469.State)) && (decide (a0_469.Ran ≥ 0))) && (decide (a0_469.Ran ≤ 1099511627776)))) = true then
    some 1
  else
    (go_slices_Min_int64_int64 [a0_469.Keeps.a0, a0_469.Keeps.a1, a0_469.Keeps.a2, a0_469.Keeps.a3]).bind fun x_1033 =>
    if (decide (x_1033 < (-1))) = true then
      some 1
    else
      some 0

theorem go_life_Check_sc (a0_469 : api_Task) (r : Int) (h : go_life_Check a0_469 = some r) : SC Tryd.prog gl 22 [V.agg [V.int .i64 a0_469.Id, V.int .i64 a0_469.Tenant, V.int .i64 a0_469.Prog, V.int .i64 a0_469.Pc, V.int .i64 a0_469.Unit, V.int .i64 a0_469.Keeps.a0, V.int .i64 a0_469.Keeps.a1, V.int .i64 a0_469.Keeps.a2, V.int .i64 a0_469.Keeps.a3, V.int .i64 a0_469.State, V.int .i64 a0_469.Ran]] (V.int .i64 r) := by
  rw [go_life_Check] at h
  refine SC.of E_good Tryd.func22 rfl (fun _ _ => Tryd.call22 _ _) rfl ?_
  repeat (first | refine Safe.seq ?_ | refine Safe.skip ?_ | with_reducible refine thenQ.n ?_ | with_reducible refine blockQ.n ?_)
  refine Safe.region ?_
  refine SafeOps.quiet1 E_good rfl rfl rfl (.box rfl rfl) rfl ?_
  refine SafeOps.quiet0 E_good rfl rfl rfl (v := V.int .i64 0) (.fn rfl) ?_
  refine SafeOps.nil ?_
  repeat (first | refine Safe.seq ?_ | refine Safe.skip ?_ | with_reducible refine thenQ.n ?_ | with_reducible refine blockQ.n ?_)
  refine Safe.region ?_
  refine SafeOps.quiet0 E_good rfl rfl rfl (v := V.ptr [1] 0 0) (.fn rfl) ?_
  refine SafeOps.quiet0 E_good rfl rfl rfl (v := V.int .i64 a0_469.Id) (.load rfl rfl (.box rfl rfl) rfl) ?_
  refine SafeOps.quiet0 E_good rfl rfl rfl (v := V.bool (decide (a0_469.Id ≥ 0))) (.fn rfl) ?_
  refine SafeOps.quiet0 E_good rfl rfl rfl (v := V.bool (decide (a0_469.Id ≥ 0))) (.fn rfl) ?_
  refine SafeOps.bjoin 4 11 (b := ((decide (a0_469.Id ≥ 0)) && (go_life_below a0_469.Tenant 16))) (b1 := go_life_below a0_469.Tenant 16) (b0 := false) (fun hc1023 K => ?_) (fun hc1023 K => ?_) bj_and ?_
  · skip
    refine SafeOps.quiet0 E_good (congrArg some hc1023) rfl rfl (v := V.ptr [1] 0 1) (.fn rfl) ?_
    refine SafeOps.quiet0 E_good (congrArg some hc1023) rfl rfl (v := V.int .i64 a0_469.Tenant) (.load rfl rfl (.box rfl rfl) rfl) ?_
    refine SafeOps.quiet0 E_good (congrArg some hc1023) rfl rfl (v := V.bool (go_life_below a0_469.Tenant 16)) (.callP rfl rfl (go_life_below_sc a0_469.Tenant 16 _ rfl) rfl) ?_
    refine SafeOps.quiet0 E_good rfl rfl rfl (v := V.bool (go_life_below a0_469.Tenant 16)) (.pickK rfl hc1023 rfl) ?_
    exact SafeOps.drop' 4 rfl rfl rfl K
  · skip
    refine SafeOps.skip (congrArg some hc1023) rfl rfl ?_
    refine SafeOps.skip (congrArg some hc1023) rfl rfl ?_
    refine SafeOps.skip (congrArg some hc1023) rfl rfl ?_
    refine SafeOps.quiet0 E_good rfl rfl rfl (v := V.bool false) (.pickK rfl hc1023 rfl) ?_
    exact SafeOps.drop' 4 rfl rfl rfl K
  refine SafeOps.quiet0 E_good rfl rfl rfl (v := V.bool ((decide (a0_469.Id ≥ 0)) && (go_life_below a0_469.Tenant 16))) (.fn rfl) ?_
  refine SafeOps.bjoin 4 16 (b := (((decide (a0_469.Id ≥ 0)) && (go_life_below a0_469.Tenant 16)) && (go_life_below a0_469.Prog 16))) (b1 := go_life_below a0_469.Prog 16) (b0 := false) (fun hc1024 K => ?_) (fun hc1024 K => ?_) bj_and ?_
  · skip
    refine SafeOps.quiet0 E_good (congrArg some hc1024) rfl rfl (v := V.ptr [1] 0 2) (.fn rfl) ?_
    refine SafeOps.quiet0 E_good (congrArg some hc1024) rfl rfl (v := V.int .i64 a0_469.Prog) (.load rfl rfl (.box rfl rfl) rfl) ?_
    refine SafeOps.quiet0 E_good (congrArg some hc1024) rfl rfl (v := V.bool (go_life_below a0_469.Prog 16)) (.callP rfl rfl (go_life_below_sc a0_469.Prog 16 _ rfl) rfl) ?_
    refine SafeOps.quiet0 E_good rfl rfl rfl (v := V.bool (go_life_below a0_469.Prog 16)) (.pickK rfl hc1024 rfl) ?_
    exact SafeOps.drop' 4 rfl rfl rfl K
  · skip
    refine SafeOps.skip (congrArg some hc1024) rfl rfl ?_
    refine SafeOps.skip (congrArg some hc1024) rfl rfl ?_
    refine SafeOps.skip (congrArg some hc1024) rfl rfl ?_
    refine SafeOps.quiet0 E_good rfl rfl rfl (v := V.bool false) (.pickK rfl hc1024 rfl) ?_
    exact SafeOps.drop' 4 rfl rfl rfl K
  refine SafeOps.quiet0 E_good rfl rfl rfl (v := V.bool (((decide (a0_469.Id ≥ 0)) && (go_life_below a0_469.Tenant 16)) && (go_life_below a0_469.Prog 16))) (.fn rfl) ?_
  refine SafeOps.bjoin 4 21 (b := ((((decide (a0_469.Id ≥ 0)) && (go_life_below a0_469.Tenant 16)) && (go_life_below a0_469.Prog 16)) && (go_life_below a0_469.Pc 33))) (b1 := go_life_below a0_469.Pc 33) (b0 := false) (fun hc1025 K => ?_) (fun hc1025 K => ?_) bj_and ?_
  · skip
    refine SafeOps.quiet0 E_good (congrArg some hc1025) rfl rfl (v := V.ptr [1] 0 3) (.fn rfl) ?_
    refine SafeOps.quiet0 E_good (congrArg some hc1025) rfl rfl (v := V.int .i64 a0_469.Pc) (.load rfl rfl (.box rfl rfl) rfl) ?_
    refine SafeOps.quiet0 E_good (congrArg some hc1025) rfl rfl (v := V.bool (go_life_below a0_469.Pc 33)) (.callP rfl rfl (go_life_below_sc a0_469.Pc 33 _ rfl) rfl) ?_
    refine SafeOps.quiet0 E_good rfl rfl rfl (v := V.bool (go_life_below a0_469.Pc 33)) (.pickK rfl hc1025 rfl) ?_
    exact SafeOps.drop' 4 rfl rfl rfl K
  · skip
    refine SafeOps.skip (congrArg some hc1025) rfl rfl ?_
    refine SafeOps.skip (congrArg some hc1025) rfl rfl ?_
    refine SafeOps.skip (congrArg some hc1025) rfl rfl ?_
    refine SafeOps.quiet0 E_good rfl rfl rfl (v := V.bool false) (.pickK rfl hc1025 rfl) ?_
    exact SafeOps.drop' 4 rfl rfl rfl K
  refine SafeOps.quiet0 E_good rfl rfl rfl (v := V.bool ((((decide (a0_469.Id ≥ 0)) && (go_life_below a0_469.Tenant 16)) && (go_life_below a0_469.Prog 16)) && (go_life_below a0_469.Pc 33))) (.fn rfl) ?_
  refine SafeOps.bjoin 4 26 (b := (((((decide (a0_469.Id ≥ 0)) && (go_life_below a0_469.Tenant 16)) && (go_life_below a0_469.Prog 16)) && (go_life_below a0_469.Pc 33)) && (go_life_below a0_469.Unit 100))) (b1 := go_life_below a0_469.Unit 100) (b0 := false) (fun hc1026 K => ?_) (fun hc1026 K => ?_) bj_and ?_
  · skip
    refine SafeOps.quiet0 E_good (congrArg some hc1026) rfl rfl (v := V.ptr [1] 0 4) (.fn rfl) ?_
    refine SafeOps.quiet0 E_good (congrArg some hc1026) rfl rfl (v := V.int .i64 a0_469.Unit) (.load rfl rfl (.box rfl rfl) rfl) ?_
    refine SafeOps.quiet0 E_good (congrArg some hc1026) rfl rfl (v := V.bool (go_life_below a0_469.Unit 100)) (.callP rfl rfl (go_life_below_sc a0_469.Unit 100 _ rfl) rfl) ?_
    refine SafeOps.quiet0 E_good rfl rfl rfl (v := V.bool (go_life_below a0_469.Unit 100)) (.pickK rfl hc1026 rfl) ?_
    exact SafeOps.drop' 4 rfl rfl rfl K
  · skip
    refine SafeOps.skip (congrArg some hc1026) rfl rfl ?_
    refine SafeOps.skip (congrArg some hc1026) rfl rfl ?_
    refine SafeOps.skip (congrArg some hc1026) rfl rfl ?_
    refine SafeOps.quiet0 E_good rfl rfl rfl (v := V.bool false) (.pickK rfl hc1026 rfl) ?_
    exact SafeOps.drop' 4 rfl rfl rfl K
  refine SafeOps.quiet0 E_good rfl rfl rfl (v := V.bool (((((decide (a0_469.Id ≥ 0)) && (go_life_below a0_469.Tenant 16)) && (go_life_below a0_469.Prog 16)) && (go_life_below a0_469.Pc 33)) && (go_life_below a0_469.Unit 100))) (.fn rfl) ?_
  refine SafeOps.bjoin 4 31 (b := ((((((decide (a0_469.Id ≥ 0)) && (go_life_below a0_469.Tenant 16)) && (go_life_below a0_469.Prog 16)) && (go_life_below a0_469.Pc 33)) && (go_life_below a0_469.Unit 100)) && (go_life_state a0_469.State))) (b1 := go_life_state a0_469.State) (b0 := false) (fun hc1027 K => ?_) (fun hc1027 K => ?_) bj_and ?_
  · skip
    refine SafeOps.quiet0 E_good (congrArg some hc1027) rfl rfl (v := V.ptr [1] 0 9) (.fn rfl) ?_
    refine SafeOps.quiet0 E_good (congrArg some hc1027) rfl rfl (v := V.int .i64 a0_469.State) (.load rfl rfl (.box rfl rfl) rfl) ?_
    refine SafeOps.quiet0 E_good (congrArg some hc1027) rfl rfl (v := V.bool (go_life_state a0_469.State)) (.callP rfl rfl (go_life_state_sc a0_469.State _ rfl) rfl) ?_
    refine SafeOps.quiet0 E_good rfl rfl rfl (v := V.bool (go_life_state a0_469.State)) (.pickK rfl hc1027 rfl) ?_
    exact SafeOps.drop' 4 rfl rfl rfl K
  · skip
    refine SafeOps.skip (congrArg some hc1027) rfl rfl ?_
    refine SafeOps.skip (congrArg some hc1027) rfl rfl ?_
    refine SafeOps.skip (congrArg some hc1027) rfl rfl ?_
    refine SafeOps.quiet0 E_good rfl rfl rfl (v := V.bool false) (.pickK rfl hc1027 rfl) ?_
    exact SafeOps.drop' 4 rfl rfl rfl K
  refine SafeOps.quiet0 E_good rfl rfl rfl (v := V.bool ((((((decide (a0_469.Id ≥ 0)) && (go_life_below a0_469.Tenant 16)) && (go_life_below a0_469.Prog 16)) && (go_life_below a0_469.Pc 33)) && (go_life_below a0_469.Unit 100)) && (go_life_state a0_469.State))) (.fn rfl) ?_
  refine SafeOps.bjoin 4 36 (b := (((((((decide (a0_469.Id ≥ 0)) && (go_life_below a0_469.Tenant 16)) && (go_life_below a0_469.Prog 16)) && (go_life_below a0_469.Pc 33)) && (go_life_below a0_469.Unit 100)) && (go_life_state a0_469.State)) && (decide (a0_469.Ran ≥ 0)))) (b1 := decide (a0_469.Ran ≥ 0)) (b0 := false) (fun hc1028 K => ?_) (fun hc1028 K => ?_) bj_and ?_
  · skip
    refine SafeOps.quiet0 E_good (congrArg some hc1028) rfl rfl (v := V.ptr [1] 0 10) (.fn rfl) ?_
    refine SafeOps.quiet0 E_good (congrArg some hc1028) rfl rfl (v := V.int .i64 a0_469.Ran) (.load rfl rfl (.box rfl rfl) rfl) ?_
    refine SafeOps.quiet0 E_good (congrArg some hc1028) rfl rfl (v := V.bool (decide (a0_469.Ran ≥ 0))) (.fn rfl) ?_
    refine SafeOps.quiet0 E_good rfl rfl rfl (v := V.bool (decide (a0_469.Ran ≥ 0))) (.pickK rfl hc1028 rfl) ?_
    exact SafeOps.drop' 4 rfl rfl rfl K
  · skip
    refine SafeOps.skip (congrArg some hc1028) rfl rfl ?_
    refine SafeOps.skip (congrArg some hc1028) rfl rfl ?_
    refine SafeOps.skip (congrArg some hc1028) rfl rfl ?_
    refine SafeOps.quiet0 E_good rfl rfl rfl (v := V.bool false) (.pickK rfl hc1028 rfl) ?_
    exact SafeOps.drop' 4 rfl rfl rfl K
  refine SafeOps.quiet0 E_good rfl rfl rfl (v := V.bool (((((((decide (a0_469.Id ≥ 0)) && (go_life_below a0_469.Tenant 16)) && (go_life_below a0_469.Prog 16)) && (go_life_below a0_469.Pc 33)) && (go_life_below a0_469.Unit 100)) && (go_life_state a0_469.State)) && (decide (a0_469.Ran ≥ 0)))) (.fn rfl) ?_
  refine SafeOps.bjoin 4 41 (b := ((((((((decide (a0_469.Id ≥ 0)) && (go_life_below a0_469.Tenant 16)) && (go_life_below a0_469.Prog 16)) && (go_life_below a0_469.Pc 33)) && (go_life_below a0_469.Unit 100)) && (go_life_state a0_469.State)) && (decide (a0_469.Ran ≥ 0))) && (decide (a0_469.Ran ≤ 1099511627776)))) (b1 := decide (a0_469.Ran ≤ 1099511627776)) (b0 := false) (fun hc1029 K => ?_) (fun hc1029 K => ?_) bj_and ?_
  · skip
    refine SafeOps.quiet0 E_good (congrArg some hc1029) rfl rfl (v := V.ptr [1] 0 10) (.fn rfl) ?_
    refine SafeOps.quiet0 E_good (congrArg some hc1029) rfl rfl (v := V.int .i64 a0_469.Ran) (.load rfl rfl (.box rfl rfl) rfl) ?_
    refine SafeOps.quiet0 E_good (congrArg some hc1029) rfl rfl (v := V.bool (decide (a0_469.Ran ≤ 1099511627776))) (.fn rfl) ?_
    refine SafeOps.quiet0 E_good rfl rfl rfl (v := V.bool (decide (a0_469.Ran ≤ 1099511627776))) (.pickK rfl hc1029 rfl) ?_
    exact SafeOps.drop' 4 rfl rfl rfl K
  · skip
    refine SafeOps.skip (congrArg some hc1029) rfl rfl ?_
    refine SafeOps.skip (congrArg some hc1029) rfl rfl ?_
    refine SafeOps.skip (congrArg some hc1029) rfl rfl ?_
    refine SafeOps.quiet0 E_good rfl rfl rfl (v := V.bool false) (.pickK rfl hc1029 rfl) ?_
    exact SafeOps.drop' 4 rfl rfl rfl K
  refine SafeOps.quiet0 E_good rfl rfl rfl (v := V.bool ((((((((decide (a0_469.Id ≥ 0)) && (go_life_below a0_469.Tenant 16)) && (go_life_below a0_469.Prog 16)) && (go_life_below a0_469.Pc 33)) && (go_life_below a0_469.Unit 100)) && (go_life_state a0_469.State)) && (decide (a0_469.Ran ≥ 0))) && (decide (a0_469.Ran ≤ 1099511627776)))) (.fn rfl) ?_
  refine SafeOps.nil ?_
  repeat (first | refine Safe.seq ?_ | refine Safe.skip ?_ | with_reducible refine thenQ.n ?_ | with_reducible refine blockQ.n ?_)
  refine Safe.region ?_
  refine SafeOps.quiet0 E_good rfl rfl rfl (v := V.bool ((((((((decide (a0_469.Id ≥ 0)) && (go_life_below a0_469.Tenant 16)) && (go_life_below a0_469.Prog 16)) && (go_life_below a0_469.Pc 33)) && (go_life_below a0_469.Unit 100)) && (go_life_state a0_469.State)) && (decide (a0_469.Ran ≥ 0))) && (decide (a0_469.Ran ≤ 1099511627776)))) (.fn rfl) ?_
  refine SafeOps.quiet0 E_good rfl rfl rfl (v := V.bool (!((((((((decide (a0_469.Id ≥ 0)) && (go_life_below a0_469.Tenant 16)) && (go_life_below a0_469.Prog 16)) && (go_life_below a0_469.Pc 33)) && (go_life_below a0_469.Unit 100)) && (go_life_state a0_469.State)) && (decide (a0_469.Ran ≥ 0))) && (decide (a0_469.Ran ≤ 1099511627776))))) (.fn rfl) ?_
  refine SafeOps.quiet0 E_good rfl rfl rfl (v := V.bool (!((((((((decide (a0_469.Id ≥ 0)) && (go_life_below a0_469.Tenant 16)) && (go_life_below a0_469.Prog 16)) && (go_life_below a0_469.Pc 33)) && (go_life_below a0_469.Unit 100)) && (go_life_state a0_469.State)) && (decide (a0_469.Ran ≥ 0))) && (decide (a0_469.Ran ≤ 1099511627776))))) (.fn rfl) ?_
  refine ifG h (fun hc1030 h => ?_) (fun hc1030 h => ?_)
  · skip
    refine SafeOps.skip (congrArg (fun b => some (!b)) hc1030) rfl rfl ?_
    refine SafeOps.skip (congrArg (fun b => some (!b)) hc1030) rfl rfl ?_
    refine SafeOps.skip (congrArg (fun b => some (!b)) hc1030) rfl rfl ?_
    refine SafeOps.skip (congrArg (fun b => some (!b)) hc1030) rfl rfl ?_
    refine SafeOps.quiet0 E_good rfl rfl rfl (v := V.bool true) (.pickK rfl hc1030 rfl) ?_
    refine SafeOps.nil ?_
    repeat (first | refine Safe.seq ?_ | refine Safe.skip ?_ | with_reducible refine thenQ.n ?_ | with_reducible refine blockQ.n ?_)
    refine Safe.condK rfl rfl ?_
    repeat (first | refine Safe.seq ?_ | refine Safe.skip ?_ | with_reducible refine thenQ.n ?_ | with_reducible refine blockQ.n ?_)
    refine Safe.region ?_
    refine SafeOps.quiet0 E_good rfl rfl rfl (v := V.int .i64 1) (.fn rfl) ?_
    refine SafeOps.nil ?_
    repeat (first | refine Safe.seq ?_ | refine Safe.skip ?_ | with_reducible refine thenQ.n ?_ | with_reducible refine blockQ.n ?_)
    refine Safe.ret ?_
    repeat (first | with_reducible refine thenQ.r ?_ | with_reducible refine blockQ.r ?_)
    obtain rfl := Option.some.inj h
    exact retQ.gen (vs := [V.int .i64 1]) rfl (.tmp (v := V.int .i64 1) rfl .nil) (.free rfl) (by simp) (.inr rfl)
  · skip
    refine SafeOps.quiet0 E_good (congrArg (fun b => some (!b)) hc1030) rfl rfl (v := V.ptr [1] 0 5) (.fn rfl) ?_
    refine SafeOps.quiet0 E_good (congrArg (fun b => some (!b)) hc1030) rfl rfl (v := V.bref [1] 5 1 4) (.slArrM rfl rfl rfl rfl rfl rfl rfl) ?_
    refine bindG h ?_
    intro x_1033 he1034 h
    refine SafeOps.quiet0 E_good (congrArg (fun b => some (!b)) hc1030) rfl rfl (v := V.int .i64 x_1033) (.callS rfl (.cons (.bref rfl rfl rfl) .nil) (go_slices_Min_int64_int64_sc [a0_469.Keeps.a0, a0_469.Keeps.a1, a0_469.Keeps.a2, a0_469.Keeps.a3] _ he1034) (.plain rfl) rfl) ?_
    refine SafeOps.quiet0 E_good (congrArg (fun b => some (!b)) hc1030) rfl rfl (v := V.bool (decide (x_1033 < (-1)))) (.fn rfl) ?_
    refine SafeOps.quiet0 E_good rfl rfl rfl (v := V.bool (decide (x_1033 < (-1)))) (.pickK rfl hc1030 rfl) ?_
    refine SafeOps.nil ?_
    repeat (first | refine Safe.seq ?_ | refine Safe.skip ?_ | with_reducible refine thenQ.n ?_ | with_reducible refine blockQ.n ?_)
    refine ifG h (fun hc1035 h => ?_) (fun hc1035 h => ?_)
    · skip
      refine Safe.condK rfl hc1035 ?_
      repeat (first | refine Safe.seq ?_ | refine Safe.skip ?_ | with_reducible refine thenQ.n ?_ | with_reducible refine blockQ.n ?_)
      refine Safe.region ?_
      refine SafeOps.quiet0 E_good rfl rfl rfl (v := V.int .i64 1) (.fn rfl) ?_
      refine SafeOps.nil ?_
      repeat (first | refine Safe.seq ?_ | refine Safe.skip ?_ | with_reducible refine thenQ.n ?_ | with_reducible refine blockQ.n ?_)
      refine Safe.ret ?_
      repeat (first | with_reducible refine thenQ.r ?_ | with_reducible refine blockQ.r ?_)
      obtain rfl := Option.some.inj h
      exact retQ.gen (vs := [V.int .i64 1]) rfl (.tmp (v := V.int .i64 1) rfl .nil) (.free rfl) (by simp) (.inr rfl)
    · skip
      refine Safe.condN rfl hc1035 ?_
      repeat (first | refine Safe.seq ?_ | refine Safe.skip ?_ | with_reducible refine thenQ.n ?_ | with_reducible refine blockQ.n ?_)
      refine Safe.region ?_
      refine SafeOps.quiet0 E_good rfl rfl rfl (v := V.int .i64 0) (.fn rfl) ?_
      refine SafeOps.nil ?_
      repeat (first | refine Safe.seq ?_ | refine Safe.skip ?_ | with_reducible refine thenQ.n ?_ | with_reducible refine blockQ.n ?_)
      refine Safe.ret ?_
      repeat (first | with_reducible refine thenQ.r ?_ | with_reducible refine blockQ.r ?_)
      obtain rfl := Option.some.inj h
      exact retQ.gen (vs := [V.int .i64 0]) rfl (.tmp (v := V.int .i64 0) rfl .nil) (.free rfl) (by simp) (.inr rfl)

noncomputable def go_life_Keep (a0_466 : api_Task) (a1_467 : Int) (a2_468 : Int) : Option (api_Task × Int) :=
  (go_life_Check a0_466).bind fun x_1055 =>
  if (((x_1055 != 0) || (!(go_life_below a1_467 4))) || (decide (a2_468 < (-1)))) = true then
    some (api_Task.zero, 1)
  else
    if (a0_466.State == 7) = true then
      some (api_Task.zero, 9)
    else
      if 0 ≤ a1_467 ∧ a1_467 < (4 : Int) then
        some ((api_Task.mk a0_466.Id a0_466.Tenant a0_466.Prog a0_466.Pc a0_466.Unit (A4_Int.mk (if a1_467 = 0 then a2_468 else a0_466.Keeps.a0) (if a1_467 = 1 then a2_468 else a0_466.Keeps.a1) (if a1_467 = 2 then a2_468 else a0_466.Keeps.a2) (if a1_467 = 3 then a2_468 else a0_466.Keeps.a3)) a0_466.State a0_466.Ran), 0)
      else none

theorem go_life_Keep_sc (a0_466 : api_Task) (a1_467 : Int) (a2_468 : Int) (r : api_Task × Int) (h : go_life_Keep a0_466 a1_467 a2_468 = some r) : SC Tryd.prog gl 16 [V.agg [V.int .i64 a0_466.Id, V.int .i64 a0_466.Tenant, V.int .i64 a0_466.Prog, V.int .i64 a0_466.Pc, V.int .i64 a0_466.Unit, V.int .i64 a0_466.Keeps.a0, V.int .i64 a0_466.Keeps.a1, V.int .i64 a0_466.Keeps.a2, V.int .i64 a0_466.Keeps.a3, V.int .i64 a0_466.State, V.int .i64 a0_466.Ran], V.int .i64 a1_467, V.int .i64 a2_468] (V.tup [V.agg [V.int .i64 r.1.Id, V.int .i64 r.1.Tenant, V.int .i64 r.1.Prog, V.int .i64 r.1.Pc, V.int .i64 r.1.Unit, V.int .i64 r.1.Keeps.a0, V.int .i64 r.1.Keeps.a1, V.int .i64 r.1.Keeps.a2, V.int .i64 r.1.Keeps.a3, V.int .i64 r.1.State, V.int .i64 r.1.Ran], V.int .i64 r.2]) := by
  rw [go_life_Keep] at h
  refine SC.of E_good Tryd.func16 rfl (fun _ _ => Tryd.call16 _ _) rfl ?_
  repeat (first | refine Safe.seq ?_ | refine Safe.skip ?_ | with_reducible refine thenQ.n ?_ | with_reducible refine blockQ.n ?_)
  refine Safe.region ?_
  refine SafeOps.quiet1 E_good rfl rfl rfl (.box rfl rfl) rfl ?_
  refine SafeOps.quiet1 E_good rfl rfl rfl (.alloc rfl rfl) rfl ?_
  refine SafeOps.quiet0 E_good rfl rfl rfl (v := V.int .i64 0) (.fn rfl) ?_
  refine SafeOps.nil ?_
  repeat (first | refine Safe.seq ?_ | refine Safe.skip ?_ | with_reducible refine thenQ.n ?_ | with_reducible refine blockQ.n ?_)
  refine Safe.block ?_
  repeat (first | refine Safe.seq ?_ | refine Safe.skip ?_ | with_reducible refine thenQ.n ?_ | with_reducible refine blockQ.n ?_)
  refine Safe.region ?_
  refine SafeOps.quiet0 E_good rfl rfl rfl (v := V.agg [V.int .i64 a0_466.Id, V.int .i64 a0_466.Tenant, V.int .i64 a0_466.Prog, V.int .i64 a0_466.Pc, V.int .i64 a0_466.Unit, V.int .i64 a0_466.Keeps.a0, V.int .i64 a0_466.Keeps.a1, V.int .i64 a0_466.Keeps.a2, V.int .i64 a0_466.Keeps.a3, V.int .i64 a0_466.State, V.int .i64 a0_466.Ran]) (.load rfl rfl (.box rfl rfl) rfl) ?_
  refine bindG h ?_
  intro x_1055 he1056 h
  refine SafeOps.quiet0 E_good rfl rfl rfl (v := V.int .i64 x_1055) (.callP rfl rfl (go_life_Check_sc a0_466 _ he1056) rfl) ?_
  refine SafeOps.quiet0 E_good rfl rfl rfl (v := V.bool (x_1055 != 0)) (.fn rfl) ?_
  refine SafeOps.quiet0 E_good rfl rfl rfl (v := V.bool (x_1055 != 0)) (.fn rfl) ?_
  refine SafeOps.bjoin 4 16 (b := ((x_1055 != 0) || (!(go_life_below a1_467 4)))) (b1 := true) (b0 := (!(go_life_below a1_467 4))) (fun hc1057 K => ?_) (fun hc1057 K => ?_) bj_or ?_
  · skip
    refine SafeOps.skip (congrArg (fun b => some (!b)) hc1057) rfl rfl ?_
    refine SafeOps.skip (congrArg (fun b => some (!b)) hc1057) rfl rfl ?_
    refine SafeOps.skip (congrArg (fun b => some (!b)) hc1057) rfl rfl ?_
    refine SafeOps.quiet0 E_good rfl rfl rfl (v := V.bool true) (.pickK rfl hc1057 rfl) ?_
    exact SafeOps.drop' 4 rfl rfl rfl K
  · skip
    refine SafeOps.quiet0 E_good (congrArg (fun b => some (!b)) hc1057) rfl rfl (v := V.int .i64 a1_467) (.fn rfl) ?_
    refine SafeOps.quiet0 E_good (congrArg (fun b => some (!b)) hc1057) rfl rfl (v := V.bool (go_life_below a1_467 4)) (.callP rfl rfl (go_life_below_sc a1_467 4 _ rfl) rfl) ?_
    refine SafeOps.quiet0 E_good (congrArg (fun b => some (!b)) hc1057) rfl rfl (v := V.bool (!(go_life_below a1_467 4))) (.fn rfl) ?_
    refine SafeOps.quiet0 E_good rfl rfl rfl (v := V.bool (!(go_life_below a1_467 4))) (.pickK rfl hc1057 rfl) ?_
    exact SafeOps.drop' 4 rfl rfl rfl K
  refine SafeOps.quiet0 E_good rfl rfl rfl (v := V.bool ((x_1055 != 0) || (!(go_life_below a1_467 4)))) (.fn rfl) ?_
  refine SafeOps.bjoin 3 20 (b := (((x_1055 != 0) || (!(go_life_below a1_467 4))) || (decide (a2_468 < (-1))))) (b1 := true) (b0 := decide (a2_468 < (-1))) (fun hc1058 K => ?_) (fun hc1058 K => ?_) bj_or ?_
  · skip
    refine SafeOps.skip (congrArg (fun b => some (!b)) hc1058) rfl rfl ?_
    refine SafeOps.skip (congrArg (fun b => some (!b)) hc1058) rfl rfl ?_
    refine SafeOps.quiet0 E_good rfl rfl rfl (v := V.bool true) (.pickK rfl hc1058 rfl) ?_
    exact SafeOps.drop' 3 rfl rfl rfl K
  · skip
    refine SafeOps.quiet0 E_good (congrArg (fun b => some (!b)) hc1058) rfl rfl (v := V.int .i64 a2_468) (.fn rfl) ?_
    refine SafeOps.quiet0 E_good (congrArg (fun b => some (!b)) hc1058) rfl rfl (v := V.bool (decide (a2_468 < (-1)))) (.fn rfl) ?_
    refine SafeOps.quiet0 E_good rfl rfl rfl (v := V.bool (decide (a2_468 < (-1)))) (.pickK rfl hc1058 rfl) ?_
    exact SafeOps.drop' 3 rfl rfl rfl K
  refine SafeOps.quiet0 E_good rfl rfl rfl (v := V.bool (((x_1055 != 0) || (!(go_life_below a1_467 4))) || (decide (a2_468 < (-1))))) (.fn rfl) ?_
  refine SafeOps.nil ?_
  repeat (first | refine Safe.seq ?_ | refine Safe.skip ?_ | with_reducible refine thenQ.n ?_ | with_reducible refine blockQ.n ?_)
  refine ifG h (fun hc1059 h => ?_) (fun hc1059 h => ?_)
  · skip
    refine Safe.condK rfl hc1059 ?_
    repeat (first | refine Safe.seq ?_ | refine Safe.skip ?_ | with_reducible refine thenQ.n ?_ | with_reducible refine blockQ.n ?_)
    refine Safe.region ?_
    refine SafeOps.quiet0 E_good rfl rfl rfl (v := V.agg [V.int .i64 0, V.int .i64 0, V.int .i64 0, V.int .i64 0, V.int .i64 0, V.int .i64 0, V.int .i64 0, V.int .i64 0, V.int .i64 0, V.int .i64 0, V.int .i64 0]) (.fn rfl) ?_
    refine SafeOps.store (z := Obj.box [V.int .i64 0, V.int .i64 0, V.int .i64 0, V.int .i64 0, V.int .i64 0, V.int .i64 0, V.int .i64 0, V.int .i64 0, V.int .i64 0, V.int .i64 0, V.int .i64 0]) E_good rfl rfl rfl rfl rfl rfl rfl (.boxM (c := 11) rfl rfl (Nat.le_of_ble_eq_true rfl) rfl) ?_
    refine SafeOps.quiet0 E_good rfl rfl rfl (v := V.int .i64 1) (.fn rfl) ?_
    refine SafeOps.nil ?_
    repeat (first | refine Safe.seq ?_ | refine Safe.skip ?_ | with_reducible refine thenQ.n ?_ | with_reducible refine blockQ.n ?_)
    refine Safe.ret ?_
    repeat (first | with_reducible refine thenQ.r ?_ | with_reducible refine blockQ.r ?_)
    obtain rfl := Option.some.inj h
    exact retQ.gen (vs := [V.agg [V.int .i64 0, V.int .i64 0, V.int .i64 0, V.int .i64 0, V.int .i64 0, V.int .i64 0, V.int .i64 0, V.int .i64 0, V.int .i64 0, V.int .i64 0, V.int .i64 0], V.int .i64 1]) rfl (.cell (v := V.agg [V.int .i64 0, V.int .i64 0, V.int .i64 0, V.int .i64 0, V.int .i64 0, V.int .i64 0, V.int .i64 0, V.int .i64 0, V.int .i64 0, V.int .i64 0, V.int .i64 0]) rfl rfl (.box rfl rfl) rfl (.tmp (v := V.int .i64 1) rfl .nil)) (.free rfl) (by simp) (.inr rfl)
  · skip
    refine Safe.condN rfl hc1059 ?_
    repeat (first | refine Safe.seq ?_ | refine Safe.skip ?_ | with_reducible refine thenQ.n ?_ | with_reducible refine blockQ.n ?_)
    refine Safe.region ?_
    refine SafeOps.quiet0 E_good rfl rfl rfl (v := V.ptr [3] 0 9) (.fn rfl) ?_
    refine SafeOps.quiet0 E_good rfl rfl rfl (v := V.int .i64 a0_466.State) (.load rfl rfl (.box rfl rfl) rfl) ?_
    refine SafeOps.quiet0 E_good rfl rfl rfl (v := V.bool (a0_466.State == 7)) (.fn rfl) ?_
    refine SafeOps.quiet0 E_good rfl rfl rfl (v := V.bool (a0_466.State == 7)) (.fn rfl) ?_
    refine SafeOps.nil ?_
    repeat (first | refine Safe.seq ?_ | refine Safe.skip ?_ | with_reducible refine thenQ.n ?_ | with_reducible refine blockQ.n ?_)
    refine ifG h (fun hc1060 h => ?_) (fun hc1060 h => ?_)
    · skip
      refine Safe.condK rfl hc1060 ?_
      repeat (first | refine Safe.seq ?_ | refine Safe.skip ?_ | with_reducible refine thenQ.n ?_ | with_reducible refine blockQ.n ?_)
      refine Safe.region ?_
      refine SafeOps.quiet0 E_good rfl rfl rfl (v := V.agg [V.int .i64 0, V.int .i64 0, V.int .i64 0, V.int .i64 0, V.int .i64 0, V.int .i64 0, V.int .i64 0, V.int .i64 0, V.int .i64 0, V.int .i64 0, V.int .i64 0]) (.fn rfl) ?_
      refine SafeOps.store (z := Obj.box [V.int .i64 0, V.int .i64 0, V.int .i64 0, V.int .i64 0, V.int .i64 0, V.int .i64 0, V.int .i64 0, V.int .i64 0, V.int .i64 0, V.int .i64 0, V.int .i64 0]) E_good rfl rfl rfl rfl rfl rfl rfl (.boxM (c := 11) rfl rfl (Nat.le_of_ble_eq_true rfl) rfl) ?_
      refine SafeOps.quiet0 E_good rfl rfl rfl (v := V.int .i64 9) (.fn rfl) ?_
      refine SafeOps.nil ?_
      repeat (first | refine Safe.seq ?_ | refine Safe.skip ?_ | with_reducible refine thenQ.n ?_ | with_reducible refine blockQ.n ?_)
      refine Safe.ret ?_
      repeat (first | with_reducible refine thenQ.r ?_ | with_reducible refine blockQ.r ?_)
      obtain rfl := Option.some.inj h
      exact retQ.gen (vs := [V.agg [V.int .i64 0, V.int .i64 0, V.int .i64 0, V.int .i64 0, V.int .i64 0, V.int .i64 0, V.int .i64 0, V.int .i64 0, V.int .i64 0, V.int .i64 0, V.int .i64 0], V.int .i64 9]) rfl (.cell (v := V.agg [V.int .i64 0, V.int .i64 0, V.int .i64 0, V.int .i64 0, V.int .i64 0, V.int .i64 0, V.int .i64 0, V.int .i64 0, V.int .i64 0, V.int .i64 0, V.int .i64 0]) rfl rfl (.box rfl rfl) rfl (.tmp (v := V.int .i64 9) rfl .nil)) (.free rfl) (by simp) (.inr rfl)
    · skip
      refine Safe.condN rfl hc1060 ?_
      repeat (first | refine Safe.seq ?_ | refine Safe.skip ?_ | with_reducible refine thenQ.n ?_ | with_reducible refine blockQ.n ?_)
      refine Safe.region ?_
      refine SafeOps.quiet0 E_good rfl rfl rfl (v := V.int .i64 a1_467) (.fn rfl) ?_
      refine SafeOps.quiet0 E_good rfl rfl rfl (v := V.int .i64 a2_468) (.fn rfl) ?_
      refine SafeOps.quiet0 E_good rfl rfl rfl (v := V.ptr [3] 0 5) (.fn rfl) ?_
      refine okG h (fun hb1061 h => ?_)
      refine SafeOps.quiet0 E_good rfl rfl rfl (v := V.ptr [3] 0 (5 + Int.toNat a1_467 * 1)) (.idxArrM rfl rfl rfl rfl rfl rfl 4 rfl hb1061) ?_
      refine SafeOps.store (z := Obj.box [V.int .i64 a0_466.Id, V.int .i64 a0_466.Tenant, V.int .i64 a0_466.Prog, V.int .i64 a0_466.Pc, V.int .i64 a0_466.Unit, V.int .i64 (if a1_467 = 0 then a2_468 else a0_466.Keeps.a0), V.int .i64 (if a1_467 = 1 then a2_468 else a0_466.Keeps.a1), V.int .i64 (if a1_467 = 2 then a2_468 else a0_466.Keeps.a2), V.int .i64 (if a1_467 = 3 then a2_468 else a0_466.Keeps.a3), V.int .i64 a0_466.State, V.int .i64 a0_466.Ran]) E_good rfl rfl rfl rfl rfl rfl rfl (.boxM (c := 11) rfl rfl (by have := hb1061; show (5 + Int.toNat a1_467 * 1) + 1 ≤ 11; omega) (by have hq : a1_467 = 0 ∨ a1_467 = 1 ∨ a1_467 = 2 ∨ a1_467 = 3 := (by omega); rcases hq with hq | hq | hq | hq <;> simp only [hq] <;> rfl)) ?_
      refine SafeOps.nil ?_
      repeat (first | refine Safe.seq ?_ | refine Safe.skip ?_ | with_reducible refine thenQ.n ?_ | with_reducible refine blockQ.n ?_)
      refine Safe.region ?_
      refine SafeOps.quiet0 E_good rfl rfl rfl (v := V.agg [V.int .i64 a0_466.Id, V.int .i64 a0_466.Tenant, V.int .i64 a0_466.Prog, V.int .i64 a0_466.Pc, V.int .i64 a0_466.Unit, V.int .i64 (if a1_467 = 0 then a2_468 else a0_466.Keeps.a0), V.int .i64 (if a1_467 = 1 then a2_468 else a0_466.Keeps.a1), V.int .i64 (if a1_467 = 2 then a2_468 else a0_466.Keeps.a2), V.int .i64 (if a1_467 = 3 then a2_468 else a0_466.Keeps.a3), V.int .i64 a0_466.State, V.int .i64 a0_466.Ran]) (.load rfl rfl (.box rfl rfl) rfl) ?_
      refine SafeOps.store (z := Obj.box [V.int .i64 a0_466.Id, V.int .i64 a0_466.Tenant, V.int .i64 a0_466.Prog, V.int .i64 a0_466.Pc, V.int .i64 a0_466.Unit, V.int .i64 (if a1_467 = 0 then a2_468 else a0_466.Keeps.a0), V.int .i64 (if a1_467 = 1 then a2_468 else a0_466.Keeps.a1), V.int .i64 (if a1_467 = 2 then a2_468 else a0_466.Keeps.a2), V.int .i64 (if a1_467 = 3 then a2_468 else a0_466.Keeps.a3), V.int .i64 a0_466.State, V.int .i64 a0_466.Ran]) E_good rfl rfl rfl rfl rfl rfl rfl (.boxM (c := 11) rfl rfl (Nat.le_of_ble_eq_true rfl) rfl) ?_
      refine SafeOps.quiet0 E_good rfl rfl rfl (v := V.int .i64 0) (.fn rfl) ?_
      refine SafeOps.nil ?_
      repeat (first | refine Safe.seq ?_ | refine Safe.skip ?_ | with_reducible refine thenQ.n ?_ | with_reducible refine blockQ.n ?_)
      refine Safe.ret ?_
      repeat (first | with_reducible refine thenQ.r ?_ | with_reducible refine blockQ.r ?_)
      obtain rfl := Option.some.inj h
      exact retQ.gen (vs := [V.agg [V.int .i64 a0_466.Id, V.int .i64 a0_466.Tenant, V.int .i64 a0_466.Prog, V.int .i64 a0_466.Pc, V.int .i64 a0_466.Unit, V.int .i64 (if a1_467 = 0 then a2_468 else a0_466.Keeps.a0), V.int .i64 (if a1_467 = 1 then a2_468 else a0_466.Keeps.a1), V.int .i64 (if a1_467 = 2 then a2_468 else a0_466.Keeps.a2), V.int .i64 (if a1_467 = 3 then a2_468 else a0_466.Keeps.a3), V.int .i64 a0_466.State, V.int .i64 a0_466.Ran], V.int .i64 0]) rfl (.cell (v := V.agg [V.int .i64 a0_466.Id, V.int .i64 a0_466.Tenant, V.int .i64 a0_466.Prog, V.int .i64 a0_466.Pc, V.int .i64 a0_466.Unit, V.int .i64 (if a1_467 = 0 then a2_468 else a0_466.Keeps.a0), V.int .i64 (if a1_467 = 1 then a2_468 else a0_466.Keeps.a1), V.int .i64 (if a1_467 = 2 then a2_468 else a0_466.Keeps.a2), V.int .i64 (if a1_467 = 3 then a2_468 else a0_466.Keeps.a3), V.int .i64 a0_466.State, V.int .i64 a0_466.Ran]) rfl rfl (.box rfl rfl) rfl (.tmp (v := V.int .i64 0) rfl .nil)) (.free rfl) (by simp) (.inr rfl)

theorem okT33 : (eqOk Tryd.prog E 20 33 && !Tryd.prog.eqGuardType Tryd.prog.depth 33) = true := by kernel_rfl

noncomputable def go_ravellaw12_LifeKeeps_j1 (a0_458 : api_Task) (x_1101 : Bool) (x_1104 : api_Task) : Option Bool :=
  some (x_1101 && (api_Task.beq (api_Task.mk x_1104.Id x_1104.Tenant x_1104.Prog x_1104.Pc x_1104.Unit a0_458.Keeps x_1104.State x_1104.Ran) a0_458))

noncomputable def go_ravellaw12_LifeKeeps (a0_458 : api_Task) (a1_459 : Int) (a2_460 : Int) (a3_461 : Int) (a4_462 : Int) : Option Bool :=
  (go_ravellaw12_live).bind fun x_1101 =>
  if (!x_1101) = true then
    some false
  else
    (go_life_Keep a0_458 a1_459 a3_461).bind fun (x_1104, x_1105) =>
    if (x_1105 != 0) = true then
      some (x_1101 && (api_Task.beq x_1104 api_Task.zero))
    else
      if ((decide (a1_459 < 0)) || (decide (a1_459 ≥ 4))) = true then
        some false
      else
        if 0 ≤ a1_459 ∧ a1_459 < (4 : Int) then
          if ((if a1_459 = 0 then x_1104.Keeps.a0 else (if a1_459 = 1 then x_1104.Keeps.a1 else (if a1_459 = 2 then x_1104.Keeps.a2 else x_1104.Keeps.a3))) != a3_461) = true then
            some false
          else
            (go_life_Keep x_1104 a1_459 a4_462).bind fun (x_1115, x_1116) =>
            (go_life_Keep a0_458 a1_459 a4_462).bind fun (x_1118, x_1119) =>
            if ((x_1116 != x_1119) || (!(api_Task.beq x_1115 x_1118))) = true then
              some false
            else
              (go_life_Keep x_1104 a2_460 a4_462).bind fun (x_1123, x_1124) =>
              (go_life_Keep a0_458 a2_460 a4_462).bind fun (x_1126, x_1127) =>
              if (x_1124 != x_1127) = true then
                some false
              else
                if ((x_1124 == 0) && (a2_460 != a1_459)) = true then
                  (go_life_Keep x_1126 a1_459 a3_461).bind fun (x_1139, x_1140) =>
                  if ((x_1140 != 0) || (!(api_Task.beq x_1123 x_1139))) = true then
                    some false
                  else
                    go_ravellaw12_LifeKeeps_j1 a0_458 x_1101 x_1104
                else
                  go_ravellaw12_LifeKeeps_j1 a0_458 x_1101 x_1104
        else none

theorem go_ravellaw12_LifeKeeps_sc (a0_458 : api_Task) (a1_459 : Int) (a2_460 : Int) (a3_461 : Int) (a4_462 : Int) (r : Bool) (h : go_ravellaw12_LifeKeeps a0_458 a1_459 a2_460 a3_461 a4_462 = some r) : SC Tryd.prog gl 6 [V.agg [V.int .i64 a0_458.Id, V.int .i64 a0_458.Tenant, V.int .i64 a0_458.Prog, V.int .i64 a0_458.Pc, V.int .i64 a0_458.Unit, V.int .i64 a0_458.Keeps.a0, V.int .i64 a0_458.Keeps.a1, V.int .i64 a0_458.Keeps.a2, V.int .i64 a0_458.Keeps.a3, V.int .i64 a0_458.State, V.int .i64 a0_458.Ran], V.int .i64 a1_459, V.int .i64 a2_460, V.int .i64 a3_461, V.int .i64 a4_462] (V.bool r) := by
  rw [go_ravellaw12_LifeKeeps] at h
  refine SC.of E_good Tryd.func6 rfl (fun _ _ => Tryd.call6 _ _) rfl ?_
  repeat (first | refine Safe.seq ?_ | refine Safe.skip ?_ | with_reducible refine thenQ.n ?_ | with_reducible refine blockQ.n ?_)
  refine Safe.region ?_
  refine SafeOps.quiet1 E_good rfl rfl rfl (.box rfl rfl) rfl ?_
  refine SafeOps.quiet0 E_good rfl rfl rfl (v := V.bool false) (.fn rfl) ?_
  refine SafeOps.nil ?_
  repeat (first | refine Safe.seq ?_ | refine Safe.skip ?_ | with_reducible refine thenQ.n ?_ | with_reducible refine blockQ.n ?_)
  refine Safe.region ?_
  refine bindG h ?_
  intro x_1101 he1102 h
  refine SafeOps.quiet0 E_good rfl rfl rfl (v := V.bool x_1101) (.callP rfl rfl (go_ravellaw12_live_sc  _ he1102) rfl) ?_
  refine SafeOps.quiet0 E_good rfl rfl rfl (v := V.bool x_1101) (.fn rfl) ?_
  refine SafeOps.nil ?_
  repeat (first | refine Safe.seq ?_ | refine Safe.skip ?_ | with_reducible refine thenQ.n ?_ | with_reducible refine blockQ.n ?_)
  refine Safe.region ?_
  refine SafeOps.quiet0 E_good rfl rfl rfl (v := V.bool x_1101) (.fn rfl) ?_
  refine SafeOps.quiet0 E_good rfl rfl rfl (v := V.bool (!x_1101)) (.fn rfl) ?_
  refine SafeOps.nil ?_
  repeat (first | refine Safe.seq ?_ | refine Safe.skip ?_ | with_reducible refine thenQ.n ?_ | with_reducible refine blockQ.n ?_)
  refine ifG h (fun hc1103 h => ?_) (fun hc1103 h => ?_)
  · skip
    refine Safe.condK rfl hc1103 ?_
    repeat (first | refine Safe.seq ?_ | refine Safe.skip ?_ | with_reducible refine thenQ.n ?_ | with_reducible refine blockQ.n ?_)
    refine Safe.region ?_
    refine SafeOps.quiet0 E_good rfl rfl rfl (v := V.bool false) (.fn rfl) ?_
    refine SafeOps.nil ?_
    repeat (first | refine Safe.seq ?_ | refine Safe.skip ?_ | with_reducible refine thenQ.n ?_ | with_reducible refine blockQ.n ?_)
    refine Safe.ret ?_
    repeat (first | with_reducible refine thenQ.r ?_ | with_reducible refine blockQ.r ?_)
    obtain rfl := Option.some.inj h
    exact retQ.gen (vs := [V.bool false]) rfl (.tmp (v := V.bool false) rfl .nil) (.free rfl) (by simp) (.inr rfl)
  · skip
    refine Safe.condN rfl hc1103 ?_
    repeat (first | refine Safe.seq ?_ | refine Safe.skip ?_ | with_reducible refine thenQ.n ?_ | with_reducible refine blockQ.n ?_)
    refine Safe.region ?_
    refine SafeOps.quiet0 E_good rfl rfl rfl (v := V.agg [V.int .i64 a0_458.Id, V.int .i64 a0_458.Tenant, V.int .i64 a0_458.Prog, V.int .i64 a0_458.Pc, V.int .i64 a0_458.Unit, V.int .i64 a0_458.Keeps.a0, V.int .i64 a0_458.Keeps.a1, V.int .i64 a0_458.Keeps.a2, V.int .i64 a0_458.Keeps.a3, V.int .i64 a0_458.State, V.int .i64 a0_458.Ran]) (.load rfl rfl (.box rfl rfl) rfl) ?_
    refine SafeOps.quiet0 E_good rfl rfl rfl (v := V.int .i64 a1_459) (.fn rfl) ?_
    refine SafeOps.quiet0 E_good rfl rfl rfl (v := V.int .i64 a3_461) (.fn rfl) ?_
    refine bindG h ?_
    rintro ⟨x_1104, x_1105⟩ he1106 h
    refine SafeOps.quiet0 E_good rfl rfl rfl (v := V.tup [V.agg [V.int .i64 x_1104.Id, V.int .i64 x_1104.Tenant, V.int .i64 x_1104.Prog, V.int .i64 x_1104.Pc, V.int .i64 x_1104.Unit, V.int .i64 x_1104.Keeps.a0, V.int .i64 x_1104.Keeps.a1, V.int .i64 x_1104.Keeps.a2, V.int .i64 x_1104.Keeps.a3, V.int .i64 x_1104.State, V.int .i64 x_1104.Ran], V.int .i64 x_1105]) (.callP rfl rfl (go_life_Keep_sc a0_458 a1_459 a3_461 _ he1106) rfl) ?_
    refine SafeOps.quiet0 E_good rfl rfl rfl (v := V.tup [V.agg [V.int .i64 x_1104.Id, V.int .i64 x_1104.Tenant, V.int .i64 x_1104.Prog, V.int .i64 x_1104.Pc, V.int .i64 x_1104.Unit, V.int .i64 x_1104.Keeps.a0, V.int .i64 x_1104.Keeps.a1, V.int .i64 x_1104.Keeps.a2, V.int .i64 x_1104.Keeps.a3, V.int .i64 x_1104.State, V.int .i64 x_1104.Ran], V.int .i64 x_1105]) (.fn rfl) ?_
    refine SafeOps.quiet0 E_good rfl rfl rfl (v := V.agg [V.int .i64 x_1104.Id, V.int .i64 x_1104.Tenant, V.int .i64 x_1104.Prog, V.int .i64 x_1104.Pc, V.int .i64 x_1104.Unit, V.int .i64 x_1104.Keeps.a0, V.int .i64 x_1104.Keeps.a1, V.int .i64 x_1104.Keeps.a2, V.int .i64 x_1104.Keeps.a3, V.int .i64 x_1104.State, V.int .i64 x_1104.Ran]) (.fn rfl) ?_
    refine SafeOps.quiet0 E_good rfl rfl rfl (v := V.int .i64 x_1105) (.fn rfl) ?_
    refine SafeOps.quiet1 E_good rfl rfl rfl (.alloc rfl rfl) rfl ?_
    refine SafeOps.store (z := Obj.box [V.int .i64 x_1104.Id, V.int .i64 x_1104.Tenant, V.int .i64 x_1104.Prog, V.int .i64 x_1104.Pc, V.int .i64 x_1104.Unit, V.int .i64 x_1104.Keeps.a0, V.int .i64 x_1104.Keeps.a1, V.int .i64 x_1104.Keeps.a2, V.int .i64 x_1104.Keeps.a3, V.int .i64 x_1104.State, V.int .i64 x_1104.Ran]) E_good rfl rfl rfl rfl rfl rfl rfl (.boxM (c := 11) rfl rfl (Nat.le_of_ble_eq_true rfl) rfl) ?_
    refine SafeOps.quiet0 E_good rfl rfl rfl (v := V.int .i64 x_1105) (.fn rfl) ?_
    refine SafeOps.nil ?_
    repeat (first | refine Safe.seq ?_ | refine Safe.skip ?_ | with_reducible refine thenQ.n ?_ | with_reducible refine blockQ.n ?_)
    refine Safe.region ?_
    refine SafeOps.quiet0 E_good rfl rfl rfl (v := V.int .i64 x_1105) (.fn rfl) ?_
    refine SafeOps.quiet0 E_good rfl rfl rfl (v := V.bool (x_1105 != 0)) (.fn rfl) ?_
    refine SafeOps.nil ?_
    repeat (first | refine Safe.seq ?_ | refine Safe.skip ?_ | with_reducible refine thenQ.n ?_ | with_reducible refine blockQ.n ?_)
    refine ifG h (fun hc1108 h => ?_) (fun hc1108 h => ?_)
    · skip
      refine Safe.condK rfl hc1108 ?_
      repeat (first | refine Safe.seq ?_ | refine Safe.skip ?_ | with_reducible refine thenQ.n ?_ | with_reducible refine blockQ.n ?_)
      refine Safe.region ?_
      refine SafeOps.quiet0 E_good rfl rfl rfl (v := V.bool x_1101) (.fn rfl) ?_
      refine SafeOps.quiet0 E_good rfl rfl rfl (v := V.bool x_1101) (.fn rfl) ?_
      refine SafeOps.bjoin 4 39 (b := (x_1101 && (api_Task.beq x_1104 api_Task.zero))) (b1 := api_Task.beq x_1104 api_Task.zero) (b0 := false) (fun hc1109 K => ?_) (fun hc1109 K => ?_) bj_and ?_
      · skip
        refine SafeOps.quiet0 E_good (congrArg some hc1109) rfl rfl (v := V.agg [V.int .i64 x_1104.Id, V.int .i64 x_1104.Tenant, V.int .i64 x_1104.Prog, V.int .i64 x_1104.Pc, V.int .i64 x_1104.Unit, V.int .i64 x_1104.Keeps.a0, V.int .i64 x_1104.Keeps.a1, V.int .i64 x_1104.Keeps.a2, V.int .i64 x_1104.Keeps.a3, V.int .i64 x_1104.State, V.int .i64 x_1104.Ran]) (.load rfl rfl (.box rfl rfl) rfl) ?_
        refine SafeOps.quiet0 E_good (congrArg some hc1109) rfl rfl (v := V.agg [V.int .i64 0, V.int .i64 0, V.int .i64 0, V.int .i64 0, V.int .i64 0, V.int .i64 0, V.int .i64 0, V.int .i64 0, V.int .i64 0, V.int .i64 0, V.int .i64 0]) (.fn rfl) ?_
        refine SafeOps.quiet0 E_good (congrArg some hc1109) rfl rfl (v := V.bool (api_Task.beq x_1104 api_Task.zero)) (.eqA rfl rfl rfl rfl okT33 rfl) ?_
        refine SafeOps.quiet0 E_good rfl rfl rfl (v := V.bool (api_Task.beq x_1104 api_Task.zero)) (.pickK rfl hc1109 rfl) ?_
        exact SafeOps.drop' 4 rfl rfl rfl K
      · skip
        refine SafeOps.skip (congrArg some hc1109) rfl rfl ?_
        refine SafeOps.skip (congrArg some hc1109) rfl rfl ?_
        refine SafeOps.skip (congrArg some hc1109) rfl rfl ?_
        refine SafeOps.quiet0 E_good rfl rfl rfl (v := V.bool false) (.pickK rfl hc1109 rfl) ?_
        exact SafeOps.drop' 4 rfl rfl rfl K
      refine SafeOps.quiet0 E_good rfl rfl rfl (v := V.bool (x_1101 && (api_Task.beq x_1104 api_Task.zero))) (.fn rfl) ?_
      refine SafeOps.nil ?_
      repeat (first | refine Safe.seq ?_ | refine Safe.skip ?_ | with_reducible refine thenQ.n ?_ | with_reducible refine blockQ.n ?_)
      refine Safe.ret ?_
      repeat (first | with_reducible refine thenQ.r ?_ | with_reducible refine blockQ.r ?_)
      obtain rfl := Option.some.inj h
      exact retQ.gen (vs := [V.bool (x_1101 && (api_Task.beq x_1104 api_Task.zero))]) rfl (.tmp (v := V.bool (x_1101 && (api_Task.beq x_1104 api_Task.zero))) rfl .nil) (.free rfl) (by simp) (.inr rfl)
    · skip
      refine Safe.condN rfl hc1108 ?_
      repeat (first | refine Safe.seq ?_ | refine Safe.skip ?_ | with_reducible refine thenQ.n ?_ | with_reducible refine blockQ.n ?_)
      refine Safe.region ?_
      refine SafeOps.quiet0 E_good rfl rfl rfl (v := V.int .i64 a1_459) (.fn rfl) ?_
      refine SafeOps.quiet0 E_good rfl rfl rfl (v := V.bool (decide (a1_459 < 0))) (.fn rfl) ?_
      refine SafeOps.quiet0 E_good rfl rfl rfl (v := V.bool (decide (a1_459 < 0))) (.fn rfl) ?_
      refine SafeOps.bjoin 3 45 (b := ((decide (a1_459 < 0)) || (decide (a1_459 ≥ 4)))) (b1 := true) (b0 := decide (a1_459 ≥ 4)) (fun hc1110 K => ?_) (fun hc1110 K => ?_) bj_or ?_
      · skip
        refine SafeOps.skip (congrArg (fun b => some (!b)) hc1110) rfl rfl ?_
        refine SafeOps.skip (congrArg (fun b => some (!b)) hc1110) rfl rfl ?_
        refine SafeOps.quiet0 E_good rfl rfl rfl (v := V.bool true) (.pickK rfl hc1110 rfl) ?_
        exact SafeOps.drop' 3 rfl rfl rfl K
      · skip
        refine SafeOps.quiet0 E_good (congrArg (fun b => some (!b)) hc1110) rfl rfl (v := V.int .i64 a1_459) (.fn rfl) ?_
        refine SafeOps.quiet0 E_good (congrArg (fun b => some (!b)) hc1110) rfl rfl (v := V.bool (decide (a1_459 ≥ 4))) (.fn rfl) ?_
        refine SafeOps.quiet0 E_good rfl rfl rfl (v := V.bool (decide (a1_459 ≥ 4))) (.pickK rfl hc1110 rfl) ?_
        exact SafeOps.drop' 3 rfl rfl rfl K
      refine SafeOps.quiet0 E_good rfl rfl rfl (v := V.bool ((decide (a1_459 < 0)) || (decide (a1_459 ≥ 4)))) (.fn rfl) ?_
      refine ifG h (fun hc1111 h => ?_) (fun hc1111 h => ?_)
      · skip
        refine SafeOps.skip (congrArg (fun b => some (!b)) hc1111) rfl rfl ?_
        refine SafeOps.skip (congrArg (fun b => some (!b)) hc1111) rfl rfl ?_
        refine SafeOps.skip (congrArg (fun b => some (!b)) hc1111) rfl rfl ?_
        refine SafeOps.skip (congrArg (fun b => some (!b)) hc1111) rfl rfl ?_
        refine SafeOps.skip (congrArg (fun b => some (!b)) hc1111) rfl rfl ?_
        refine SafeOps.skip (congrArg (fun b => some (!b)) hc1111) rfl rfl ?_
        refine SafeOps.quiet0 E_good rfl rfl rfl (v := V.bool true) (.pickK rfl hc1111 rfl) ?_
        refine SafeOps.nil ?_
        repeat (first | refine Safe.seq ?_ | refine Safe.skip ?_ | with_reducible refine thenQ.n ?_ | with_reducible refine blockQ.n ?_)
        refine Safe.condK rfl rfl ?_
        repeat (first | refine Safe.seq ?_ | refine Safe.skip ?_ | with_reducible refine thenQ.n ?_ | with_reducible refine blockQ.n ?_)
        refine Safe.region ?_
        refine SafeOps.quiet0 E_good rfl rfl rfl (v := V.bool false) (.fn rfl) ?_
        refine SafeOps.nil ?_
        repeat (first | refine Safe.seq ?_ | refine Safe.skip ?_ | with_reducible refine thenQ.n ?_ | with_reducible refine blockQ.n ?_)
        refine Safe.ret ?_
        repeat (first | with_reducible refine thenQ.r ?_ | with_reducible refine blockQ.r ?_)
        obtain rfl := Option.some.inj h
        exact retQ.gen (vs := [V.bool false]) rfl (.tmp (v := V.bool false) rfl .nil) (.free rfl) (by simp) (.inr rfl)
      · skip
        refine SafeOps.quiet0 E_good (congrArg (fun b => some (!b)) hc1111) rfl rfl (v := V.int .i64 a1_459) (.fn rfl) ?_
        refine SafeOps.quiet0 E_good (congrArg (fun b => some (!b)) hc1111) rfl rfl (v := V.ptr [12] 0 5) (.fn rfl) ?_
        refine okG h (fun hb1113 h => ?_)
        refine SafeOps.quiet0 E_good (congrArg (fun b => some (!b)) hc1111) rfl rfl (v := V.ptr [12] 0 (5 + Int.toNat a1_459 * 1)) (.idxArrM rfl rfl rfl rfl rfl rfl 4 rfl hb1113) ?_
        refine SafeOps.quiet0 E_good (congrArg (fun b => some (!b)) hc1111) rfl rfl (v := V.int .i64 (if a1_459 = 0 then x_1104.Keeps.a0 else (if a1_459 = 1 then x_1104.Keeps.a1 else (if a1_459 = 2 then x_1104.Keeps.a2 else x_1104.Keeps.a3)))) (.load rfl rfl (.boxM (cs := [V.int .i64 (if a1_459 = 0 then x_1104.Keeps.a0 else (if a1_459 = 1 then x_1104.Keeps.a1 else (if a1_459 = 2 then x_1104.Keeps.a2 else x_1104.Keeps.a3)))]) rfl (by have hq : a1_459 = 0 ∨ a1_459 = 1 ∨ a1_459 = 2 ∨ a1_459 = 3 := (by omega); rcases hq with hq | hq | hq | hq <;> simp only [hq] <;> rfl)) rfl) ?_
        refine SafeOps.quiet0 E_good (congrArg (fun b => some (!b)) hc1111) rfl rfl (v := V.int .i64 a3_461) (.fn rfl) ?_
        refine SafeOps.quiet0 E_good (congrArg (fun b => some (!b)) hc1111) rfl rfl (v := V.bool ((if a1_459 = 0 then x_1104.Keeps.a0 else (if a1_459 = 1 then x_1104.Keeps.a1 else (if a1_459 = 2 then x_1104.Keeps.a2 else x_1104.Keeps.a3))) != a3_461)) (.fn rfl) ?_
        refine SafeOps.quiet0 E_good rfl rfl rfl (v := V.bool ((if a1_459 = 0 then x_1104.Keeps.a0 else (if a1_459 = 1 then x_1104.Keeps.a1 else (if a1_459 = 2 then x_1104.Keeps.a2 else x_1104.Keeps.a3))) != a3_461)) (.pickK rfl hc1111 rfl) ?_
        refine SafeOps.nil ?_
        repeat (first | refine Safe.seq ?_ | refine Safe.skip ?_ | with_reducible refine thenQ.n ?_ | with_reducible refine blockQ.n ?_)
        refine ifG h (fun hc1114 h => ?_) (fun hc1114 h => ?_)
        · skip
          refine Safe.condK rfl hc1114 ?_
          repeat (first | refine Safe.seq ?_ | refine Safe.skip ?_ | with_reducible refine thenQ.n ?_ | with_reducible refine blockQ.n ?_)
          refine Safe.region ?_
          refine SafeOps.quiet0 E_good rfl rfl rfl (v := V.bool false) (.fn rfl) ?_
          refine SafeOps.nil ?_
          repeat (first | refine Safe.seq ?_ | refine Safe.skip ?_ | with_reducible refine thenQ.n ?_ | with_reducible refine blockQ.n ?_)
          refine Safe.ret ?_
          repeat (first | with_reducible refine thenQ.r ?_ | with_reducible refine blockQ.r ?_)
          obtain rfl := Option.some.inj h
          exact retQ.gen (vs := [V.bool false]) rfl (.tmp (v := V.bool false) rfl .nil) (.free rfl) (by simp) (.inr rfl)
        · skip
          refine Safe.condN rfl hc1114 ?_
          repeat (first | refine Safe.seq ?_ | refine Safe.skip ?_ | with_reducible refine thenQ.n ?_ | with_reducible refine blockQ.n ?_)
          refine Safe.region ?_
          refine SafeOps.quiet0 E_good rfl rfl rfl (v := V.agg [V.int .i64 x_1104.Id, V.int .i64 x_1104.Tenant, V.int .i64 x_1104.Prog, V.int .i64 x_1104.Pc, V.int .i64 x_1104.Unit, V.int .i64 x_1104.Keeps.a0, V.int .i64 x_1104.Keeps.a1, V.int .i64 x_1104.Keeps.a2, V.int .i64 x_1104.Keeps.a3, V.int .i64 x_1104.State, V.int .i64 x_1104.Ran]) (.load rfl rfl (.box rfl rfl) rfl) ?_
          refine SafeOps.quiet0 E_good rfl rfl rfl (v := V.int .i64 a1_459) (.fn rfl) ?_
          refine SafeOps.quiet0 E_good rfl rfl rfl (v := V.int .i64 a4_462) (.fn rfl) ?_
          refine bindG h ?_
          rintro ⟨x_1115, x_1116⟩ he1117 h
          refine SafeOps.quiet0 E_good rfl rfl rfl (v := V.tup [V.agg [V.int .i64 x_1115.Id, V.int .i64 x_1115.Tenant, V.int .i64 x_1115.Prog, V.int .i64 x_1115.Pc, V.int .i64 x_1115.Unit, V.int .i64 x_1115.Keeps.a0, V.int .i64 x_1115.Keeps.a1, V.int .i64 x_1115.Keeps.a2, V.int .i64 x_1115.Keeps.a3, V.int .i64 x_1115.State, V.int .i64 x_1115.Ran], V.int .i64 x_1116]) (.callP rfl rfl (go_life_Keep_sc x_1104 a1_459 a4_462 _ he1117) rfl) ?_
          refine SafeOps.quiet0 E_good rfl rfl rfl (v := V.tup [V.agg [V.int .i64 x_1115.Id, V.int .i64 x_1115.Tenant, V.int .i64 x_1115.Prog, V.int .i64 x_1115.Pc, V.int .i64 x_1115.Unit, V.int .i64 x_1115.Keeps.a0, V.int .i64 x_1115.Keeps.a1, V.int .i64 x_1115.Keeps.a2, V.int .i64 x_1115.Keeps.a3, V.int .i64 x_1115.State, V.int .i64 x_1115.Ran], V.int .i64 x_1116]) (.fn rfl) ?_
          refine SafeOps.quiet0 E_good rfl rfl rfl (v := V.agg [V.int .i64 x_1115.Id, V.int .i64 x_1115.Tenant, V.int .i64 x_1115.Prog, V.int .i64 x_1115.Pc, V.int .i64 x_1115.Unit, V.int .i64 x_1115.Keeps.a0, V.int .i64 x_1115.Keeps.a1, V.int .i64 x_1115.Keeps.a2, V.int .i64 x_1115.Keeps.a3, V.int .i64 x_1115.State, V.int .i64 x_1115.Ran]) (.fn rfl) ?_
          refine SafeOps.quiet0 E_good rfl rfl rfl (v := V.int .i64 x_1116) (.fn rfl) ?_
          refine SafeOps.quiet1 E_good rfl rfl rfl (.alloc rfl rfl) rfl ?_
          refine SafeOps.store (z := Obj.box [V.int .i64 x_1115.Id, V.int .i64 x_1115.Tenant, V.int .i64 x_1115.Prog, V.int .i64 x_1115.Pc, V.int .i64 x_1115.Unit, V.int .i64 x_1115.Keeps.a0, V.int .i64 x_1115.Keeps.a1, V.int .i64 x_1115.Keeps.a2, V.int .i64 x_1115.Keeps.a3, V.int .i64 x_1115.State, V.int .i64 x_1115.Ran]) E_good rfl rfl rfl rfl rfl rfl rfl (.boxM (c := 11) rfl rfl (Nat.le_of_ble_eq_true rfl) rfl) ?_
          refine SafeOps.quiet0 E_good rfl rfl rfl (v := V.int .i64 x_1116) (.fn rfl) ?_
          refine SafeOps.nil ?_
          repeat (first | refine Safe.seq ?_ | refine Safe.skip ?_ | with_reducible refine thenQ.n ?_ | with_reducible refine blockQ.n ?_)
          refine Safe.region ?_
          refine SafeOps.quiet0 E_good rfl rfl rfl (v := V.agg [V.int .i64 a0_458.Id, V.int .i64 a0_458.Tenant, V.int .i64 a0_458.Prog, V.int .i64 a0_458.Pc, V.int .i64 a0_458.Unit, V.int .i64 a0_458.Keeps.a0, V.int .i64 a0_458.Keeps.a1, V.int .i64 a0_458.Keeps.a2, V.int .i64 a0_458.Keeps.a3, V.int .i64 a0_458.State, V.int .i64 a0_458.Ran]) (.load rfl rfl (.box rfl rfl) rfl) ?_
          refine SafeOps.quiet0 E_good rfl rfl rfl (v := V.int .i64 a1_459) (.fn rfl) ?_
          refine SafeOps.quiet0 E_good rfl rfl rfl (v := V.int .i64 a4_462) (.fn rfl) ?_
          refine bindG h ?_
          rintro ⟨x_1118, x_1119⟩ he1120 h
          refine SafeOps.quiet0 E_good rfl rfl rfl (v := V.tup [V.agg [V.int .i64 x_1118.Id, V.int .i64 x_1118.Tenant, V.int .i64 x_1118.Prog, V.int .i64 x_1118.Pc, V.int .i64 x_1118.Unit, V.int .i64 x_1118.Keeps.a0, V.int .i64 x_1118.Keeps.a1, V.int .i64 x_1118.Keeps.a2, V.int .i64 x_1118.Keeps.a3, V.int .i64 x_1118.State, V.int .i64 x_1118.Ran], V.int .i64 x_1119]) (.callP rfl rfl (go_life_Keep_sc a0_458 a1_459 a4_462 _ he1120) rfl) ?_
          refine SafeOps.quiet0 E_good rfl rfl rfl (v := V.tup [V.agg [V.int .i64 x_1118.Id, V.int .i64 x_1118.Tenant, V.int .i64 x_1118.Prog, V.int .i64 x_1118.Pc, V.int .i64 x_1118.Unit, V.int .i64 x_1118.Keeps.a0, V.int .i64 x_1118.Keeps.a1, V.int .i64 x_1118.Keeps.a2, V.int .i64 x_1118.Keeps.a3, V.int .i64 x_1118.State, V.int .i64 x_1118.Ran], V.int .i64 x_1119]) (.fn rfl) ?_
          refine SafeOps.quiet0 E_good rfl rfl rfl (v := V.agg [V.int .i64 x_1118.Id, V.int .i64 x_1118.Tenant, V.int .i64 x_1118.Prog, V.int .i64 x_1118.Pc, V.int .i64 x_1118.Unit, V.int .i64 x_1118.Keeps.a0, V.int .i64 x_1118.Keeps.a1, V.int .i64 x_1118.Keeps.a2, V.int .i64 x_1118.Keeps.a3, V.int .i64 x_1118.State, V.int .i64 x_1118.Ran]) (.fn rfl) ?_
          refine SafeOps.quiet0 E_good rfl rfl rfl (v := V.int .i64 x_1119) (.fn rfl) ?_
          refine SafeOps.quiet1 E_good rfl rfl rfl (.alloc rfl rfl) rfl ?_
          refine SafeOps.store (z := Obj.box [V.int .i64 x_1118.Id, V.int .i64 x_1118.Tenant, V.int .i64 x_1118.Prog, V.int .i64 x_1118.Pc, V.int .i64 x_1118.Unit, V.int .i64 x_1118.Keeps.a0, V.int .i64 x_1118.Keeps.a1, V.int .i64 x_1118.Keeps.a2, V.int .i64 x_1118.Keeps.a3, V.int .i64 x_1118.State, V.int .i64 x_1118.Ran]) E_good rfl rfl rfl rfl rfl rfl rfl (.boxM (c := 11) rfl rfl (Nat.le_of_ble_eq_true rfl) rfl) ?_
          refine SafeOps.quiet0 E_good rfl rfl rfl (v := V.int .i64 x_1119) (.fn rfl) ?_
          refine SafeOps.nil ?_
          repeat (first | refine Safe.seq ?_ | refine Safe.skip ?_ | with_reducible refine thenQ.n ?_ | with_reducible refine blockQ.n ?_)
          refine Safe.region ?_
          refine SafeOps.quiet0 E_good rfl rfl rfl (v := V.int .i64 x_1116) (.fn rfl) ?_
          refine SafeOps.quiet0 E_good rfl rfl rfl (v := V.int .i64 x_1119) (.fn rfl) ?_
          refine SafeOps.quiet0 E_good rfl rfl rfl (v := V.bool (x_1116 != x_1119)) (.fn rfl) ?_
          refine SafeOps.quiet0 E_good rfl rfl rfl (v := V.bool (x_1116 != x_1119)) (.fn rfl) ?_
          refine SafeOps.bjoin 4 75 (b := ((x_1116 != x_1119) || (!(api_Task.beq x_1115 x_1118)))) (b1 := true) (b0 := (!(api_Task.beq x_1115 x_1118))) (fun hc1121 K => ?_) (fun hc1121 K => ?_) bj_or ?_
          · skip
            refine SafeOps.skip (congrArg (fun b => some (!b)) hc1121) rfl rfl ?_
            refine SafeOps.skip (congrArg (fun b => some (!b)) hc1121) rfl rfl ?_
            refine SafeOps.skip (congrArg (fun b => some (!b)) hc1121) rfl rfl ?_
            refine SafeOps.quiet0 E_good rfl rfl rfl (v := V.bool true) (.pickK rfl hc1121 rfl) ?_
            exact SafeOps.drop' 4 rfl rfl rfl K
          · skip
            refine SafeOps.quiet0 E_good (congrArg (fun b => some (!b)) hc1121) rfl rfl (v := V.agg [V.int .i64 x_1115.Id, V.int .i64 x_1115.Tenant, V.int .i64 x_1115.Prog, V.int .i64 x_1115.Pc, V.int .i64 x_1115.Unit, V.int .i64 x_1115.Keeps.a0, V.int .i64 x_1115.Keeps.a1, V.int .i64 x_1115.Keeps.a2, V.int .i64 x_1115.Keeps.a3, V.int .i64 x_1115.State, V.int .i64 x_1115.Ran]) (.load rfl rfl (.box rfl rfl) rfl) ?_
            refine SafeOps.quiet0 E_good (congrArg (fun b => some (!b)) hc1121) rfl rfl (v := V.agg [V.int .i64 x_1118.Id, V.int .i64 x_1118.Tenant, V.int .i64 x_1118.Prog, V.int .i64 x_1118.Pc, V.int .i64 x_1118.Unit, V.int .i64 x_1118.Keeps.a0, V.int .i64 x_1118.Keeps.a1, V.int .i64 x_1118.Keeps.a2, V.int .i64 x_1118.Keeps.a3, V.int .i64 x_1118.State, V.int .i64 x_1118.Ran]) (.load rfl rfl (.box rfl rfl) rfl) ?_
            refine SafeOps.quiet0 E_good (congrArg (fun b => some (!b)) hc1121) rfl rfl (v := V.bool (!(api_Task.beq x_1115 x_1118))) (.neA rfl rfl rfl rfl okT33 rfl) ?_
            refine SafeOps.quiet0 E_good rfl rfl rfl (v := V.bool (!(api_Task.beq x_1115 x_1118))) (.pickK rfl hc1121 rfl) ?_
            exact SafeOps.drop' 4 rfl rfl rfl K
          refine SafeOps.nil ?_
          repeat (first | refine Safe.seq ?_ | refine Safe.skip ?_ | with_reducible refine thenQ.n ?_ | with_reducible refine blockQ.n ?_)
          refine ifG h (fun hc1122 h => ?_) (fun hc1122 h => ?_)
          · skip
            refine Safe.condK rfl hc1122 ?_
            repeat (first | refine Safe.seq ?_ | refine Safe.skip ?_ | with_reducible refine thenQ.n ?_ | with_reducible refine blockQ.n ?_)
            refine Safe.region ?_
            refine SafeOps.quiet0 E_good rfl rfl rfl (v := V.bool false) (.fn rfl) ?_
            refine SafeOps.nil ?_
            repeat (first | refine Safe.seq ?_ | refine Safe.skip ?_ | with_reducible refine thenQ.n ?_ | with_reducible refine blockQ.n ?_)
            refine Safe.ret ?_
            repeat (first | with_reducible refine thenQ.r ?_ | with_reducible refine blockQ.r ?_)
            obtain rfl := Option.some.inj h
            exact retQ.gen (vs := [V.bool false]) rfl (.tmp (v := V.bool false) rfl .nil) (.free rfl) (by simp) (.inr rfl)
          · skip
            refine Safe.condN rfl hc1122 ?_
            repeat (first | refine Safe.seq ?_ | refine Safe.skip ?_ | with_reducible refine thenQ.n ?_ | with_reducible refine blockQ.n ?_)
            refine Safe.region ?_
            refine SafeOps.quiet0 E_good rfl rfl rfl (v := V.agg [V.int .i64 x_1104.Id, V.int .i64 x_1104.Tenant, V.int .i64 x_1104.Prog, V.int .i64 x_1104.Pc, V.int .i64 x_1104.Unit, V.int .i64 x_1104.Keeps.a0, V.int .i64 x_1104.Keeps.a1, V.int .i64 x_1104.Keeps.a2, V.int .i64 x_1104.Keeps.a3, V.int .i64 x_1104.State, V.int .i64 x_1104.Ran]) (.load rfl rfl (.box rfl rfl) rfl) ?_
            refine SafeOps.quiet0 E_good rfl rfl rfl (v := V.int .i64 a2_460) (.fn rfl) ?_
            refine SafeOps.quiet0 E_good rfl rfl rfl (v := V.int .i64 a4_462) (.fn rfl) ?_
            refine bindG h ?_
            rintro ⟨x_1123, x_1124⟩ he1125 h
            refine SafeOps.quiet0 E_good rfl rfl rfl (v := V.tup [V.agg [V.int .i64 x_1123.Id, V.int .i64 x_1123.Tenant, V.int .i64 x_1123.Prog, V.int .i64 x_1123.Pc, V.int .i64 x_1123.Unit, V.int .i64 x_1123.Keeps.a0, V.int .i64 x_1123.Keeps.a1, V.int .i64 x_1123.Keeps.a2, V.int .i64 x_1123.Keeps.a3, V.int .i64 x_1123.State, V.int .i64 x_1123.Ran], V.int .i64 x_1124]) (.callP rfl rfl (go_life_Keep_sc x_1104 a2_460 a4_462 _ he1125) rfl) ?_
            refine SafeOps.quiet0 E_good rfl rfl rfl (v := V.tup [V.agg [V.int .i64 x_1123.Id, V.int .i64 x_1123.Tenant, V.int .i64 x_1123.Prog, V.int .i64 x_1123.Pc, V.int .i64 x_1123.Unit, V.int .i64 x_1123.Keeps.a0, V.int .i64 x_1123.Keeps.a1, V.int .i64 x_1123.Keeps.a2, V.int .i64 x_1123.Keeps.a3, V.int .i64 x_1123.State, V.int .i64 x_1123.Ran], V.int .i64 x_1124]) (.fn rfl) ?_
            refine SafeOps.quiet0 E_good rfl rfl rfl (v := V.agg [V.int .i64 x_1123.Id, V.int .i64 x_1123.Tenant, V.int .i64 x_1123.Prog, V.int .i64 x_1123.Pc, V.int .i64 x_1123.Unit, V.int .i64 x_1123.Keeps.a0, V.int .i64 x_1123.Keeps.a1, V.int .i64 x_1123.Keeps.a2, V.int .i64 x_1123.Keeps.a3, V.int .i64 x_1123.State, V.int .i64 x_1123.Ran]) (.fn rfl) ?_
            refine SafeOps.quiet0 E_good rfl rfl rfl (v := V.int .i64 x_1124) (.fn rfl) ?_
            refine SafeOps.quiet1 E_good rfl rfl rfl (.alloc rfl rfl) rfl ?_
            refine SafeOps.store (z := Obj.box [V.int .i64 x_1123.Id, V.int .i64 x_1123.Tenant, V.int .i64 x_1123.Prog, V.int .i64 x_1123.Pc, V.int .i64 x_1123.Unit, V.int .i64 x_1123.Keeps.a0, V.int .i64 x_1123.Keeps.a1, V.int .i64 x_1123.Keeps.a2, V.int .i64 x_1123.Keeps.a3, V.int .i64 x_1123.State, V.int .i64 x_1123.Ran]) E_good rfl rfl rfl rfl rfl rfl rfl (.boxM (c := 11) rfl rfl (Nat.le_of_ble_eq_true rfl) rfl) ?_
            refine SafeOps.quiet0 E_good rfl rfl rfl (v := V.int .i64 x_1124) (.fn rfl) ?_
            refine SafeOps.nil ?_
            repeat (first | refine Safe.seq ?_ | refine Safe.skip ?_ | with_reducible refine thenQ.n ?_ | with_reducible refine blockQ.n ?_)
            refine Safe.region ?_
            refine SafeOps.quiet0 E_good rfl rfl rfl (v := V.agg [V.int .i64 a0_458.Id, V.int .i64 a0_458.Tenant, V.int .i64 a0_458.Prog, V.int .i64 a0_458.Pc, V.int .i64 a0_458.Unit, V.int .i64 a0_458.Keeps.a0, V.int .i64 a0_458.Keeps.a1, V.int .i64 a0_458.Keeps.a2, V.int .i64 a0_458.Keeps.a3, V.int .i64 a0_458.State, V.int .i64 a0_458.Ran]) (.load rfl rfl (.box rfl rfl) rfl) ?_
            refine SafeOps.quiet0 E_good rfl rfl rfl (v := V.int .i64 a2_460) (.fn rfl) ?_
            refine SafeOps.quiet0 E_good rfl rfl rfl (v := V.int .i64 a4_462) (.fn rfl) ?_
            refine bindG h ?_
            rintro ⟨x_1126, x_1127⟩ he1128 h
            refine SafeOps.quiet0 E_good rfl rfl rfl (v := V.tup [V.agg [V.int .i64 x_1126.Id, V.int .i64 x_1126.Tenant, V.int .i64 x_1126.Prog, V.int .i64 x_1126.Pc, V.int .i64 x_1126.Unit, V.int .i64 x_1126.Keeps.a0, V.int .i64 x_1126.Keeps.a1, V.int .i64 x_1126.Keeps.a2, V.int .i64 x_1126.Keeps.a3, V.int .i64 x_1126.State, V.int .i64 x_1126.Ran], V.int .i64 x_1127]) (.callP rfl rfl (go_life_Keep_sc a0_458 a2_460 a4_462 _ he1128) rfl) ?_
            refine SafeOps.quiet0 E_good rfl rfl rfl (v := V.tup [V.agg [V.int .i64 x_1126.Id, V.int .i64 x_1126.Tenant, V.int .i64 x_1126.Prog, V.int .i64 x_1126.Pc, V.int .i64 x_1126.Unit, V.int .i64 x_1126.Keeps.a0, V.int .i64 x_1126.Keeps.a1, V.int .i64 x_1126.Keeps.a2, V.int .i64 x_1126.Keeps.a3, V.int .i64 x_1126.State, V.int .i64 x_1126.Ran], V.int .i64 x_1127]) (.fn rfl) ?_
            refine SafeOps.quiet0 E_good rfl rfl rfl (v := V.agg [V.int .i64 x_1126.Id, V.int .i64 x_1126.Tenant, V.int .i64 x_1126.Prog, V.int .i64 x_1126.Pc, V.int .i64 x_1126.Unit, V.int .i64 x_1126.Keeps.a0, V.int .i64 x_1126.Keeps.a1, V.int .i64 x_1126.Keeps.a2, V.int .i64 x_1126.Keeps.a3, V.int .i64 x_1126.State, V.int .i64 x_1126.Ran]) (.fn rfl) ?_
            refine SafeOps.quiet0 E_good rfl rfl rfl (v := V.int .i64 x_1127) (.fn rfl) ?_
            refine SafeOps.quiet1 E_good rfl rfl rfl (.alloc rfl rfl) rfl ?_
            refine SafeOps.store (z := Obj.box [V.int .i64 x_1126.Id, V.int .i64 x_1126.Tenant, V.int .i64 x_1126.Prog, V.int .i64 x_1126.Pc, V.int .i64 x_1126.Unit, V.int .i64 x_1126.Keeps.a0, V.int .i64 x_1126.Keeps.a1, V.int .i64 x_1126.Keeps.a2, V.int .i64 x_1126.Keeps.a3, V.int .i64 x_1126.State, V.int .i64 x_1126.Ran]) E_good rfl rfl rfl rfl rfl rfl rfl (.boxM (c := 11) rfl rfl (Nat.le_of_ble_eq_true rfl) rfl) ?_
            refine SafeOps.quiet0 E_good rfl rfl rfl (v := V.int .i64 x_1127) (.fn rfl) ?_
            refine SafeOps.nil ?_
            repeat (first | refine Safe.seq ?_ | refine Safe.skip ?_ | with_reducible refine thenQ.n ?_ | with_reducible refine blockQ.n ?_)
            refine Safe.region ?_
            refine SafeOps.quiet0 E_good rfl rfl rfl (v := V.int .i64 x_1124) (.fn rfl) ?_
            refine SafeOps.quiet0 E_good rfl rfl rfl (v := V.int .i64 x_1127) (.fn rfl) ?_
            refine SafeOps.quiet0 E_good rfl rfl rfl (v := V.bool (x_1124 != x_1127)) (.fn rfl) ?_
            refine SafeOps.nil ?_
            repeat (first | refine Safe.seq ?_ | refine Safe.skip ?_ | with_reducible refine thenQ.n ?_ | with_reducible refine blockQ.n ?_)
            refine ifG h (fun hc1129 h => ?_) (fun hc1129 h => ?_)
            · skip
              refine Safe.condK rfl hc1129 ?_
              repeat (first | refine Safe.seq ?_ | refine Safe.skip ?_ | with_reducible refine thenQ.n ?_ | with_reducible refine blockQ.n ?_)
              refine Safe.region ?_
              refine SafeOps.quiet0 E_good rfl rfl rfl (v := V.bool false) (.fn rfl) ?_
              refine SafeOps.nil ?_
              repeat (first | refine Safe.seq ?_ | refine Safe.skip ?_ | with_reducible refine thenQ.n ?_ | with_reducible refine blockQ.n ?_)
              refine Safe.ret ?_
              repeat (first | with_reducible refine thenQ.r ?_ | with_reducible refine blockQ.r ?_)
              obtain rfl := Option.some.inj h
              exact retQ.gen (vs := [V.bool false]) rfl (.tmp (v := V.bool false) rfl .nil) (.free rfl) (by simp) (.inr rfl)
            · skip
              refine Safe.condN rfl hc1129 ?_
              repeat (first | refine Safe.seq ?_ | refine Safe.skip ?_ | with_reducible refine thenQ.n ?_ | with_reducible refine blockQ.n ?_)
              refine Safe.region ?_
              refine SafeOps.quiet0 E_good rfl rfl rfl (v := V.int .i64 x_1124) (.fn rfl) ?_
              refine SafeOps.quiet0 E_good rfl rfl rfl (v := V.bool (x_1124 == 0)) (.fn rfl) ?_
              refine SafeOps.quiet0 E_good rfl rfl rfl (v := V.bool (x_1124 == 0)) (.fn rfl) ?_
              refine SafeOps.bjoin 4 99 (b := ((x_1124 == 0) && (a2_460 != a1_459))) (b1 := (a2_460 != a1_459)) (b0 := false) (fun hc1130 K => ?_) (fun hc1130 K => ?_) bj_and ?_
              · skip
                refine SafeOps.quiet0 E_good (congrArg some hc1130) rfl rfl (v := V.int .i64 a2_460) (.fn rfl) ?_
                refine SafeOps.quiet0 E_good (congrArg some hc1130) rfl rfl (v := V.int .i64 a1_459) (.fn rfl) ?_
                refine SafeOps.quiet0 E_good (congrArg some hc1130) rfl rfl (v := V.bool (a2_460 != a1_459)) (.fn rfl) ?_
                refine SafeOps.quiet0 E_good rfl rfl rfl (v := V.bool (a2_460 != a1_459)) (.pickK rfl hc1130 rfl) ?_
                exact SafeOps.drop' 4 rfl rfl rfl K
              · skip
                refine SafeOps.skip (congrArg some hc1130) rfl rfl ?_
                refine SafeOps.skip (congrArg some hc1130) rfl rfl ?_
                refine SafeOps.skip (congrArg some hc1130) rfl rfl ?_
                refine SafeOps.quiet0 E_good rfl rfl rfl (v := V.bool false) (.pickK rfl hc1130 rfl) ?_
                exact SafeOps.drop' 4 rfl rfl rfl K
              refine SafeOps.nil ?_
              repeat (first | refine Safe.seq ?_ | refine Safe.skip ?_ | with_reducible refine thenQ.n ?_ | with_reducible refine blockQ.n ?_)
              refine Safe.joinT (fun (_ : Unit) => go_ravellaw12_LifeKeeps_j1 a0_458 x_1101 x_1104 = some r) (fun (_ : Unit) => ⟨Tryd.f6.ntmps, [(5, V.ptr [5] 0 0), (11, V.bool x_1101), (12, V.ptr [12] 0 0)], [([5], Obj.box [V.int .i64 a0_458.Id, V.int .i64 a0_458.Tenant, V.int .i64 a0_458.Prog, V.int .i64 a0_458.Pc, V.int .i64 a0_458.Unit, V.int .i64 a0_458.Keeps.a0, V.int .i64 a0_458.Keeps.a1, V.int .i64 a0_458.Keeps.a2, V.int .i64 a0_458.Keeps.a3, V.int .i64 a0_458.State, V.int .i64 a0_458.Ran]), ([12], Obj.box [V.int .i64 x_1104.Id, V.int .i64 x_1104.Tenant, V.int .i64 x_1104.Prog, V.int .i64 x_1104.Pc, V.int .i64 x_1104.Unit, V.int .i64 x_1104.Keeps.a0, V.int .i64 x_1104.Keeps.a1, V.int .i64 x_1104.Keeps.a2, V.int .i64 x_1104.Keeps.a3, V.int .i64 x_1104.State, V.int .i64 x_1104.Ran])], [], []⟩) ?_ (fun HJ1136 => ?_)
              · intro _ h
                replace h : go_ravellaw12_LifeKeeps_j1 a0_458 x_1101 x_1104 = some r := h
                rw [go_ravellaw12_LifeKeeps_j1] at h
                repeat (first | refine Safe.seq ?_ | refine Safe.skip ?_ | with_reducible refine thenQ.n ?_ | with_reducible refine blockQ.n ?_)
                refine Safe.region ?_
                refine SafeOps.quiet0 E_good rfl rfl rfl (v := V.ptr [5] 0 5) (.fn rfl) ?_
                refine SafeOps.quiet0 E_good rfl rfl rfl (v := V.agg [V.int .i64 a0_458.Keeps.a0, V.int .i64 a0_458.Keeps.a1, V.int .i64 a0_458.Keeps.a2, V.int .i64 a0_458.Keeps.a3]) (.load rfl rfl (.box rfl rfl) rfl) ?_
                refine SafeOps.quiet0 E_good rfl rfl rfl (v := V.ptr [12] 0 5) (.fn rfl) ?_
                refine SafeOps.store (z := Obj.box [V.int .i64 x_1104.Id, V.int .i64 x_1104.Tenant, V.int .i64 x_1104.Prog, V.int .i64 x_1104.Pc, V.int .i64 x_1104.Unit, V.int .i64 a0_458.Keeps.a0, V.int .i64 a0_458.Keeps.a1, V.int .i64 a0_458.Keeps.a2, V.int .i64 a0_458.Keeps.a3, V.int .i64 x_1104.State, V.int .i64 x_1104.Ran]) E_good rfl rfl rfl rfl rfl rfl rfl (.boxM (c := 11) rfl rfl (Nat.le_of_ble_eq_true rfl) rfl) ?_
                refine SafeOps.nil ?_
                repeat (first | refine Safe.seq ?_ | refine Safe.skip ?_ | with_reducible refine thenQ.n ?_ | with_reducible refine blockQ.n ?_)
                refine Safe.region ?_
                refine SafeOps.quiet0 E_good rfl rfl rfl (v := V.bool x_1101) (.fn rfl) ?_
                refine SafeOps.quiet0 E_good rfl rfl rfl (v := V.bool x_1101) (.fn rfl) ?_
                refine SafeOps.bjoin 4 122 (b := (x_1101 && (api_Task.beq (api_Task.mk x_1104.Id x_1104.Tenant x_1104.Prog x_1104.Pc x_1104.Unit a0_458.Keeps x_1104.State x_1104.Ran) a0_458))) (b1 := api_Task.beq (api_Task.mk x_1104.Id x_1104.Tenant x_1104.Prog x_1104.Pc x_1104.Unit a0_458.Keeps x_1104.State x_1104.Ran) a0_458) (b0 := false) (fun hc1137 K => ?_) (fun hc1137 K => ?_) bj_and ?_
                · skip
                  refine SafeOps.quiet0 E_good (congrArg some hc1137) rfl rfl (v := V.agg [V.int .i64 x_1104.Id, V.int .i64 x_1104.Tenant, V.int .i64 x_1104.Prog, V.int .i64 x_1104.Pc, V.int .i64 x_1104.Unit, V.int .i64 a0_458.Keeps.a0, V.int .i64 a0_458.Keeps.a1, V.int .i64 a0_458.Keeps.a2, V.int .i64 a0_458.Keeps.a3, V.int .i64 x_1104.State, V.int .i64 x_1104.Ran]) (.load rfl rfl (.box rfl rfl) rfl) ?_
                  refine SafeOps.quiet0 E_good (congrArg some hc1137) rfl rfl (v := V.agg [V.int .i64 a0_458.Id, V.int .i64 a0_458.Tenant, V.int .i64 a0_458.Prog, V.int .i64 a0_458.Pc, V.int .i64 a0_458.Unit, V.int .i64 a0_458.Keeps.a0, V.int .i64 a0_458.Keeps.a1, V.int .i64 a0_458.Keeps.a2, V.int .i64 a0_458.Keeps.a3, V.int .i64 a0_458.State, V.int .i64 a0_458.Ran]) (.load rfl rfl (.box rfl rfl) rfl) ?_
                  refine SafeOps.quiet0 E_good (congrArg some hc1137) rfl rfl (v := V.bool (api_Task.beq (api_Task.mk x_1104.Id x_1104.Tenant x_1104.Prog x_1104.Pc x_1104.Unit a0_458.Keeps x_1104.State x_1104.Ran) a0_458)) (.eqA rfl rfl rfl rfl okT33 rfl) ?_
                  refine SafeOps.quiet0 E_good rfl rfl rfl (v := V.bool (api_Task.beq (api_Task.mk x_1104.Id x_1104.Tenant x_1104.Prog x_1104.Pc x_1104.Unit a0_458.Keeps x_1104.State x_1104.Ran) a0_458)) (.pickK rfl hc1137 rfl) ?_
                  exact SafeOps.drop' 4 rfl rfl rfl K
                · skip
                  refine SafeOps.skip (congrArg some hc1137) rfl rfl ?_
                  refine SafeOps.skip (congrArg some hc1137) rfl rfl ?_
                  refine SafeOps.skip (congrArg some hc1137) rfl rfl ?_
                  refine SafeOps.quiet0 E_good rfl rfl rfl (v := V.bool false) (.pickK rfl hc1137 rfl) ?_
                  exact SafeOps.drop' 4 rfl rfl rfl K
                refine SafeOps.quiet0 E_good rfl rfl rfl (v := V.bool (x_1101 && (api_Task.beq (api_Task.mk x_1104.Id x_1104.Tenant x_1104.Prog x_1104.Pc x_1104.Unit a0_458.Keeps x_1104.State x_1104.Ran) a0_458))) (.fn rfl) ?_
                refine SafeOps.nil ?_
                repeat (first | refine Safe.seq ?_ | refine Safe.skip ?_ | with_reducible refine thenQ.n ?_ | with_reducible refine blockQ.n ?_)
                refine Safe.ret ?_
                repeat (first | with_reducible refine thenQ.r ?_ | with_reducible refine blockQ.r ?_)
                obtain rfl := Option.some.inj h
                exact retQ.gen (vs := [V.bool (x_1101 && (api_Task.beq (api_Task.mk x_1104.Id x_1104.Tenant x_1104.Prog x_1104.Pc x_1104.Unit a0_458.Keeps x_1104.State x_1104.Ran) a0_458))]) rfl (.tmp (v := V.bool (x_1101 && (api_Task.beq (api_Task.mk x_1104.Id x_1104.Tenant x_1104.Prog x_1104.Pc x_1104.Unit a0_458.Keeps x_1104.State x_1104.Ran) a0_458))) rfl .nil) (.free rfl) (by simp) (.inr rfl)
              · skip
                refine ifG h (fun hc1138 h => ?_) (fun hc1138 h => ?_)
                · skip
                  refine Safe.condK rfl hc1138 ?_
                  repeat (first | refine Safe.seq ?_ | refine Safe.skip ?_ | with_reducible refine thenQ.n ?_ | with_reducible refine blockQ.n ?_)
                  refine Safe.region ?_
                  refine SafeOps.quiet0 E_good rfl rfl rfl (v := V.agg [V.int .i64 x_1126.Id, V.int .i64 x_1126.Tenant, V.int .i64 x_1126.Prog, V.int .i64 x_1126.Pc, V.int .i64 x_1126.Unit, V.int .i64 x_1126.Keeps.a0, V.int .i64 x_1126.Keeps.a1, V.int .i64 x_1126.Keeps.a2, V.int .i64 x_1126.Keeps.a3, V.int .i64 x_1126.State, V.int .i64 x_1126.Ran]) (.load rfl rfl (.box rfl rfl) rfl) ?_
                  refine SafeOps.quiet0 E_good rfl rfl rfl (v := V.int .i64 a1_459) (.fn rfl) ?_
                  refine SafeOps.quiet0 E_good rfl rfl rfl (v := V.int .i64 a3_461) (.fn rfl) ?_
                  refine bindG h ?_
                  rintro ⟨x_1139, x_1140⟩ he1141 h
                  refine SafeOps.quiet0 E_good rfl rfl rfl (v := V.tup [V.agg [V.int .i64 x_1139.Id, V.int .i64 x_1139.Tenant, V.int .i64 x_1139.Prog, V.int .i64 x_1139.Pc, V.int .i64 x_1139.Unit, V.int .i64 x_1139.Keeps.a0, V.int .i64 x_1139.Keeps.a1, V.int .i64 x_1139.Keeps.a2, V.int .i64 x_1139.Keeps.a3, V.int .i64 x_1139.State, V.int .i64 x_1139.Ran], V.int .i64 x_1140]) (.callP rfl rfl (go_life_Keep_sc x_1126 a1_459 a3_461 _ he1141) rfl) ?_
                  refine SafeOps.quiet0 E_good rfl rfl rfl (v := V.tup [V.agg [V.int .i64 x_1139.Id, V.int .i64 x_1139.Tenant, V.int .i64 x_1139.Prog, V.int .i64 x_1139.Pc, V.int .i64 x_1139.Unit, V.int .i64 x_1139.Keeps.a0, V.int .i64 x_1139.Keeps.a1, V.int .i64 x_1139.Keeps.a2, V.int .i64 x_1139.Keeps.a3, V.int .i64 x_1139.State, V.int .i64 x_1139.Ran], V.int .i64 x_1140]) (.fn rfl) ?_
                  refine SafeOps.quiet0 E_good rfl rfl rfl (v := V.agg [V.int .i64 x_1139.Id, V.int .i64 x_1139.Tenant, V.int .i64 x_1139.Prog, V.int .i64 x_1139.Pc, V.int .i64 x_1139.Unit, V.int .i64 x_1139.Keeps.a0, V.int .i64 x_1139.Keeps.a1, V.int .i64 x_1139.Keeps.a2, V.int .i64 x_1139.Keeps.a3, V.int .i64 x_1139.State, V.int .i64 x_1139.Ran]) (.fn rfl) ?_
                  refine SafeOps.quiet0 E_good rfl rfl rfl (v := V.int .i64 x_1140) (.fn rfl) ?_
                  refine SafeOps.store (z := Obj.box [V.int .i64 x_1139.Id, V.int .i64 x_1139.Tenant, V.int .i64 x_1139.Prog, V.int .i64 x_1139.Pc, V.int .i64 x_1139.Unit, V.int .i64 x_1139.Keeps.a0, V.int .i64 x_1139.Keeps.a1, V.int .i64 x_1139.Keeps.a2, V.int .i64 x_1139.Keeps.a3, V.int .i64 x_1139.State, V.int .i64 x_1139.Ran]) E_good rfl rfl rfl rfl rfl rfl rfl (.boxM (c := 11) rfl rfl (Nat.le_of_ble_eq_true rfl) rfl) ?_
                  refine SafeOps.quiet0 E_good rfl rfl rfl (v := V.int .i64 x_1140) (.fn rfl) ?_
                  refine SafeOps.nil ?_
                  repeat (first | refine Safe.seq ?_ | refine Safe.skip ?_ | with_reducible refine thenQ.n ?_ | with_reducible refine blockQ.n ?_)
                  refine Safe.region ?_
                  refine SafeOps.quiet0 E_good rfl rfl rfl (v := V.int .i64 x_1140) (.fn rfl) ?_
                  refine SafeOps.quiet0 E_good rfl rfl rfl (v := V.bool (x_1140 != 0)) (.fn rfl) ?_
                  refine SafeOps.quiet0 E_good rfl rfl rfl (v := V.bool (x_1140 != 0)) (.fn rfl) ?_
                  refine SafeOps.bjoin 4 113 (b := ((x_1140 != 0) || (!(api_Task.beq x_1123 x_1139)))) (b1 := true) (b0 := (!(api_Task.beq x_1123 x_1139))) (fun hc1142 K => ?_) (fun hc1142 K => ?_) bj_or ?_
                  · skip
                    refine SafeOps.skip (congrArg (fun b => some (!b)) hc1142) rfl rfl ?_
                    refine SafeOps.skip (congrArg (fun b => some (!b)) hc1142) rfl rfl ?_
                    refine SafeOps.skip (congrArg (fun b => some (!b)) hc1142) rfl rfl ?_
                    refine SafeOps.quiet0 E_good rfl rfl rfl (v := V.bool true) (.pickK rfl hc1142 rfl) ?_
                    exact SafeOps.drop' 4 rfl rfl rfl K
                  · skip
                    refine SafeOps.quiet0 E_good (congrArg (fun b => some (!b)) hc1142) rfl rfl (v := V.agg [V.int .i64 x_1123.Id, V.int .i64 x_1123.Tenant, V.int .i64 x_1123.Prog, V.int .i64 x_1123.Pc, V.int .i64 x_1123.Unit, V.int .i64 x_1123.Keeps.a0, V.int .i64 x_1123.Keeps.a1, V.int .i64 x_1123.Keeps.a2, V.int .i64 x_1123.Keeps.a3, V.int .i64 x_1123.State, V.int .i64 x_1123.Ran]) (.load rfl rfl (.box rfl rfl) rfl) ?_
                    refine SafeOps.quiet0 E_good (congrArg (fun b => some (!b)) hc1142) rfl rfl (v := V.agg [V.int .i64 x_1139.Id, V.int .i64 x_1139.Tenant, V.int .i64 x_1139.Prog, V.int .i64 x_1139.Pc, V.int .i64 x_1139.Unit, V.int .i64 x_1139.Keeps.a0, V.int .i64 x_1139.Keeps.a1, V.int .i64 x_1139.Keeps.a2, V.int .i64 x_1139.Keeps.a3, V.int .i64 x_1139.State, V.int .i64 x_1139.Ran]) (.load rfl rfl (.box rfl rfl) rfl) ?_
                    refine SafeOps.quiet0 E_good (congrArg (fun b => some (!b)) hc1142) rfl rfl (v := V.bool (!(api_Task.beq x_1123 x_1139))) (.neA rfl rfl rfl rfl okT33 rfl) ?_
                    refine SafeOps.quiet0 E_good rfl rfl rfl (v := V.bool (!(api_Task.beq x_1123 x_1139))) (.pickK rfl hc1142 rfl) ?_
                    exact SafeOps.drop' 4 rfl rfl rfl K
                  refine SafeOps.nil ?_
                  repeat (first | refine Safe.seq ?_ | refine Safe.skip ?_ | with_reducible refine thenQ.n ?_ | with_reducible refine blockQ.n ?_)
                  refine ifG h (fun hc1143 h => ?_) (fun hc1143 h => ?_)
                  · skip
                    refine Safe.condK rfl hc1143 ?_
                    repeat (first | refine Safe.seq ?_ | refine Safe.skip ?_ | with_reducible refine thenQ.n ?_ | with_reducible refine blockQ.n ?_)
                    refine Safe.region ?_
                    refine SafeOps.quiet0 E_good rfl rfl rfl (v := V.bool false) (.fn rfl) ?_
                    refine SafeOps.nil ?_
                    repeat (first | refine Safe.seq ?_ | refine Safe.skip ?_ | with_reducible refine thenQ.n ?_ | with_reducible refine blockQ.n ?_)
                    refine Safe.ret ?_
                    repeat (first | with_reducible refine thenQ.r ?_ | with_reducible refine blockQ.r ?_)
                    obtain rfl := Option.some.inj h
                    exact retQ.gen (vs := [V.bool false]) rfl (.tmp (v := V.bool false) rfl .nil) (.free rfl) (by simp) (.inr rfl)
                  · skip
                    refine Safe.condN rfl hc1143 ?_
                    repeat (first | refine Safe.skip ?_ | with_reducible refine thenQ.n ?_ | with_reducible refine blockQ.n ?_)
                    exact Safe.got (HJ1136 () h) (.cov ⟨rfl, rfl, (upT_cons (.refl _) (upT_cons (.refl _) (upT_cons (.refl _) upT_nil))), (upOb_cons rfl (.refl _) (upOb_cons rfl (.refl _) upOb_nil)), upOut_nil, rfl⟩)
                · skip
                  refine Safe.condN rfl hc1138 ?_
                  repeat (first | refine Safe.skip ?_ | with_reducible refine thenQ.n ?_ | with_reducible refine blockQ.n ?_)
                  exact Safe.got (HJ1136 () h) (.cov ⟨rfl, rfl, (upT_cons (.refl _) (upT_cons (.refl _) (upT_cons (.refl _) upT_nil))), (upOb_cons rfl (.refl _) (upOb_cons rfl (.refl _) upOb_nil)), upOut_nil, rfl⟩)
end Go.Proofs.YtechkmappabefaaDoor
