/- Helper lemmas for the claim's theorem: an abstract machine over the model, proved sound; no condition beyond each lemma's own. -/
import Derived.Test.YtoapmmcoaggekaaT1
set_option linter.unusedVariables false
set_option linter.unusedSimpArgs false
set_option linter.unnecessarySimpa false
set_option linter.unusedSectionVars false
namespace Go.Proofs.Ytoapmmcoaggekaa
open Go Go.AM
set_option maxRecDepth 100000
set_option maxHeartbeats 1000000
set_option linter.unusedVariables false
set_option linter.unusedSimpArgs false
variable {gl : List (Nat × List V)}
noncomputable def go_ring_Solo_s2 (a1_21 : api_Deque) : ((List Int) × Int × Int × Int × Int × Int × Bool × Int) → Option (((List Int) × Int × Int × Int × Int × Int × Bool × Int) ⊕ ((List Int) × api_Hand × Int))
 | (v0_1959, v50_1960, v51_1961, v52_1962, v53_1963, v54_1964, v55_1965, v56_1966) =>
  if (v56_1966 == 0) = true then
   (go_ring_Step v0_1959 a1_21 (api_Hand.mk v50_1960 v51_1961 v52_1962 v53_1963 v54_1964 v55_1965 v56_1966)).bind fun (x_1969, x_1970, x_1971) =>
   if (x_1971 != 0) = true then
    inrO (
     some ([], api_Hand.zero, x_1971))
   else
    nextO (x_1969, x_1970.Kind, x_1970.Pc, x_1970.V, x_1970.T, x_1970.B, x_1970.Won, x_1970.State)
  else
   inrO (
    some (v0_1959, (api_Hand.mk v50_1960 v51_1961 v52_1962 v53_1963 v54_1964 v55_1965 v56_1966), 0))

noncomputable def go_ring_Solo (a0_20 : List Int) (a1_21 : api_Deque) (a2_22 : api_Hand) : Option ((List Int) × api_Hand × Int) :=
 if (((go_ring_Check a0_20 a1_21) != 0) || (!(go_ring_may a2_22))) = true then
  some ([], api_Hand.zero, 1)
 else
  if few ([] ++ a0_20).length then
   whileO (go_ring_Solo_s2 a1_21) ([] ++ a0_20, a2_22.Kind, a2_22.Pc, a2_22.V, a2_22.T, a2_22.B, a2_22.Won, a2_22.State)
  else none

theorem go_ring_Solo_sc (a0_20 : List Int) (a1_21 : api_Deque) (a2_22 : api_Hand) (r : (List Int) × api_Hand × Int) (h : go_ring_Solo a0_20 a1_21 a2_22 = some r) : SC Try.prog gl 10 [V.sl 1 (rws (fun n => [V.int .i64 n]) a0_20), V.agg [V.int .i64 a1_21.Base, V.int .i64 a1_21.Cap], V.agg [V.int .i64 a2_22.Kind, V.int .i64 a2_22.Pc, V.int .i64 a2_22.V, V.int .i64 a2_22.T, V.int .i64 a2_22.B, V.bool a2_22.Won, V.int .i64 a2_22.State]] (V.tup [V.own 1 (rws (fun n => [V.int .i64 n]) r.1), V.agg [V.int .i64 r.2.1.Kind, V.int .i64 r.2.1.Pc, V.int .i64 r.2.1.V, V.int .i64 r.2.1.T, V.int .i64 r.2.1.B, V.bool r.2.1.Won, V.int .i64 r.2.1.State], V.int .i64 r.2.2]) := by
 rw [go_ring_Solo] at h
 refine SC.of E_good Try.func10 rfl (fun _ _ => Try.call10 _ _) rfl ?_
 repeat (first | refine sq ?_ | refine sk ?_ | with_reducible first | refine tn ?_ | refine bn ?_)
 refine Safe.region ?_
 refine SafeOps.quiet1 E_good rfl rfl rfl (.box rfl rfl) rfl ?_
 refine SafeOps.quiet1 E_good rfl rfl rfl (.box rfl rfl) rfl ?_
 refine Qf E_good ?_
 refine SafeOps.quiet1 E_good rfl rfl rfl (.alloc rfl rfl) rfl ?_
 refine Qf E_good ?_
 refine SafeOps.nil ?_
 repeat (first | refine sq ?_ | refine sk ?_ | with_reducible first | refine tn ?_ | refine bn ?_)
 refine Safe.region ?_
 refine Qf E_good ?_
 refine Q0 E_good rfl (v := V.agg [V.int .i64 a1_21.Base, V.int .i64 a1_21.Cap]) (.load rfl rfl (.box rfl rfl) rfl) ?_
 refine Q0 E_good rfl (v := V.int .i64 (go_ring_Check a0_20 a1_21)) (.callP rfl rfl (go_ring_Check_sc a0_20 a1_21 _ rfl) rfl) ?_
 refine Q0 E_good rfl (v := V.bool ((go_ring_Check a0_20 a1_21) != 0)) (.fn rfl) ?_
 refine Qf E_good ?_
 refine SafeOps.bjoin 4 20 (b := (((go_ring_Check a0_20 a1_21) != 0) || (!(go_ring_may a2_22)))) (b1 := true) (b0 := (!(go_ring_may a2_22))) (fun hc1901 K => ?_) (fun hc1901 K => ?_) bj_or ?_
 ·skip
  refine SafeOps.skip (congrArg (fun b => some (!b)) hc1901) rfl rfl ?_
  refine SafeOps.skip (congrArg (fun b => some (!b)) hc1901) rfl rfl ?_
  refine SafeOps.skip (congrArg (fun b => some (!b)) hc1901) rfl rfl ?_
  refine Q0 E_good rfl (v := V.bool true) (.pickK rfl hc1901 rfl) ?_
  exact SafeOps.drop' 4 rfl rfl rfl K
 ·skip
  refine SafeOps.quiet0 E_good (congrArg (fun b => some (!b)) hc1901) rfl rfl (v := V.agg [V.int .i64 a2_22.Kind, V.int .i64 a2_22.Pc, V.int .i64 a2_22.V, V.int .i64 a2_22.T, V.int .i64 a2_22.B, V.bool a2_22.Won, V.int .i64 a2_22.State]) (.load rfl rfl (.box rfl rfl) rfl) ?_
  refine SafeOps.quiet0 E_good (congrArg (fun b => some (!b)) hc1901) rfl rfl (v := V.bool (go_ring_may a2_22)) (.callP rfl rfl (go_ring_may_sc a2_22 _ rfl) rfl) ?_
  refine SafeOps.quiet0 E_good (congrArg (fun b => some (!b)) hc1901) rfl rfl (v := V.bool (!(go_ring_may a2_22))) (.fn rfl) ?_
  refine Q0 E_good rfl (v := V.bool (!(go_ring_may a2_22))) (.pickK rfl hc1901 rfl) ?_
  exact SafeOps.drop' 4 rfl rfl rfl K
 refine SafeOps.nil ?_
 repeat (first | refine sq ?_ | refine sk ?_ | with_reducible first | refine tn ?_ | refine bn ?_)
 refine ifG h (fun hc1902 h => ?_) (fun hc1902 h => ?_)
 ·skip
  refine Safe.condK rfl hc1902 ?_
  repeat (first | refine sq ?_ | refine sk ?_ | with_reducible first | refine tn ?_ | refine bn ?_)
  refine Safe.region ?_
  refine Q0 E_good rfl (v := V.agg [V.int .i64 0, V.int .i64 0, V.int .i64 0, V.int .i64 0, V.int .i64 0, V.bool false, V.int .i64 0]) (.fn rfl) ?_
  refine Qf E_good ?_
  refine SafeOps.store (z := Obj.box [V.int .i64 0, V.int .i64 0, V.int .i64 0, V.int .i64 0, V.int .i64 0, V.bool false, V.int .i64 0]) E_good rfl rfl rfl rfl rfl rfl rfl (.boxM (c := 7) rfl rfl (Nat.le_of_ble_eq_true rfl) rfl) ?_
  refine Qf E_good ?_
  refine SafeOps.nil ?_
  repeat (first | refine sq ?_ | refine sk ?_ | with_reducible first | refine tn ?_ | refine bn ?_)
  refine Safe.ret ?_
  repeat (first | with_reducible refine thenQ.r ?_ | with_reducible refine blockQ.r ?_)
  obtain rfl := Option.some.inj h
  exact retQ.gen (vs := [V.nils, V.agg [V.int .i64 0, V.int .i64 0, V.int .i64 0, V.int .i64 0, V.int .i64 0, V.bool false, V.int .i64 0], V.int .i64 1]) rfl (.tmp (v := V.nils) rfl (.cell (v := V.agg [V.int .i64 0, V.int .i64 0, V.int .i64 0, V.int .i64 0, V.int .i64 0, V.bool false, V.int .i64 0]) rfl rfl (.box rfl rfl) rfl (.tmp (v := V.int .i64 1) rfl .nil))) (by exact (.tup (.cons (.nils _) (.cons (.free rfl) (.cons (.free rfl) .nil))))) (by simp) (.inr rfl)
 ·skip
  refine Safe.condN rfl hc1902 ?_
  repeat (first | refine sq ?_ | refine sk ?_ | with_reducible first | refine tn ?_ | refine bn ?_)
  refine Safe.region ?_
  refine Qf E_good ?_
  refine okG h (fun hb1903 h => ?_)
  refine SafeOps.appendM (fun n => [V.int .i64 n]) (xs := []) (ys := a0_20) E_good rfl rfl rfl rfl rfl rfl rfl rfl rfl .nils (.sl _) (fun _ => rfl) hb1903 ?_
  refine Qf E_good ?_
  refine SafeOps.nil ?_
  repeat (first | refine sq ?_ | refine sk ?_ | with_reducible first | refine tn ?_ | refine bn ?_)
  refine Safe.block ?_
  repeat (first | refine sq ?_ | refine sk ?_ | with_reducible first | refine tn ?_ | refine bn ?_)
  refine Safe.loopW (fun ((v0_1959, v50_1960, v51_1961, v52_1962, v53_1963, v54_1964, v55_1965, v56_1966) : (List Int) × Int × Int × Int × Int × Int × Bool × Int) => ⟨Try.f10.ntmps, [(0, V.ref [7000, 118, 0] 0 (rws (fun n => [V.int .i64 n]) v0_1959).length), (4, V.ptr [4] 0 0), (5, V.ptr [5] 0 0), (7, V.ptr [7] 0 0)], [([4], Obj.box [V.int .i64 a1_21.Base, V.int .i64 a1_21.Cap]), ([5], Obj.box [V.int .i64 v50_1960, V.int .i64 v51_1961, V.int .i64 v52_1962, V.int .i64 v53_1963, V.int .i64 v54_1964, V.bool v55_1965, V.int .i64 v56_1966]), ([7], Obj.box [V.int .i64 0, V.int .i64 0, V.int .i64 0, V.int .i64 0, V.int .i64 0, V.bool false, V.int .i64 0]), ([7000, 118, 0], Obj.rows 1 (rws (fun n => [V.int .i64 n]) v0_1959) false)], [], []⟩) h (.ren [23] [7000, 118, 0] (.cov ⟨rfl, rfl, (ut (ut (ut (ut upT_nil)))), (uo (uo (uo (uo upOb_nil)))), upOut_nil, rfl⟩)) ?_
  rintro ⟨v0_1959, v50_1960, v51_1961, v52_1962, v53_1963, v54_1964, v55_1965, v56_1966⟩ ohr1967 h hr1967
  replace h : go_ring_Solo_s2 a1_21 (v0_1959, v50_1960, v51_1961, v52_1962, v53_1963, v54_1964, v55_1965, v56_1966) = some ohr1967 := h
  rw [go_ring_Solo_s2] at h
  repeat (first | refine sq ?_ | refine sk ?_ | with_reducible first | refine tn ?_ | refine bn ?_)
  refine Safe.region ?_
  refine Q0 E_good rfl (v := V.ptr [5] 0 6) (.fn rfl) ?_
  refine Q0 E_good rfl (v := V.int .i64 v56_1966) (.load rfl rfl (.box rfl rfl) rfl) ?_
  refine Q0 E_good rfl (v := V.bool (v56_1966 == 0)) (.fn rfl) ?_
  refine SafeOps.nil ?_
  repeat (first | refine sq ?_ | refine sk ?_ | with_reducible first | refine tn ?_ | refine bn ?_)
  refine ifG h (fun hc1968 h => ?_) (fun hc1968 h => ?_)
  ·skip
   refine Safe.condK rfl hc1968 ?_
   repeat (first | refine sq ?_ | refine sk ?_ | with_reducible first | refine tn ?_ | refine bn ?_)
   refine Safe.block ?_
   repeat (first | refine sq ?_ | refine sk ?_ | with_reducible first | refine tn ?_ | refine bn ?_)
   refine Safe.region ?_
   refine Qf E_good ?_
   refine Q0 E_good rfl (v := V.agg [V.int .i64 a1_21.Base, V.int .i64 a1_21.Cap]) (.load rfl rfl (.box rfl rfl) rfl) ?_
   refine Q0 E_good rfl (v := V.agg [V.int .i64 v50_1960, V.int .i64 v51_1961, V.int .i64 v52_1962, V.int .i64 v53_1963, V.int .i64 v54_1964, V.bool v55_1965, V.int .i64 v56_1966]) (.load rfl rfl (.box rfl rfl) rfl) ?_
   refine bindG h ?_
   rintro ⟨x_1969, x_1970, x_1971⟩ he1972 h
   refine SafeOps.quiet E_good rfl rfl rfl (v := V.tup [V.ref [31, 0] 0 (rws (fun n => [V.int .i64 n]) x_1969).length, V.agg [V.int .i64 x_1970.Kind, V.int .i64 x_1970.Pc, V.int .i64 x_1970.V, V.int .i64 x_1970.T, V.int .i64 x_1970.B, V.bool x_1970.Won, V.int .i64 x_1970.State], V.int .i64 x_1971]) (.callS rfl (.cons (.full rfl rfl) (.cons (.free rfl) (.cons (.free rfl) .nil))) (go_ring_Step_sc v0_1959 a1_21 (api_Hand.mk v50_1960 v51_1961 v52_1962 v53_1963 v54_1964 v55_1965 v56_1966) _ he1972) (.tupL (.cons (.ownM (fun _ => rfl)) (.cons (.aggL (.cons (.plain rfl) (.cons (.plain rfl) (.cons (.plain rfl) (.cons (.plain rfl) (.cons (.plain rfl) (.cons (.plain rfl) (.cons (.plain rfl) .nil)))))))) (.cons (.plain rfl) .nil)))) rfl) rfl ?_
   refine Qf E_good ?_
   refine Qf E_good ?_
   refine Qf E_good ?_
   refine Qf E_good ?_
   refine SafeOps.quiet1 E_good rfl rfl rfl (.alloc rfl rfl) rfl ?_
   refine Qf E_good ?_
   refine SafeOps.store (z := Obj.box [V.int .i64 x_1970.Kind, V.int .i64 x_1970.Pc, V.int .i64 x_1970.V, V.int .i64 x_1970.T, V.int .i64 x_1970.B, V.bool x_1970.Won, V.int .i64 x_1970.State]) E_good rfl rfl rfl rfl rfl rfl rfl (.boxM (c := 7) rfl rfl (Nat.le_of_ble_eq_true rfl) rfl) ?_
   refine Qf E_good ?_
   refine SafeOps.nil ?_
   repeat (first | refine sq ?_ | refine sk ?_ | with_reducible first | refine tn ?_ | refine bn ?_)
   refine Safe.region ?_
   refine Qf E_good ?_
   refine Q0 E_good rfl (v := V.bool (x_1971 != 0)) (.fn rfl) ?_
   refine SafeOps.nil ?_
   repeat (first | refine sq ?_ | refine sk ?_ | with_reducible first | refine tn ?_ | refine bn ?_)
   refine ifG h (fun hc1973 h => ?_) (fun hc1973 h => ?_)
   ·skip
    refine Safe.condK rfl hc1973 ?_
    repeat (first | refine sq ?_ | refine sk ?_ | with_reducible first | refine tn ?_ | refine bn ?_)
    refine Safe.region ?_
    refine Q0 E_good rfl (v := V.agg [V.int .i64 0, V.int .i64 0, V.int .i64 0, V.int .i64 0, V.int .i64 0, V.bool false, V.int .i64 0]) (.fn rfl) ?_
    refine Qf E_good ?_
    refine Qf E_good ?_
    refine SafeOps.store (z := Obj.box [V.int .i64 0, V.int .i64 0, V.int .i64 0, V.int .i64 0, V.int .i64 0, V.bool false, V.int .i64 0]) E_good rfl rfl rfl rfl rfl rfl rfl (.boxM (c := 7) rfl rfl (Nat.le_of_ble_eq_true rfl) rfl) ?_
    refine Qf E_good ?_
    refine SafeOps.nil ?_
    repeat (first | refine sq ?_ | refine sk ?_ | with_reducible first | refine tn ?_ | refine bn ?_)
    refine Safe.ret ?_
    repeat (first | with_reducible refine thenQ.r ?_ | with_reducible refine blockQ.r ?_)
    replace h := inr_out h hr1967
    obtain rfl := Option.some.inj h
    exact retQ.gen (vs := [V.nils, V.agg [V.int .i64 0, V.int .i64 0, V.int .i64 0, V.int .i64 0, V.int .i64 0, V.bool false, V.int .i64 0], V.int .i64 x_1971]) rfl (.tmp (v := V.nils) rfl (.cell (v := V.agg [V.int .i64 0, V.int .i64 0, V.int .i64 0, V.int .i64 0, V.int .i64 0, V.bool false, V.int .i64 0]) rfl rfl (.box rfl rfl) rfl (.tmp (v := V.int .i64 x_1971) rfl .nil))) (by exact (.tup (.cons (.nils _) (.cons (.free rfl) (.cons (.free rfl) .nil))))) (by simp) (.inr rfl)
   ·skip
    refine Safe.condN rfl hc1973 ?_
    repeat (first | refine sq ?_ | refine sk ?_ | with_reducible first | refine tn ?_ | refine bn ?_)
    refine Safe.regionD (n := 4) [(3, [5])] [] E_good mixed rfl ?_
    refine DT 0 [[5]] rfl rfl (fun _ hz => (.fn rfl)) ?_
    refine DT 1 [[5]] rfl rfl (v := V.agg [V.int .i64 x_1970.Kind, V.int .i64 x_1970.Pc, V.int .i64 x_1970.V, V.int .i64 x_1970.T, V.int .i64 x_1970.B, V.bool x_1970.Won, V.int .i64 x_1970.State]) (fun _ hz => (.load rfl rfl (.box (hz _ _ rfl rfl) rfl) rfl)) ?_
    refine DT 2 [[5]] rfl rfl (fun _ hz => (.fn rfl)) ?_
    refine DAny.only (i := 3) rfl (by kernel_rfl) (.store (z := Obj.box [V.int .i64 x_1970.Kind, V.int .i64 x_1970.Pc, V.int .i64 x_1970.V, V.int .i64 x_1970.T, V.int .i64 x_1970.B, V.bool x_1970.Won, V.int .i64 x_1970.State]) rfl rfl rfl rfl rfl rfl rfl (.boxM (c := 7) rfl rfl (Nat.le_of_ble_eq_true rfl) rfl) rfl ?_)
    refine DAny.nil (by kernel_rfl) ?_
    repeat (first | refine sq ?_ | refine sk ?_ | with_reducible first | refine tn ?_ | refine bn ?_)
    exact ⟨_, next_out h, (.ren [31, 0] [7000, 118, 0] (.cov ⟨rfl, rfl, (ut (ut (ut (ut upT_nil)))), (uo (uo (uo (uo upOb_nil)))), upOut_nil, rfl⟩))⟩
  ·skip
   refine Safe.condN rfl hc1968 ?_
   repeat (first | refine sq ?_ | refine sk ?_ | with_reducible first | refine tn ?_ | refine bn ?_)
   refine Safe.exit ?_
   repeat (first | with_reducible refine thenQ.e ?_ | with_reducible refine blockQ.x rfl ?_ | with_reducible refine blockQ.y rfl ?_)
   replace h := inr_out h hr1967
   repeat (first | refine sq ?_ | refine sk ?_ | with_reducible first | refine tn ?_ | refine bn ?_)
   refine Safe.regionD (n := 5) [(3, [7])] [] E_good mixed rfl ?_
   refine DT 0 [[7]] rfl rfl (fun _ hz => (.fn rfl)) ?_
   refine DT 1 [[7]] rfl rfl (v := V.agg [V.int .i64 v50_1960, V.int .i64 v51_1961, V.int .i64 v52_1962, V.int .i64 v53_1963, V.int .i64 v54_1964, V.bool v55_1965, V.int .i64 v56_1966]) (fun _ hz => (.load rfl rfl (.box (hz _ _ rfl rfl) rfl) rfl)) ?_
   refine DT 2 [[7]] rfl rfl (fun _ hz => (.fn rfl)) ?_
   refine DAny.only (i := 3) rfl (by kernel_rfl) (.store (z := Obj.box [V.int .i64 v50_1960, V.int .i64 v51_1961, V.int .i64 v52_1962, V.int .i64 v53_1963, V.int .i64 v54_1964, V.bool v55_1965, V.int .i64 v56_1966]) rfl rfl rfl rfl rfl rfl rfl (.boxM (c := 7) rfl rfl (Nat.le_of_ble_eq_true rfl) rfl) rfl ?_)
   refine DT 4 [[7]] rfl rfl (fun _ hz => (.fn rfl)) ?_
   refine DAny.nil (by kernel_rfl) ?_
   repeat (first | refine sq ?_ | refine sk ?_ | with_reducible first | refine tn ?_ | refine bn ?_)
   refine Safe.ret ?_
   repeat (first | with_reducible refine thenQ.r ?_ | with_reducible refine blockQ.r ?_)
   obtain rfl := Option.some.inj h
   exact retQ.gen (vs := [V.ref [7000, 118, 0] 0 (rws (fun n => [V.int .i64 n]) v0_1959).length, V.agg [V.int .i64 v50_1960, V.int .i64 v51_1961, V.int .i64 v52_1962, V.int .i64 v53_1963, V.int .i64 v54_1964, V.bool v55_1965, V.int .i64 v56_1966], V.int .i64 0]) rfl (.tmp (v := V.ref [7000, 118, 0] 0 (rws (fun n => [V.int .i64 n]) v0_1959).length) rfl (.cell (v := V.agg [V.int .i64 v50_1960, V.int .i64 v51_1961, V.int .i64 v52_1962, V.int .i64 v53_1963, V.int .i64 v54_1964, V.bool v55_1965, V.int .i64 v56_1966]) rfl rfl (.box rfl rfl) rfl (.tmp (v := V.int .i64 0) rfl .nil))) (by exact (.tup (.cons (.own rfl rfl) (.cons (.free rfl) (.cons (.free rfl) .nil))))) (by simp) (.inr rfl)

noncomputable def go_ravellaw07_done (a0_4 : List Int) (a1_5 : api_Deque) (a2_6 : Int) (a3_7 : Int) : Option ((List Int) × api_Hand × Bool) :=
 letO (go_ring_Start a2_6 a3_7) fun (x_1985, x_1986) =>
 (go_ring_Solo a0_4 a1_5 x_1985).bind fun (x_1988, x_1989, x_1990) =>
 if (x_1986 == 0) = true then
  if (x_1990 == 0) = true then
   some (x_1988, x_1989, (x_1989.State != 0))
  else
   some (x_1988, x_1989, false)
 else
  some (x_1988, x_1989, false)

theorem go_ravellaw07_done_sc (a0_4 : List Int) (a1_5 : api_Deque) (a2_6 : Int) (a3_7 : Int) (r : (List Int) × api_Hand × Bool) (h : go_ravellaw07_done a0_4 a1_5 a2_6 a3_7 = some r) : SC Try.prog gl 19 [V.sl 1 (rws (fun n => [V.int .i64 n]) a0_4), V.agg [V.int .i64 a1_5.Base, V.int .i64 a1_5.Cap], V.int .i64 a2_6, V.int .i64 a3_7] (V.tup [V.own 1 (rws (fun n => [V.int .i64 n]) r.1), V.agg [V.int .i64 r.2.1.Kind, V.int .i64 r.2.1.Pc, V.int .i64 r.2.1.V, V.int .i64 r.2.1.T, V.int .i64 r.2.1.B, V.bool r.2.1.Won, V.int .i64 r.2.1.State], V.bool r.2.2]) := by
 rw [go_ravellaw07_done] at h
 refine SC.of E_good Try.func19 rfl (fun _ _ => Try.call19 _ _) rfl ?_
 repeat (first | refine sq ?_ | refine sk ?_ | with_reducible first | refine tn ?_ | refine bn ?_)
 refine Safe.region ?_
 refine SafeOps.quiet1 E_good rfl rfl rfl (.box rfl rfl) rfl ?_
 refine Qf E_good ?_
 refine SafeOps.quiet1 E_good rfl rfl rfl (.alloc rfl rfl) rfl ?_
 refine Qf E_good ?_
 refine SafeOps.nil ?_
 repeat (first | refine sq ?_ | refine sk ?_ | with_reducible first | refine tn ?_ | refine bn ?_)
 refine Safe.region ?_
 refine Qf E_good ?_
 refine Qf E_good ?_
 refine letG h ?_
 rintro ⟨x_1985, x_1986⟩ he1987 h
 refine Q0 E_good rfl (v := V.tup [V.agg [V.int .i64 x_1985.Kind, V.int .i64 x_1985.Pc, V.int .i64 x_1985.V, V.int .i64 x_1985.T, V.int .i64 x_1985.B, V.bool x_1985.Won, V.int .i64 x_1985.State], V.int .i64 x_1986]) (.callP rfl rfl (go_ring_Start_sc a2_6 a3_7 _ he1987) rfl) ?_
 refine Qf E_good ?_
 refine Qf E_good ?_
 refine Qf E_good ?_
 refine SafeOps.quiet1 E_good rfl rfl rfl (.alloc rfl rfl) rfl ?_
 refine SafeOps.store (z := Obj.box [V.int .i64 x_1985.Kind, V.int .i64 x_1985.Pc, V.int .i64 x_1985.V, V.int .i64 x_1985.T, V.int .i64 x_1985.B, V.bool x_1985.Won, V.int .i64 x_1985.State]) E_good rfl rfl rfl rfl rfl rfl rfl (.boxM (c := 7) rfl rfl (Nat.le_of_ble_eq_true rfl) rfl) ?_
 refine Qf E_good ?_
 refine SafeOps.nil ?_
 repeat (first | refine sq ?_ | refine sk ?_ | with_reducible first | refine tn ?_ | refine bn ?_)
 refine Safe.region ?_
 refine Qf E_good ?_
 refine Q0 E_good rfl (v := V.agg [V.int .i64 a1_5.Base, V.int .i64 a1_5.Cap]) (.load rfl rfl (.box rfl rfl) rfl) ?_
 refine Q0 E_good rfl (v := V.agg [V.int .i64 x_1985.Kind, V.int .i64 x_1985.Pc, V.int .i64 x_1985.V, V.int .i64 x_1985.T, V.int .i64 x_1985.B, V.bool x_1985.Won, V.int .i64 x_1985.State]) (.load rfl rfl (.box rfl rfl) rfl) ?_
 refine bindG h ?_
 rintro ⟨x_1988, x_1989, x_1990⟩ he1991 h
 refine SafeOps.quiet E_good rfl rfl rfl (v := V.tup [V.ref [24, 0] 0 (rws (fun n => [V.int .i64 n]) x_1988).length, V.agg [V.int .i64 x_1989.Kind, V.int .i64 x_1989.Pc, V.int .i64 x_1989.V, V.int .i64 x_1989.T, V.int .i64 x_1989.B, V.bool x_1989.Won, V.int .i64 x_1989.State], V.int .i64 x_1990]) (.callP rfl rfl (go_ring_Solo_sc a0_4 a1_5 x_1985 _ he1991) rfl) rfl ?_
 refine Qf E_good ?_
 refine Qf E_good ?_
 refine Qf E_good ?_
 refine Qf E_good ?_
 refine Qf E_good ?_
 refine SafeOps.store (z := Obj.box [V.int .i64 x_1989.Kind, V.int .i64 x_1989.Pc, V.int .i64 x_1989.V, V.int .i64 x_1989.T, V.int .i64 x_1989.B, V.bool x_1989.Won, V.int .i64 x_1989.State]) E_good rfl rfl rfl rfl rfl rfl rfl (.boxM (c := 7) rfl rfl (Nat.le_of_ble_eq_true rfl) rfl) ?_
 refine Qf E_good ?_
 refine SafeOps.nil ?_
 repeat (first | refine sq ?_ | refine sk ?_ | with_reducible first | refine tn ?_ | refine bn ?_)
 refine Safe.regionD (n := 16) [(14, [9])] [] E_good mixed rfl ?_
 refine DT 0 [[9]] rfl rfl (fun _ hz => (.fn rfl)) ?_
 refine DT 1 [[9]] rfl rfl (v := V.agg [V.int .i64 x_1989.Kind, V.int .i64 x_1989.Pc, V.int .i64 x_1989.V, V.int .i64 x_1989.T, V.int .i64 x_1989.B, V.bool x_1989.Won, V.int .i64 x_1989.State]) (fun _ hz => (.load rfl rfl (.box (hz _ _ rfl rfl) rfl) rfl)) ?_
 refine DT 2 [[9]] rfl rfl (fun _ hz => (.fn rfl)) ?_
 refine DT 3 [[9]] rfl rfl (v := V.bool (x_1986 == 0)) (fun _ hz => (.fn rfl)) ?_
 refine DT 4 [[9]] rfl rfl (fun _ hz => (.fn rfl)) ?_
 refine ifG h (fun hc1992 h => ?_) (fun hc1992 h => ?_)
 ·skip
  refine DAny.take (i := 5) rfl (by kernel_rfl) [[9]] (by kernel_rfl) (by kernel_rfl) (by kernel_rfl) (congrArg some hc1992) rfl rfl (fun _ hz => (.fn rfl)) ?_
  refine DAny.take (i := 6) rfl (by kernel_rfl) [[9]] (by kernel_rfl) (by kernel_rfl) (by kernel_rfl) (congrArg some hc1992) rfl rfl (v := V.bool (x_1990 == 0)) (fun _ hz => (.fn rfl)) ?_
  refine DT 7 [[9]] rfl rfl (v := V.bool (x_1990 == 0)) (fun _ hz => (.pickK rfl hc1992 rfl)) ?_
  refine DT 8 [[9]] rfl rfl (fun _ hz => (.fn rfl)) ?_
  refine ifG h (fun hc1993 h => ?_) (fun hc1993 h => ?_)
  ·skip
   refine DAny.take (i := 9) rfl (by kernel_rfl) [[9]] (by kernel_rfl) (by kernel_rfl) (by kernel_rfl) (congrArg some hc1993) rfl rfl (v := V.ptr [11] 0 6) (fun _ hz => (.fn rfl)) ?_
   refine DAny.take (i := 10) rfl (by kernel_rfl) [[9]] (by kernel_rfl) (by kernel_rfl) (by kernel_rfl) (congrArg some hc1993) rfl rfl (v := V.int .i64 x_1989.State) (fun _ hz => (.load rfl rfl (.box (hz _ _ rfl rfl) rfl) rfl)) ?_
   refine DAny.take (i := 11) rfl (by kernel_rfl) [[9]] (by kernel_rfl) (by kernel_rfl) (by kernel_rfl) (congrArg some hc1993) rfl rfl (v := V.bool (x_1989.State != 0)) (fun _ hz => (.fn rfl)) ?_
   refine DT 12 [[9]] rfl rfl (v := V.bool (x_1989.State != 0)) (fun _ hz => (.pickK rfl hc1993 rfl)) ?_
   refine DT 13 [[9]] rfl rfl (fun _ hz => (.fn rfl)) ?_
   refine DAny.only (i := 14) rfl (by kernel_rfl) (.store (z := Obj.box [V.int .i64 x_1989.Kind, V.int .i64 x_1989.Pc, V.int .i64 x_1989.V, V.int .i64 x_1989.T, V.int .i64 x_1989.B, V.bool x_1989.Won, V.int .i64 x_1989.State]) rfl rfl rfl rfl rfl rfl rfl (.boxM (c := 7) rfl rfl (Nat.le_of_ble_eq_true rfl) rfl) rfl ?_)
   refine DT 15 [[9]] rfl rfl (fun _ hz => (.fn rfl)) ?_
   refine DAny.nil (by kernel_rfl) ?_
   repeat (first | refine sq ?_ | refine sk ?_ | with_reducible first | refine tn ?_ | refine bn ?_)
   refine Safe.ret ?_
   repeat (first | with_reducible refine thenQ.r ?_ | with_reducible refine blockQ.r ?_)
   obtain rfl := Option.some.inj h
   exact retQ.gen (vs := [V.ref [24, 0] 0 (rws (fun n => [V.int .i64 n]) x_1988).length, V.agg [V.int .i64 x_1989.Kind, V.int .i64 x_1989.Pc, V.int .i64 x_1989.V, V.int .i64 x_1989.T, V.int .i64 x_1989.B, V.bool x_1989.Won, V.int .i64 x_1989.State], V.bool (x_1989.State != 0)]) rfl (.tmp (v := V.ref [24, 0] 0 (rws (fun n => [V.int .i64 n]) x_1988).length) rfl (.cell (v := V.agg [V.int .i64 x_1989.Kind, V.int .i64 x_1989.Pc, V.int .i64 x_1989.V, V.int .i64 x_1989.T, V.int .i64 x_1989.B, V.bool x_1989.Won, V.int .i64 x_1989.State]) rfl rfl (.box rfl rfl) rfl (.tmp (v := V.bool (x_1989.State != 0)) rfl .nil))) (by exact (.tup (.cons (.own rfl rfl) (.cons (.free rfl) (.cons (.free rfl) .nil))))) (by simp) (.inr rfl)
  ·skip
   refine DAny.takeSkip (i := 9) rfl (by kernel_rfl) [[9]] (by kernel_rfl) (by kernel_rfl) (by kernel_rfl) (congrArg some hc1993) rfl rfl ?_
   refine DAny.takeSkip (i := 10) rfl (by kernel_rfl) [[9]] (by kernel_rfl) (by kernel_rfl) (by kernel_rfl) (congrArg some hc1993) rfl rfl ?_
   refine DAny.takeSkip (i := 11) rfl (by kernel_rfl) [[9]] (by kernel_rfl) (by kernel_rfl) (by kernel_rfl) (congrArg some hc1993) rfl rfl ?_
   refine DT 12 [[9]] rfl rfl (v := V.bool false) (fun _ hz => (.pickK rfl hc1993 rfl)) ?_
   refine DT 13 [[9]] rfl rfl (fun _ hz => (.fn rfl)) ?_
   refine DAny.only (i := 14) rfl (by kernel_rfl) (.store (z := Obj.box [V.int .i64 x_1989.Kind, V.int .i64 x_1989.Pc, V.int .i64 x_1989.V, V.int .i64 x_1989.T, V.int .i64 x_1989.B, V.bool x_1989.Won, V.int .i64 x_1989.State]) rfl rfl rfl rfl rfl rfl rfl (.boxM (c := 7) rfl rfl (Nat.le_of_ble_eq_true rfl) rfl) rfl ?_)
   refine DT 15 [[9]] rfl rfl (fun _ hz => (.fn rfl)) ?_
   refine DAny.nil (by kernel_rfl) ?_
   repeat (first | refine sq ?_ | refine sk ?_ | with_reducible first | refine tn ?_ | refine bn ?_)
   refine Safe.ret ?_
   repeat (first | with_reducible refine thenQ.r ?_ | with_reducible refine blockQ.r ?_)
   obtain rfl := Option.some.inj h
   exact retQ.gen (vs := [V.ref [24, 0] 0 (rws (fun n => [V.int .i64 n]) x_1988).length, V.agg [V.int .i64 x_1989.Kind, V.int .i64 x_1989.Pc, V.int .i64 x_1989.V, V.int .i64 x_1989.T, V.int .i64 x_1989.B, V.bool x_1989.Won, V.int .i64 x_1989.State], V.bool false]) rfl (.tmp (v := V.ref [24, 0] 0 (rws (fun n => [V.int .i64 n]) x_1988).length) rfl (.cell (v := V.agg [V.int .i64 x_1989.Kind, V.int .i64 x_1989.Pc, V.int .i64 x_1989.V, V.int .i64 x_1989.T, V.int .i64 x_1989.B, V.bool x_1989.Won, V.int .i64 x_1989.State]) rfl rfl (.box rfl rfl) rfl (.tmp (v := V.bool false) rfl .nil))) (by exact (.tup (.cons (.own rfl rfl) (.cons (.free rfl) (.cons (.free rfl) .nil))))) (by simp) (.inr rfl)
 ·skip
  refine DAny.takeSkip (i := 5) rfl (by kernel_rfl) [[9]] (by kernel_rfl) (by kernel_rfl) (by kernel_rfl) (congrArg some hc1992) rfl rfl ?_
  refine DAny.takeSkip (i := 6) rfl (by kernel_rfl) [[9]] (by kernel_rfl) (by kernel_rfl) (by kernel_rfl) (congrArg some hc1992) rfl rfl ?_
  refine DT 7 [[9]] rfl rfl (v := V.bool false) (fun _ hz => (.pickK rfl hc1992 rfl)) ?_
  refine DT 8 [[9]] rfl rfl (fun _ hz => (.fn rfl)) ?_
  refine DAny.takeSkip (i := 9) rfl (by kernel_rfl) [[9]] (by kernel_rfl) (by kernel_rfl) (by kernel_rfl) rfl rfl rfl ?_
  refine DAny.takeSkip (i := 10) rfl (by kernel_rfl) [[9]] (by kernel_rfl) (by kernel_rfl) (by kernel_rfl) rfl rfl rfl ?_
  refine DAny.takeSkip (i := 11) rfl (by kernel_rfl) [[9]] (by kernel_rfl) (by kernel_rfl) (by kernel_rfl) rfl rfl rfl ?_
  refine DT 12 [[9]] rfl rfl (v := V.bool false) (fun _ hz => (.pickK rfl rfl rfl)) ?_
  refine DT 13 [[9]] rfl rfl (fun _ hz => (.fn rfl)) ?_
  refine DAny.only (i := 14) rfl (by kernel_rfl) (.store (z := Obj.box [V.int .i64 x_1989.Kind, V.int .i64 x_1989.Pc, V.int .i64 x_1989.V, V.int .i64 x_1989.T, V.int .i64 x_1989.B, V.bool x_1989.Won, V.int .i64 x_1989.State]) rfl rfl rfl rfl rfl rfl rfl (.boxM (c := 7) rfl rfl (Nat.le_of_ble_eq_true rfl) rfl) rfl ?_)
  refine DT 15 [[9]] rfl rfl (fun _ hz => (.fn rfl)) ?_
  refine DAny.nil (by kernel_rfl) ?_
  repeat (first | refine sq ?_ | refine sk ?_ | with_reducible first | refine tn ?_ | refine bn ?_)
  refine Safe.ret ?_
  repeat (first | with_reducible refine thenQ.r ?_ | with_reducible refine blockQ.r ?_)
  obtain rfl := Option.some.inj h
  exact retQ.gen (vs := [V.ref [24, 0] 0 (rws (fun n => [V.int .i64 n]) x_1988).length, V.agg [V.int .i64 x_1989.Kind, V.int .i64 x_1989.Pc, V.int .i64 x_1989.V, V.int .i64 x_1989.T, V.int .i64 x_1989.B, V.bool x_1989.Won, V.int .i64 x_1989.State], V.bool false]) rfl (.tmp (v := V.ref [24, 0] 0 (rws (fun n => [V.int .i64 n]) x_1988).length) rfl (.cell (v := V.agg [V.int .i64 x_1989.Kind, V.int .i64 x_1989.Pc, V.int .i64 x_1989.V, V.int .i64 x_1989.T, V.int .i64 x_1989.B, V.bool x_1989.Won, V.int .i64 x_1989.State]) rfl rfl (.box rfl rfl) rfl (.tmp (v := V.bool false) rfl .nil))) (by exact (.tup (.cons (.own rfl rfl) (.cons (.free rfl) (.cons (.free rfl) .nil))))) (by simp) (.inr rfl)

noncomputable def go_ravellaw07_live  : Option Bool :=
 if 0 ≤ (6 : Int) ∧ (6 : Int) ≤ (6 : Int) ∧ (6 : Int) ≤ 549755813888 then
  (go_ravellaw07_done (List.replicate (Int.toNat 6) (0 : Int)) (api_Deque.mk 0 4) 1 5).bind fun (x_2028, x_2029, x_2030) =>
  (go_ravellaw07_done x_2028 (api_Deque.mk 0 4) 1 6).bind fun (x_2032, x_2033, x_2034) =>
  (go_ravellaw07_done x_2032 (api_Deque.mk 0 4) 2 0).bind fun (x_2036, x_2037, x_2038) =>
  (go_ravellaw07_done x_2036 (api_Deque.mk 0 4) 3 0).bind fun (x_2040, x_2041, x_2042) =>
  some (((((((x_2030 && x_2034) && x_2038) && x_2042) && (x_2037.V == 6)) && (x_2041.V == 5)) && (x_2037.State == 1)) && (x_2041.State == 1))
 else none

theorem go_ravellaw07_live_sc  (r : Bool) (h : go_ravellaw07_live  = some r) : SC Try.prog gl 7 [] (V.bool r) := by
 rw [go_ravellaw07_live] at h
 refine SC.of E_good Try.func7 rfl (fun _ _ => Try.call7 _ _) rfl ?_
 repeat (first | refine sq ?_ | refine sk ?_ | with_reducible first | refine tn ?_ | refine bn ?_)
 refine Safe.region ?_
 refine Qf E_good ?_
 refine SafeOps.nil ?_
 repeat (first | refine sq ?_ | refine sk ?_ | with_reducible first | refine tn ?_ | refine bn ?_)
 refine Safe.region ?_
 refine Q0 E_good rfl (v := V.agg [V.int .i64 0, V.int .i64 4]) (.fn rfl) ?_
 refine SafeOps.quiet1 E_good rfl rfl rfl (.alloc rfl rfl) rfl ?_
 refine SafeOps.store (z := Obj.box [V.int .i64 0, V.int .i64 4]) E_good rfl rfl rfl rfl rfl rfl rfl (.boxM (c := 2) rfl rfl (Nat.le_of_ble_eq_true rfl) rfl) ?_
 refine SafeOps.nil ?_
 repeat (first | refine sq ?_ | refine sk ?_ | with_reducible first | refine tn ?_ | refine bn ?_)
 refine Safe.regionD (n := 11) [(9, [3])] [] E_good mixed rfl ?_
 refine DT 1 [[3]] rfl rfl (v := V.agg [V.int .i64 0, V.int .i64 4]) (fun _ hz => (.load rfl rfl (.box (hz _ _ rfl rfl) rfl) rfl)) ?_
 refine DAny.fork (i := 0) (j := 7) rfl rfl (by kernel_rfl) ?_ ?_
 ·skip
  refine okG h (fun hb2027 h => ?_)
  refine .quiet rfl rfl rfl (.makeM (f := (fun n => [V.int .i64 n])) (d := (0 : Int)) rfl rfl rfl rfl hb2027 rfl rfl rfl) rfl ?_
  refine DAny.fork (i := 2) (j := 7) rfl rfl (by kernel_rfl) ?_ ?_
  ·skip
   refine bindG h ?_
   rintro ⟨x_2028, x_2029, x_2030⟩ he2031 h
   refine .quiet rfl rfl rfl (v := V.tup [V.ref [16, 0] 0 (rws (fun n => [V.int .i64 n]) x_2028).length, V.agg [V.int .i64 x_2029.Kind, V.int .i64 x_2029.Pc, V.int .i64 x_2029.V, V.int .i64 x_2029.T, V.int .i64 x_2029.B, V.bool x_2029.Won, V.int .i64 x_2029.State], V.bool x_2030]) (.callS rfl (.cons (.full rfl rfl) (.cons (.free rfl) (.cons (.free rfl) (.cons (.free rfl) .nil)))) (go_ravellaw07_done_sc (List.replicate (Int.toNat 6) (0 : Int)) (api_Deque.mk 0 4) 1 5 _ he2031) (.tupL (.cons (.ownM (fun _ => rfl)) (.cons (.aggL (.cons (.plain rfl) (.cons (.plain rfl) (.cons (.plain rfl) (.cons (.plain rfl) (.cons (.plain rfl) (.cons (.plain rfl) (.cons (.plain rfl) .nil)))))))) (.cons (.plain rfl) .nil)))) rfl) rfl ?_
   refine DT 3 [[3]] rfl rfl (fun _ hz => (.fn rfl)) ?_
   refine DT 4 [[3]] rfl rfl (fun _ hz => (.fn rfl)) ?_
   refine DT 5 [[3]] rfl rfl (fun _ hz => (.fn rfl)) ?_
   refine DT 6 [[3]] rfl rfl (fun _ hz => (.fn rfl)) ?_
   refine DAny.only (i := 7) rfl (by kernel_rfl) (.quiet rfl rfl rfl (.alloc rfl rfl) rfl ?_)
   refine DT 8 [[3]] rfl rfl (fun _ hz => (.fn rfl)) ?_
   refine DAny.only (i := 9) rfl (by kernel_rfl) (.store (z := Obj.box [V.int .i64 x_2029.Kind, V.int .i64 x_2029.Pc, V.int .i64 x_2029.V, V.int .i64 x_2029.T, V.int .i64 x_2029.B, V.bool x_2029.Won, V.int .i64 x_2029.State]) rfl rfl rfl rfl rfl rfl rfl (.boxM (c := 7) rfl rfl (Nat.le_of_ble_eq_true rfl) rfl) rfl ?_)
   refine DT 10 [[3]] rfl rfl (fun _ hz => (.fn rfl)) ?_
   refine DAny.nil (by kernel_rfl) ?_
   repeat (first | refine sq ?_ | refine sk ?_ | with_reducible first | refine tn ?_ | refine bn ?_)
   refine Safe.region ?_
   refine Qf E_good ?_
   refine Q0 E_good rfl (v := V.agg [V.int .i64 0, V.int .i64 4]) (.load rfl rfl (.box rfl rfl) rfl) ?_
   refine bindG h ?_
   rintro ⟨x_2032, x_2033, x_2034⟩ he2035 h
   refine SafeOps.quiet E_good rfl rfl rfl (v := V.tup [V.ref [23, 0] 0 (rws (fun n => [V.int .i64 n]) x_2032).length, V.agg [V.int .i64 x_2033.Kind, V.int .i64 x_2033.Pc, V.int .i64 x_2033.V, V.int .i64 x_2033.T, V.int .i64 x_2033.B, V.bool x_2033.Won, V.int .i64 x_2033.State], V.bool x_2034]) (.callS rfl (.cons (.full rfl rfl) (.cons (.free rfl) (.cons (.free rfl) (.cons (.free rfl) .nil)))) (go_ravellaw07_done_sc x_2028 (api_Deque.mk 0 4) 1 6 _ he2035) (.tupL (.cons (.ownM (fun _ => rfl)) (.cons (.aggL (.cons (.plain rfl) (.cons (.plain rfl) (.cons (.plain rfl) (.cons (.plain rfl) (.cons (.plain rfl) (.cons (.plain rfl) (.cons (.plain rfl) .nil)))))))) (.cons (.plain rfl) .nil)))) rfl) rfl ?_
   refine Qf E_good ?_
   refine Qf E_good ?_
   refine Qf E_good ?_
   refine Qf E_good ?_
   refine SafeOps.quiet1 E_good rfl rfl rfl (.alloc rfl rfl) rfl ?_
   refine Qf E_good ?_
   refine SafeOps.store (z := Obj.box [V.int .i64 x_2033.Kind, V.int .i64 x_2033.Pc, V.int .i64 x_2033.V, V.int .i64 x_2033.T, V.int .i64 x_2033.B, V.bool x_2033.Won, V.int .i64 x_2033.State]) E_good rfl rfl rfl rfl rfl rfl rfl (.boxM (c := 7) rfl rfl (Nat.le_of_ble_eq_true rfl) rfl) ?_
   refine Qf E_good ?_
   refine SafeOps.nil ?_
   repeat (first | refine sq ?_ | refine sk ?_ | with_reducible first | refine tn ?_ | refine bn ?_)
   refine Safe.region ?_
   refine Qf E_good ?_
   refine Q0 E_good rfl (v := V.agg [V.int .i64 0, V.int .i64 4]) (.load rfl rfl (.box rfl rfl) rfl) ?_
   refine bindG h ?_
   rintro ⟨x_2036, x_2037, x_2038⟩ he2039 h
   refine SafeOps.quiet E_good rfl rfl rfl (v := V.tup [V.ref [30, 0] 0 (rws (fun n => [V.int .i64 n]) x_2036).length, V.agg [V.int .i64 x_2037.Kind, V.int .i64 x_2037.Pc, V.int .i64 x_2037.V, V.int .i64 x_2037.T, V.int .i64 x_2037.B, V.bool x_2037.Won, V.int .i64 x_2037.State], V.bool x_2038]) (.callS rfl (.cons (.full rfl rfl) (.cons (.free rfl) (.cons (.free rfl) (.cons (.free rfl) .nil)))) (go_ravellaw07_done_sc x_2032 (api_Deque.mk 0 4) 2 0 _ he2039) (.tupL (.cons (.ownM (fun _ => rfl)) (.cons (.aggL (.cons (.plain rfl) (.cons (.plain rfl) (.cons (.plain rfl) (.cons (.plain rfl) (.cons (.plain rfl) (.cons (.plain rfl) (.cons (.plain rfl) .nil)))))))) (.cons (.plain rfl) .nil)))) rfl) rfl ?_
   refine Qf E_good ?_
   refine Qf E_good ?_
   refine Qf E_good ?_
   refine Qf E_good ?_
   refine SafeOps.quiet1 E_good rfl rfl rfl (.alloc rfl rfl) rfl ?_
   refine Qf E_good ?_
   refine SafeOps.store (z := Obj.box [V.int .i64 x_2037.Kind, V.int .i64 x_2037.Pc, V.int .i64 x_2037.V, V.int .i64 x_2037.T, V.int .i64 x_2037.B, V.bool x_2037.Won, V.int .i64 x_2037.State]) E_good rfl rfl rfl rfl rfl rfl rfl (.boxM (c := 7) rfl rfl (Nat.le_of_ble_eq_true rfl) rfl) ?_
   refine Qf E_good ?_
   refine SafeOps.nil ?_
   repeat (first | refine sq ?_ | refine sk ?_ | with_reducible first | refine tn ?_ | refine bn ?_)
   refine Safe.region ?_
   refine Qf E_good ?_
   refine Q0 E_good rfl (v := V.agg [V.int .i64 0, V.int .i64 4]) (.load rfl rfl (.box rfl rfl) rfl) ?_
   refine bindG h ?_
   rintro ⟨x_2040, x_2041, x_2042⟩ he2043 h
   refine SafeOps.quiet E_good rfl rfl rfl (v := V.tup [V.ref [37, 0] 0 (rws (fun n => [V.int .i64 n]) x_2040).length, V.agg [V.int .i64 x_2041.Kind, V.int .i64 x_2041.Pc, V.int .i64 x_2041.V, V.int .i64 x_2041.T, V.int .i64 x_2041.B, V.bool x_2041.Won, V.int .i64 x_2041.State], V.bool x_2042]) (.callS rfl (.cons (.full rfl rfl) (.cons (.free rfl) (.cons (.free rfl) (.cons (.free rfl) .nil)))) (go_ravellaw07_done_sc x_2036 (api_Deque.mk 0 4) 3 0 _ he2043) (.tupL (.cons (.ownM (fun _ => rfl)) (.cons (.aggL (.cons (.plain rfl) (.cons (.plain rfl) (.cons (.plain rfl) (.cons (.plain rfl) (.cons (.plain rfl) (.cons (.plain rfl) (.cons (.plain rfl) .nil)))))))) (.cons (.plain rfl) .nil)))) rfl) rfl ?_
   refine Qf E_good ?_
   refine Qf E_good ?_
   refine Qf E_good ?_
   refine Qf E_good ?_
   refine SafeOps.quiet1 E_good rfl rfl rfl (.alloc rfl rfl) rfl ?_
   refine Qf E_good ?_
   refine SafeOps.store (z := Obj.box [V.int .i64 x_2041.Kind, V.int .i64 x_2041.Pc, V.int .i64 x_2041.V, V.int .i64 x_2041.T, V.int .i64 x_2041.B, V.bool x_2041.Won, V.int .i64 x_2041.State]) E_good rfl rfl rfl rfl rfl rfl rfl (.boxM (c := 7) rfl rfl (Nat.le_of_ble_eq_true rfl) rfl) ?_
   refine Qf E_good ?_
   refine SafeOps.nil ?_
   repeat (first | refine sq ?_ | refine sk ?_ | with_reducible first | refine tn ?_ | refine bn ?_)
   refine Safe.region ?_
   refine Qf E_good ?_
   refine Qf E_good ?_
   refine SafeOps.bjoin 2 44 (b := (x_2030 && x_2034)) (b1 := x_2034) (b0 := false) (fun hc2044 K => ?_) (fun hc2044 K => ?_) bj_and ?_
   ·skip
    refine SafeOps.quiet0 E_good (congrArg some hc2044) rfl rfl (.fn rfl) ?_
    refine Q0 E_good rfl (v := V.bool x_2034) (.pickK rfl hc2044 rfl) ?_
    exact SafeOps.drop' 2 rfl rfl rfl K
   ·skip
    refine SafeOps.skip (congrArg some hc2044) rfl rfl ?_
    refine Q0 E_good rfl (v := V.bool false) (.pickK rfl hc2044 rfl) ?_
    exact SafeOps.drop' 2 rfl rfl rfl K
   refine Qf E_good ?_
   refine SafeOps.bjoin 2 47 (b := ((x_2030 && x_2034) && x_2038)) (b1 := x_2038) (b0 := false) (fun hc2045 K => ?_) (fun hc2045 K => ?_) bj_and ?_
   ·skip
    refine SafeOps.quiet0 E_good (congrArg some hc2045) rfl rfl (.fn rfl) ?_
    refine Q0 E_good rfl (v := V.bool x_2038) (.pickK rfl hc2045 rfl) ?_
    exact SafeOps.drop' 2 rfl rfl rfl K
   ·skip
    refine SafeOps.skip (congrArg some hc2045) rfl rfl ?_
    refine Q0 E_good rfl (v := V.bool false) (.pickK rfl hc2045 rfl) ?_
    exact SafeOps.drop' 2 rfl rfl rfl K
   refine Qf E_good ?_
   refine SafeOps.bjoin 2 50 (b := (((x_2030 && x_2034) && x_2038) && x_2042)) (b1 := x_2042) (b0 := false) (fun hc2046 K => ?_) (fun hc2046 K => ?_) bj_and ?_
   ·skip
    refine SafeOps.quiet0 E_good (congrArg some hc2046) rfl rfl (.fn rfl) ?_
    refine Q0 E_good rfl (v := V.bool x_2042) (.pickK rfl hc2046 rfl) ?_
    exact SafeOps.drop' 2 rfl rfl rfl K
   ·skip
    refine SafeOps.skip (congrArg some hc2046) rfl rfl ?_
    refine Q0 E_good rfl (v := V.bool false) (.pickK rfl hc2046 rfl) ?_
    exact SafeOps.drop' 2 rfl rfl rfl K
   refine Qf E_good ?_
   refine SafeOps.bjoin 4 55 (b := ((((x_2030 && x_2034) && x_2038) && x_2042) && (x_2037.V == 6))) (b1 := (x_2037.V == 6)) (b0 := false) (fun hc2047 K => ?_) (fun hc2047 K => ?_) bj_and ?_
   ·skip
    refine SafeOps.quiet0 E_good (congrArg some hc2047) rfl rfl (v := V.ptr [7] 0 2) (.fn rfl) ?_
    refine SafeOps.quiet0 E_good (congrArg some hc2047) rfl rfl (v := V.int .i64 x_2037.V) (.load rfl rfl (.box rfl rfl) rfl) ?_
    refine SafeOps.quiet0 E_good (congrArg some hc2047) rfl rfl (v := V.bool (x_2037.V == 6)) (.fn rfl) ?_
    refine Q0 E_good rfl (v := V.bool (x_2037.V == 6)) (.pickK rfl hc2047 rfl) ?_
    exact SafeOps.drop' 4 rfl rfl rfl K
   ·skip
    refine SafeOps.skip (congrArg some hc2047) rfl rfl ?_
    refine SafeOps.skip (congrArg some hc2047) rfl rfl ?_
    refine SafeOps.skip (congrArg some hc2047) rfl rfl ?_
    refine Q0 E_good rfl (v := V.bool false) (.pickK rfl hc2047 rfl) ?_
    exact SafeOps.drop' 4 rfl rfl rfl K
   refine Qf E_good ?_
   refine SafeOps.bjoin 4 60 (b := (((((x_2030 && x_2034) && x_2038) && x_2042) && (x_2037.V == 6)) && (x_2041.V == 5))) (b1 := (x_2041.V == 5)) (b0 := false) (fun hc2048 K => ?_) (fun hc2048 K => ?_) bj_and ?_
   ·skip
    refine SafeOps.quiet0 E_good (congrArg some hc2048) rfl rfl (v := V.ptr [10] 0 2) (.fn rfl) ?_
    refine SafeOps.quiet0 E_good (congrArg some hc2048) rfl rfl (v := V.int .i64 x_2041.V) (.load rfl rfl (.box rfl rfl) rfl) ?_
    refine SafeOps.quiet0 E_good (congrArg some hc2048) rfl rfl (v := V.bool (x_2041.V == 5)) (.fn rfl) ?_
    refine Q0 E_good rfl (v := V.bool (x_2041.V == 5)) (.pickK rfl hc2048 rfl) ?_
    exact SafeOps.drop' 4 rfl rfl rfl K
   ·skip
    refine SafeOps.skip (congrArg some hc2048) rfl rfl ?_
    refine SafeOps.skip (congrArg some hc2048) rfl rfl ?_
    refine SafeOps.skip (congrArg some hc2048) rfl rfl ?_
    refine Q0 E_good rfl (v := V.bool false) (.pickK rfl hc2048 rfl) ?_
    exact SafeOps.drop' 4 rfl rfl rfl K
   refine Qf E_good ?_
   refine SafeOps.bjoin 4 65 (b := ((((((x_2030 && x_2034) && x_2038) && x_2042) && (x_2037.V == 6)) && (x_2041.V == 5)) && (x_2037.State == 1))) (b1 := (x_2037.State == 1)) (b0 := false) (fun hc2049 K => ?_) (fun hc2049 K => ?_) bj_and ?_
   ·skip
    refine SafeOps.quiet0 E_good (congrArg some hc2049) rfl rfl (v := V.ptr [7] 0 6) (.fn rfl) ?_
    refine SafeOps.quiet0 E_good (congrArg some hc2049) rfl rfl (v := V.int .i64 x_2037.State) (.load rfl rfl (.box rfl rfl) rfl) ?_
    refine SafeOps.quiet0 E_good (congrArg some hc2049) rfl rfl (v := V.bool (x_2037.State == 1)) (.fn rfl) ?_
    refine Q0 E_good rfl (v := V.bool (x_2037.State == 1)) (.pickK rfl hc2049 rfl) ?_
    exact SafeOps.drop' 4 rfl rfl rfl K
   ·skip
    refine SafeOps.skip (congrArg some hc2049) rfl rfl ?_
    refine SafeOps.skip (congrArg some hc2049) rfl rfl ?_
    refine SafeOps.skip (congrArg some hc2049) rfl rfl ?_
    refine Q0 E_good rfl (v := V.bool false) (.pickK rfl hc2049 rfl) ?_
    exact SafeOps.drop' 4 rfl rfl rfl K
   refine Qf E_good ?_
   refine SafeOps.bjoin 4 70 (b := (((((((x_2030 && x_2034) && x_2038) && x_2042) && (x_2037.V == 6)) && (x_2041.V == 5)) && (x_2037.State == 1)) && (x_2041.State == 1))) (b1 := (x_2041.State == 1)) (b0 := false) (fun hc2050 K => ?_) (fun hc2050 K => ?_) bj_and ?_
   ·skip
    refine SafeOps.quiet0 E_good (congrArg some hc2050) rfl rfl (v := V.ptr [10] 0 6) (.fn rfl) ?_
    refine SafeOps.quiet0 E_good (congrArg some hc2050) rfl rfl (v := V.int .i64 x_2041.State) (.load rfl rfl (.box rfl rfl) rfl) ?_
    refine SafeOps.quiet0 E_good (congrArg some hc2050) rfl rfl (v := V.bool (x_2041.State == 1)) (.fn rfl) ?_
    refine Q0 E_good rfl (v := V.bool (x_2041.State == 1)) (.pickK rfl hc2050 rfl) ?_
    exact SafeOps.drop' 4 rfl rfl rfl K
   ·skip
    refine SafeOps.skip (congrArg some hc2050) rfl rfl ?_
    refine SafeOps.skip (congrArg some hc2050) rfl rfl ?_
    refine SafeOps.skip (congrArg some hc2050) rfl rfl ?_
    refine Q0 E_good rfl (v := V.bool false) (.pickK rfl hc2050 rfl) ?_
    exact SafeOps.drop' 4 rfl rfl rfl K
   refine Qf E_good ?_
   refine SafeOps.nil ?_
   repeat (first | refine sq ?_ | refine sk ?_ | with_reducible first | refine tn ?_ | refine bn ?_)
   refine Safe.ret ?_
   repeat (first | with_reducible refine thenQ.r ?_ | with_reducible refine blockQ.r ?_)
   obtain rfl := Option.some.inj h
   exact retQ.gen (vs := [V.bool (((((((x_2030 && x_2034) && x_2038) && x_2042) && (x_2037.V == 6)) && (x_2041.V == 5)) && (x_2037.State == 1)) && (x_2041.State == 1))]) rfl (.tmp (v := V.bool (((((((x_2030 && x_2034) && x_2038) && x_2042) && (x_2037.V == 6)) && (x_2041.V == 5)) && (x_2037.State == 1)) && (x_2041.State == 1))) rfl .nil) (.free rfl) (by simp) (.inr rfl)
  ·skip
   refine .quiet rfl rfl rfl (.alloc rfl rfl) rfl ?_
   refine bindG h ?_
   rintro ⟨x_2028, x_2029, x_2030⟩ he2031 h
   refine DAny.only (i := 2) rfl (by kernel_rfl) (.quiet rfl rfl rfl (v := V.tup [V.ref [16, 0] 0 (rws (fun n => [V.int .i64 n]) x_2028).length, V.agg [V.int .i64 x_2029.Kind, V.int .i64 x_2029.Pc, V.int .i64 x_2029.V, V.int .i64 x_2029.T, V.int .i64 x_2029.B, V.bool x_2029.Won, V.int .i64 x_2029.State], V.bool x_2030]) (.callS rfl (.cons (.full rfl rfl) (.cons (.free rfl) (.cons (.free rfl) (.cons (.free rfl) .nil)))) (go_ravellaw07_done_sc (List.replicate (Int.toNat 6) (0 : Int)) (api_Deque.mk 0 4) 1 5 _ he2031) (.tupL (.cons (.ownM (fun _ => rfl)) (.cons (.aggL (.cons (.plain rfl) (.cons (.plain rfl) (.cons (.plain rfl) (.cons (.plain rfl) (.cons (.plain rfl) (.cons (.plain rfl) (.cons (.plain rfl) .nil)))))))) (.cons (.plain rfl) .nil)))) rfl) rfl ?_)
   refine DT 3 [[3]] rfl rfl (fun _ hz => (.fn rfl)) ?_
   refine DT 4 [[3]] rfl rfl (fun _ hz => (.fn rfl)) ?_
   refine DT 5 [[3]] rfl rfl (fun _ hz => (.fn rfl)) ?_
   refine DT 6 [[3]] rfl rfl (fun _ hz => (.fn rfl)) ?_
   refine DT 8 [[3]] rfl rfl (fun _ hz => (.fn rfl)) ?_
   refine DAny.only (i := 9) rfl (by kernel_rfl) (.store (z := Obj.box [V.int .i64 x_2029.Kind, V.int .i64 x_2029.Pc, V.int .i64 x_2029.V, V.int .i64 x_2029.T, V.int .i64 x_2029.B, V.bool x_2029.Won, V.int .i64 x_2029.State]) rfl rfl rfl rfl rfl rfl rfl (.boxM (c := 7) rfl rfl (Nat.le_of_ble_eq_true rfl) rfl) rfl ?_)
   refine DT 10 [[3]] rfl rfl (fun _ hz => (.fn rfl)) ?_
   refine DAny.nil (by kernel_rfl) ?_
   repeat (first | refine sq ?_ | refine sk ?_ | with_reducible first | refine tn ?_ | refine bn ?_)
   refine Safe.region ?_
   refine Qf E_good ?_
   refine Q0 E_good rfl (v := V.agg [V.int .i64 0, V.int .i64 4]) (.load rfl rfl (.box rfl rfl) rfl) ?_
   refine bindG h ?_
   rintro ⟨x_2032, x_2033, x_2034⟩ he2035 h
   refine SafeOps.quiet E_good rfl rfl rfl (v := V.tup [V.ref [23, 0] 0 (rws (fun n => [V.int .i64 n]) x_2032).length, V.agg [V.int .i64 x_2033.Kind, V.int .i64 x_2033.Pc, V.int .i64 x_2033.V, V.int .i64 x_2033.T, V.int .i64 x_2033.B, V.bool x_2033.Won, V.int .i64 x_2033.State], V.bool x_2034]) (.callS rfl (.cons (.full rfl rfl) (.cons (.free rfl) (.cons (.free rfl) (.cons (.free rfl) .nil)))) (go_ravellaw07_done_sc x_2028 (api_Deque.mk 0 4) 1 6 _ he2035) (.tupL (.cons (.ownM (fun _ => rfl)) (.cons (.aggL (.cons (.plain rfl) (.cons (.plain rfl) (.cons (.plain rfl) (.cons (.plain rfl) (.cons (.plain rfl) (.cons (.plain rfl) (.cons (.plain rfl) .nil)))))))) (.cons (.plain rfl) .nil)))) rfl) rfl ?_
   refine Qf E_good ?_
   refine Qf E_good ?_
   refine Qf E_good ?_
   refine Qf E_good ?_
   refine SafeOps.quiet1 E_good rfl rfl rfl (.alloc rfl rfl) rfl ?_
   refine Qf E_good ?_
   refine SafeOps.store (z := Obj.box [V.int .i64 x_2033.Kind, V.int .i64 x_2033.Pc, V.int .i64 x_2033.V, V.int .i64 x_2033.T, V.int .i64 x_2033.B, V.bool x_2033.Won, V.int .i64 x_2033.State]) E_good rfl rfl rfl rfl rfl rfl rfl (.boxM (c := 7) rfl rfl (Nat.le_of_ble_eq_true rfl) rfl) ?_
   refine Qf E_good ?_
   refine SafeOps.nil ?_
   repeat (first | refine sq ?_ | refine sk ?_ | with_reducible first | refine tn ?_ | refine bn ?_)
   refine Safe.region ?_
   refine Qf E_good ?_
   refine Q0 E_good rfl (v := V.agg [V.int .i64 0, V.int .i64 4]) (.load rfl rfl (.box rfl rfl) rfl) ?_
   refine bindG h ?_
   rintro ⟨x_2036, x_2037, x_2038⟩ he2039 h
   refine SafeOps.quiet E_good rfl rfl rfl (v := V.tup [V.ref [30, 0] 0 (rws (fun n => [V.int .i64 n]) x_2036).length, V.agg [V.int .i64 x_2037.Kind, V.int .i64 x_2037.Pc, V.int .i64 x_2037.V, V.int .i64 x_2037.T, V.int .i64 x_2037.B, V.bool x_2037.Won, V.int .i64 x_2037.State], V.bool x_2038]) (.callS rfl (.cons (.full rfl rfl) (.cons (.free rfl) (.cons (.free rfl) (.cons (.free rfl) .nil)))) (go_ravellaw07_done_sc x_2032 (api_Deque.mk 0 4) 2 0 _ he2039) (.tupL (.cons (.ownM (fun _ => rfl)) (.cons (.aggL (.cons (.plain rfl) (.cons (.plain rfl) (.cons (.plain rfl) (.cons (.plain rfl) (.cons (.plain rfl) (.cons (.plain rfl) (.cons (.plain rfl) .nil)))))))) (.cons (.plain rfl) .nil)))) rfl) rfl ?_
   refine Qf E_good ?_
   refine Qf E_good ?_
   refine Qf E_good ?_
   refine Qf E_good ?_
   refine SafeOps.quiet1 E_good rfl rfl rfl (.alloc rfl rfl) rfl ?_
   refine Qf E_good ?_
   refine SafeOps.store (z := Obj.box [V.int .i64 x_2037.Kind, V.int .i64 x_2037.Pc, V.int .i64 x_2037.V, V.int .i64 x_2037.T, V.int .i64 x_2037.B, V.bool x_2037.Won, V.int .i64 x_2037.State]) E_good rfl rfl rfl rfl rfl rfl rfl (.boxM (c := 7) rfl rfl (Nat.le_of_ble_eq_true rfl) rfl) ?_
   refine Qf E_good ?_
   refine SafeOps.nil ?_
   repeat (first | refine sq ?_ | refine sk ?_ | with_reducible first | refine tn ?_ | refine bn ?_)
   refine Safe.region ?_
   refine Qf E_good ?_
   refine Q0 E_good rfl (v := V.agg [V.int .i64 0, V.int .i64 4]) (.load rfl rfl (.box rfl rfl) rfl) ?_
   refine bindG h ?_
   rintro ⟨x_2040, x_2041, x_2042⟩ he2043 h
   refine SafeOps.quiet E_good rfl rfl rfl (v := V.tup [V.ref [37, 0] 0 (rws (fun n => [V.int .i64 n]) x_2040).length, V.agg [V.int .i64 x_2041.Kind, V.int .i64 x_2041.Pc, V.int .i64 x_2041.V, V.int .i64 x_2041.T, V.int .i64 x_2041.B, V.bool x_2041.Won, V.int .i64 x_2041.State], V.bool x_2042]) (.callS rfl (.cons (.full rfl rfl) (.cons (.free rfl) (.cons (.free rfl) (.cons (.free rfl) .nil)))) (go_ravellaw07_done_sc x_2036 (api_Deque.mk 0 4) 3 0 _ he2043) (.tupL (.cons (.ownM (fun _ => rfl)) (.cons (.aggL (.cons (.plain rfl) (.cons (.plain rfl) (.cons (.plain rfl) (.cons (.plain rfl) (.cons (.plain rfl) (.cons (.plain rfl) (.cons (.plain rfl) .nil)))))))) (.cons (.plain rfl) .nil)))) rfl) rfl ?_
   refine Qf E_good ?_
   refine Qf E_good ?_
   refine Qf E_good ?_
   refine Qf E_good ?_
   refine SafeOps.quiet1 E_good rfl rfl rfl (.alloc rfl rfl) rfl ?_
   refine Qf E_good ?_
   refine SafeOps.store (z := Obj.box [V.int .i64 x_2041.Kind, V.int .i64 x_2041.Pc, V.int .i64 x_2041.V, V.int .i64 x_2041.T, V.int .i64 x_2041.B, V.bool x_2041.Won, V.int .i64 x_2041.State]) E_good rfl rfl rfl rfl rfl rfl rfl (.boxM (c := 7) rfl rfl (Nat.le_of_ble_eq_true rfl) rfl) ?_
   refine Qf E_good ?_
   refine SafeOps.nil ?_
   repeat (first | refine sq ?_ | refine sk ?_ | with_reducible first | refine tn ?_ | refine bn ?_)
   refine Safe.region ?_
   refine Qf E_good ?_
   refine Qf E_good ?_
   refine SafeOps.bjoin 2 44 (b := (x_2030 && x_2034)) (b1 := x_2034) (b0 := false) (fun hc2044 K => ?_) (fun hc2044 K => ?_) bj_and ?_
   ·skip
    refine SafeOps.quiet0 E_good (congrArg some hc2044) rfl rfl (.fn rfl) ?_
    refine Q0 E_good rfl (v := V.bool x_2034) (.pickK rfl hc2044 rfl) ?_
    exact SafeOps.drop' 2 rfl rfl rfl K
   ·skip
    refine SafeOps.skip (congrArg some hc2044) rfl rfl ?_
    refine Q0 E_good rfl (v := V.bool false) (.pickK rfl hc2044 rfl) ?_
    exact SafeOps.drop' 2 rfl rfl rfl K
   refine Qf E_good ?_
   refine SafeOps.bjoin 2 47 (b := ((x_2030 && x_2034) && x_2038)) (b1 := x_2038) (b0 := false) (fun hc2045 K => ?_) (fun hc2045 K => ?_) bj_and ?_
   ·skip
    refine SafeOps.quiet0 E_good (congrArg some hc2045) rfl rfl (.fn rfl) ?_
    refine Q0 E_good rfl (v := V.bool x_2038) (.pickK rfl hc2045 rfl) ?_
    exact SafeOps.drop' 2 rfl rfl rfl K
   ·skip
    refine SafeOps.skip (congrArg some hc2045) rfl rfl ?_
    refine Q0 E_good rfl (v := V.bool false) (.pickK rfl hc2045 rfl) ?_
    exact SafeOps.drop' 2 rfl rfl rfl K
   refine Qf E_good ?_
   refine SafeOps.bjoin 2 50 (b := (((x_2030 && x_2034) && x_2038) && x_2042)) (b1 := x_2042) (b0 := false) (fun hc2046 K => ?_) (fun hc2046 K => ?_) bj_and ?_
   ·skip
    refine SafeOps.quiet0 E_good (congrArg some hc2046) rfl rfl (.fn rfl) ?_
    refine Q0 E_good rfl (v := V.bool x_2042) (.pickK rfl hc2046 rfl) ?_
    exact SafeOps.drop' 2 rfl rfl rfl K
   ·skip
    refine SafeOps.skip (congrArg some hc2046) rfl rfl ?_
    refine Q0 E_good rfl (v := V.bool false) (.pickK rfl hc2046 rfl) ?_
    exact SafeOps.drop' 2 rfl rfl rfl K
   refine Qf E_good ?_
   refine SafeOps.bjoin 4 55 (b := ((((x_2030 && x_2034) && x_2038) && x_2042) && (x_2037.V == 6))) (b1 := (x_2037.V == 6)) (b0 := false) (fun hc2047 K => ?_) (fun hc2047 K => ?_) bj_and ?_
   ·skip
    refine SafeOps.quiet0 E_good (congrArg some hc2047) rfl rfl (v := V.ptr [7] 0 2) (.fn rfl) ?_
    refine SafeOps.quiet0 E_good (congrArg some hc2047) rfl rfl (v := V.int .i64 x_2037.V) (.load rfl rfl (.box rfl rfl) rfl) ?_
    refine SafeOps.quiet0 E_good (congrArg some hc2047) rfl rfl (v := V.bool (x_2037.V == 6)) (.fn rfl) ?_
    refine Q0 E_good rfl (v := V.bool (x_2037.V == 6)) (.pickK rfl hc2047 rfl) ?_
    exact SafeOps.drop' 4 rfl rfl rfl K
   ·skip
    refine SafeOps.skip (congrArg some hc2047) rfl rfl ?_
    refine SafeOps.skip (congrArg some hc2047) rfl rfl ?_
    refine SafeOps.skip (congrArg some hc2047) rfl rfl ?_
    refine Q0 E_good rfl (v := V.bool false) (.pickK rfl hc2047 rfl) ?_
    exact SafeOps.drop' 4 rfl rfl rfl K
   refine Qf E_good ?_
   refine SafeOps.bjoin 4 60 (b := (((((x_2030 && x_2034) && x_2038) && x_2042) && (x_2037.V == 6)) && (x_2041.V == 5))) (b1 := (x_2041.V == 5)) (b0 := false) (fun hc2048 K => ?_) (fun hc2048 K => ?_) bj_and ?_
   ·skip
    refine SafeOps.quiet0 E_good (congrArg some hc2048) rfl rfl (v := V.ptr [10] 0 2) (.fn rfl) ?_
    refine SafeOps.quiet0 E_good (congrArg some hc2048) rfl rfl (v := V.int .i64 x_2041.V) (.load rfl rfl (.box rfl rfl) rfl) ?_
    refine SafeOps.quiet0 E_good (congrArg some hc2048) rfl rfl (v := V.bool (x_2041.V == 5)) (.fn rfl) ?_
    refine Q0 E_good rfl (v := V.bool (x_2041.V == 5)) (.pickK rfl hc2048 rfl) ?_
    exact SafeOps.drop' 4 rfl rfl rfl K
   ·skip
    refine SafeOps.skip (congrArg some hc2048) rfl rfl ?_
    refine SafeOps.skip (congrArg some hc2048) rfl rfl ?_
    refine SafeOps.skip (congrArg some hc2048) rfl rfl ?_
    refine Q0 E_good rfl (v := V.bool false) (.pickK rfl hc2048 rfl) ?_
    exact SafeOps.drop' 4 rfl rfl rfl K
   refine Qf E_good ?_
   refine SafeOps.bjoin 4 65 (b := ((((((x_2030 && x_2034) && x_2038) && x_2042) && (x_2037.V == 6)) && (x_2041.V == 5)) && (x_2037.State == 1))) (b1 := (x_2037.State == 1)) (b0 := false) (fun hc2049 K => ?_) (fun hc2049 K => ?_) bj_and ?_
   ·skip
    refine SafeOps.quiet0 E_good (congrArg some hc2049) rfl rfl (v := V.ptr [7] 0 6) (.fn rfl) ?_
    refine SafeOps.quiet0 E_good (congrArg some hc2049) rfl rfl (v := V.int .i64 x_2037.State) (.load rfl rfl (.box rfl rfl) rfl) ?_
    refine SafeOps.quiet0 E_good (congrArg some hc2049) rfl rfl (v := V.bool (x_2037.State == 1)) (.fn rfl) ?_
    refine Q0 E_good rfl (v := V.bool (x_2037.State == 1)) (.pickK rfl hc2049 rfl) ?_
    exact SafeOps.drop' 4 rfl rfl rfl K
   ·skip
    refine SafeOps.skip (congrArg some hc2049) rfl rfl ?_
    refine SafeOps.skip (congrArg some hc2049) rfl rfl ?_
    refine SafeOps.skip (congrArg some hc2049) rfl rfl ?_
    refine Q0 E_good rfl (v := V.bool false) (.pickK rfl hc2049 rfl) ?_
    exact SafeOps.drop' 4 rfl rfl rfl K
   refine Qf E_good ?_
   refine SafeOps.bjoin 4 70 (b := (((((((x_2030 && x_2034) && x_2038) && x_2042) && (x_2037.V == 6)) && (x_2041.V == 5)) && (x_2037.State == 1)) && (x_2041.State == 1))) (b1 := (x_2041.State == 1)) (b0 := false) (fun hc2050 K => ?_) (fun hc2050 K => ?_) bj_and ?_
   ·skip
    refine SafeOps.quiet0 E_good (congrArg some hc2050) rfl rfl (v := V.ptr [10] 0 6) (.fn rfl) ?_
    refine SafeOps.quiet0 E_good (congrArg some hc2050) rfl rfl (v := V.int .i64 x_2041.State) (.load rfl rfl (.box rfl rfl) rfl) ?_
    refine SafeOps.quiet0 E_good (congrArg some hc2050) rfl rfl (v := V.bool (x_2041.State == 1)) (.fn rfl) ?_
    refine Q0 E_good rfl (v := V.bool (x_2041.State == 1)) (.pickK rfl hc2050 rfl) ?_
    exact SafeOps.drop' 4 rfl rfl rfl K
   ·skip
    refine SafeOps.skip (congrArg some hc2050) rfl rfl ?_
    refine SafeOps.skip (congrArg some hc2050) rfl rfl ?_
    refine SafeOps.skip (congrArg some hc2050) rfl rfl ?_
    refine Q0 E_good rfl (v := V.bool false) (.pickK rfl hc2050 rfl) ?_
    exact SafeOps.drop' 4 rfl rfl rfl K
   refine Qf E_good ?_
   refine SafeOps.nil ?_
   repeat (first | refine sq ?_ | refine sk ?_ | with_reducible first | refine tn ?_ | refine bn ?_)
   refine Safe.ret ?_
   repeat (first | with_reducible refine thenQ.r ?_ | with_reducible refine blockQ.r ?_)
   obtain rfl := Option.some.inj h
   exact retQ.gen (vs := [V.bool (((((((x_2030 && x_2034) && x_2038) && x_2042) && (x_2037.V == 6)) && (x_2041.V == 5)) && (x_2037.State == 1)) && (x_2041.State == 1))]) rfl (.tmp (v := V.bool (((((((x_2030 && x_2034) && x_2038) && x_2042) && (x_2037.V == 6)) && (x_2041.V == 5)) && (x_2037.State == 1)) && (x_2041.State == 1))) rfl .nil) (.free rfl) (by simp) (.inr rfl)
 ·skip
  refine .quiet rfl rfl rfl (.alloc rfl rfl) rfl ?_
  refine okG h (fun hb2027 h => ?_)
  refine DAny.only (i := 0) rfl (by kernel_rfl) (.quiet rfl rfl rfl (.makeM (f := (fun n => [V.int .i64 n])) (d := (0 : Int)) rfl rfl rfl rfl hb2027 rfl rfl rfl) rfl ?_)
  refine bindG h ?_
  rintro ⟨x_2028, x_2029, x_2030⟩ he2031 h
  refine DAny.only (i := 2) rfl (by kernel_rfl) (.quiet rfl rfl rfl (v := V.tup [V.ref [16, 0] 0 (rws (fun n => [V.int .i64 n]) x_2028).length, V.agg [V.int .i64 x_2029.Kind, V.int .i64 x_2029.Pc, V.int .i64 x_2029.V, V.int .i64 x_2029.T, V.int .i64 x_2029.B, V.bool x_2029.Won, V.int .i64 x_2029.State], V.bool x_2030]) (.callS rfl (.cons (.full rfl rfl) (.cons (.free rfl) (.cons (.free rfl) (.cons (.free rfl) .nil)))) (go_ravellaw07_done_sc (List.replicate (Int.toNat 6) (0 : Int)) (api_Deque.mk 0 4) 1 5 _ he2031) (.tupL (.cons (.ownM (fun _ => rfl)) (.cons (.aggL (.cons (.plain rfl) (.cons (.plain rfl) (.cons (.plain rfl) (.cons (.plain rfl) (.cons (.plain rfl) (.cons (.plain rfl) (.cons (.plain rfl) .nil)))))))) (.cons (.plain rfl) .nil)))) rfl) rfl ?_)
  refine DT 3 [[3]] rfl rfl (fun _ hz => (.fn rfl)) ?_
  refine DT 4 [[3]] rfl rfl (fun _ hz => (.fn rfl)) ?_
  refine DT 5 [[3]] rfl rfl (fun _ hz => (.fn rfl)) ?_
  refine DT 6 [[3]] rfl rfl (fun _ hz => (.fn rfl)) ?_
  refine DT 8 [[3]] rfl rfl (fun _ hz => (.fn rfl)) ?_
  refine DAny.only (i := 9) rfl (by kernel_rfl) (.store (z := Obj.box [V.int .i64 x_2029.Kind, V.int .i64 x_2029.Pc, V.int .i64 x_2029.V, V.int .i64 x_2029.T, V.int .i64 x_2029.B, V.bool x_2029.Won, V.int .i64 x_2029.State]) rfl rfl rfl rfl rfl rfl rfl (.boxM (c := 7) rfl rfl (Nat.le_of_ble_eq_true rfl) rfl) rfl ?_)
  refine DT 10 [[3]] rfl rfl (fun _ hz => (.fn rfl)) ?_
  refine DAny.nil (by kernel_rfl) ?_
  repeat (first | refine sq ?_ | refine sk ?_ | with_reducible first | refine tn ?_ | refine bn ?_)
  refine Safe.region ?_
  refine Qf E_good ?_
  refine Q0 E_good rfl (v := V.agg [V.int .i64 0, V.int .i64 4]) (.load rfl rfl (.box rfl rfl) rfl) ?_
  refine bindG h ?_
  rintro ⟨x_2032, x_2033, x_2034⟩ he2035 h
  refine SafeOps.quiet E_good rfl rfl rfl (v := V.tup [V.ref [23, 0] 0 (rws (fun n => [V.int .i64 n]) x_2032).length, V.agg [V.int .i64 x_2033.Kind, V.int .i64 x_2033.Pc, V.int .i64 x_2033.V, V.int .i64 x_2033.T, V.int .i64 x_2033.B, V.bool x_2033.Won, V.int .i64 x_2033.State], V.bool x_2034]) (.callS rfl (.cons (.full rfl rfl) (.cons (.free rfl) (.cons (.free rfl) (.cons (.free rfl) .nil)))) (go_ravellaw07_done_sc x_2028 (api_Deque.mk 0 4) 1 6 _ he2035) (.tupL (.cons (.ownM (fun _ => rfl)) (.cons (.aggL (.cons (.plain rfl) (.cons (.plain rfl) (.cons (.plain rfl) (.cons (.plain rfl) (.cons (.plain rfl) (.cons (.plain rfl) (.cons (.plain rfl) .nil)))))))) (.cons (.plain rfl) .nil)))) rfl) rfl ?_
  refine Qf E_good ?_
  refine Qf E_good ?_
  refine Qf E_good ?_
  refine Qf E_good ?_
  refine SafeOps.quiet1 E_good rfl rfl rfl (.alloc rfl rfl) rfl ?_
  refine Qf E_good ?_
  refine SafeOps.store (z := Obj.box [V.int .i64 x_2033.Kind, V.int .i64 x_2033.Pc, V.int .i64 x_2033.V, V.int .i64 x_2033.T, V.int .i64 x_2033.B, V.bool x_2033.Won, V.int .i64 x_2033.State]) E_good rfl rfl rfl rfl rfl rfl rfl (.boxM (c := 7) rfl rfl (Nat.le_of_ble_eq_true rfl) rfl) ?_
  refine Qf E_good ?_
  refine SafeOps.nil ?_
  repeat (first | refine sq ?_ | refine sk ?_ | with_reducible first | refine tn ?_ | refine bn ?_)
  refine Safe.region ?_
  refine Qf E_good ?_
  refine Q0 E_good rfl (v := V.agg [V.int .i64 0, V.int .i64 4]) (.load rfl rfl (.box rfl rfl) rfl) ?_
  refine bindG h ?_
  rintro ⟨x_2036, x_2037, x_2038⟩ he2039 h
  refine SafeOps.quiet E_good rfl rfl rfl (v := V.tup [V.ref [30, 0] 0 (rws (fun n => [V.int .i64 n]) x_2036).length, V.agg [V.int .i64 x_2037.Kind, V.int .i64 x_2037.Pc, V.int .i64 x_2037.V, V.int .i64 x_2037.T, V.int .i64 x_2037.B, V.bool x_2037.Won, V.int .i64 x_2037.State], V.bool x_2038]) (.callS rfl (.cons (.full rfl rfl) (.cons (.free rfl) (.cons (.free rfl) (.cons (.free rfl) .nil)))) (go_ravellaw07_done_sc x_2032 (api_Deque.mk 0 4) 2 0 _ he2039) (.tupL (.cons (.ownM (fun _ => rfl)) (.cons (.aggL (.cons (.plain rfl) (.cons (.plain rfl) (.cons (.plain rfl) (.cons (.plain rfl) (.cons (.plain rfl) (.cons (.plain rfl) (.cons (.plain rfl) .nil)))))))) (.cons (.plain rfl) .nil)))) rfl) rfl ?_
  refine Qf E_good ?_
  refine Qf E_good ?_
  refine Qf E_good ?_
  refine Qf E_good ?_
  refine SafeOps.quiet1 E_good rfl rfl rfl (.alloc rfl rfl) rfl ?_
  refine Qf E_good ?_
  refine SafeOps.store (z := Obj.box [V.int .i64 x_2037.Kind, V.int .i64 x_2037.Pc, V.int .i64 x_2037.V, V.int .i64 x_2037.T, V.int .i64 x_2037.B, V.bool x_2037.Won, V.int .i64 x_2037.State]) E_good rfl rfl rfl rfl rfl rfl rfl (.boxM (c := 7) rfl rfl (Nat.le_of_ble_eq_true rfl) rfl) ?_
  refine Qf E_good ?_
  refine SafeOps.nil ?_
  repeat (first | refine sq ?_ | refine sk ?_ | with_reducible first | refine tn ?_ | refine bn ?_)
  refine Safe.region ?_
  refine Qf E_good ?_
  refine Q0 E_good rfl (v := V.agg [V.int .i64 0, V.int .i64 4]) (.load rfl rfl (.box rfl rfl) rfl) ?_
  refine bindG h ?_
  rintro ⟨x_2040, x_2041, x_2042⟩ he2043 h
  refine SafeOps.quiet E_good rfl rfl rfl (v := V.tup [V.ref [37, 0] 0 (rws (fun n => [V.int .i64 n]) x_2040).length, V.agg [V.int .i64 x_2041.Kind, V.int .i64 x_2041.Pc, V.int .i64 x_2041.V, V.int .i64 x_2041.T, V.int .i64 x_2041.B, V.bool x_2041.Won, V.int .i64 x_2041.State], V.bool x_2042]) (.callS rfl (.cons (.full rfl rfl) (.cons (.free rfl) (.cons (.free rfl) (.cons (.free rfl) .nil)))) (go_ravellaw07_done_sc x_2036 (api_Deque.mk 0 4) 3 0 _ he2043) (.tupL (.cons (.ownM (fun _ => rfl)) (.cons (.aggL (.cons (.plain rfl) (.cons (.plain rfl) (.cons (.plain rfl) (.cons (.plain rfl) (.cons (.plain rfl) (.cons (.plain rfl) (.cons (.plain rfl) .nil)))))))) (.cons (.plain rfl) .nil)))) rfl) rfl ?_
  refine Qf E_good ?_
  refine Qf E_good ?_
  refine Qf E_good ?_
  refine Qf E_good ?_
  refine SafeOps.quiet1 E_good rfl rfl rfl (.alloc rfl rfl) rfl ?_
  refine Qf E_good ?_
  refine SafeOps.store (z := Obj.box [V.int .i64 x_2041.Kind, V.int .i64 x_2041.Pc, V.int .i64 x_2041.V, V.int .i64 x_2041.T, V.int .i64 x_2041.B, V.bool x_2041.Won, V.int .i64 x_2041.State]) E_good rfl rfl rfl rfl rfl rfl rfl (.boxM (c := 7) rfl rfl (Nat.le_of_ble_eq_true rfl) rfl) ?_
  refine Qf E_good ?_
  refine SafeOps.nil ?_
  repeat (first | refine sq ?_ | refine sk ?_ | with_reducible first | refine tn ?_ | refine bn ?_)
  refine Safe.region ?_
  refine Qf E_good ?_
  refine Qf E_good ?_
  refine SafeOps.bjoin 2 44 (b := (x_2030 && x_2034)) (b1 := x_2034) (b0 := false) (fun hc2044 K => ?_) (fun hc2044 K => ?_) bj_and ?_
  ·skip
   refine SafeOps.quiet0 E_good (congrArg some hc2044) rfl rfl (.fn rfl) ?_
   refine Q0 E_good rfl (v := V.bool x_2034) (.pickK rfl hc2044 rfl) ?_
   exact SafeOps.drop' 2 rfl rfl rfl K
  ·skip
   refine SafeOps.skip (congrArg some hc2044) rfl rfl ?_
   refine Q0 E_good rfl (v := V.bool false) (.pickK rfl hc2044 rfl) ?_
   exact SafeOps.drop' 2 rfl rfl rfl K
  refine Qf E_good ?_
  refine SafeOps.bjoin 2 47 (b := ((x_2030 && x_2034) && x_2038)) (b1 := x_2038) (b0 := false) (fun hc2045 K => ?_) (fun hc2045 K => ?_) bj_and ?_
  ·skip
   refine SafeOps.quiet0 E_good (congrArg some hc2045) rfl rfl (.fn rfl) ?_
   refine Q0 E_good rfl (v := V.bool x_2038) (.pickK rfl hc2045 rfl) ?_
   exact SafeOps.drop' 2 rfl rfl rfl K
  ·skip
   refine SafeOps.skip (congrArg some hc2045) rfl rfl ?_
   refine Q0 E_good rfl (v := V.bool false) (.pickK rfl hc2045 rfl) ?_
   exact SafeOps.drop' 2 rfl rfl rfl K
  refine Qf E_good ?_
  refine SafeOps.bjoin 2 50 (b := (((x_2030 && x_2034) && x_2038) && x_2042)) (b1 := x_2042) (b0 := false) (fun hc2046 K => ?_) (fun hc2046 K => ?_) bj_and ?_
  ·skip
   refine SafeOps.quiet0 E_good (congrArg some hc2046) rfl rfl (.fn rfl) ?_
   refine Q0 E_good rfl (v := V.bool x_2042) (.pickK rfl hc2046 rfl) ?_
   exact SafeOps.drop' 2 rfl rfl rfl K
  ·skip
   refine SafeOps.skip (congrArg some hc2046) rfl rfl ?_
   refine Q0 E_good rfl (v := V.bool false) (.pickK rfl hc2046 rfl) ?_
   exact SafeOps.drop' 2 rfl rfl rfl K
  refine Qf E_good ?_
  refine SafeOps.bjoin 4 55 (b := ((((x_2030 && x_2034) && x_2038) && x_2042) && (x_2037.V == 6))) (b1 := (x_2037.V == 6)) (b0 := false) (fun hc2047 K => ?_) (fun hc2047 K => ?_) bj_and ?_
  ·skip
   refine SafeOps.quiet0 E_good (congrArg some hc2047) rfl rfl (v := V.ptr [7] 0 2) (.fn rfl) ?_
   refine SafeOps.quiet0 E_good (congrArg some hc2047) rfl rfl (v := V.int .i64 x_2037.V) (.load rfl rfl (.box rfl rfl) rfl) ?_
   refine SafeOps.quiet0 E_good (congrArg some hc2047) rfl rfl (v := V.bool (x_2037.V == 6)) (.fn rfl) ?_
   refine Q0 E_good rfl (v := V.bool (x_2037.V == 6)) (.pickK rfl hc2047 rfl) ?_
   exact SafeOps.drop' 4 rfl rfl rfl K
  ·skip
   refine SafeOps.skip (congrArg some hc2047) rfl rfl ?_
   refine SafeOps.skip (congrArg some hc2047) rfl rfl ?_
   refine SafeOps.skip (congrArg some hc2047) rfl rfl ?_
   refine Q0 E_good rfl (v := V.bool false) (.pickK rfl hc2047 rfl) ?_
   exact SafeOps.drop' 4 rfl rfl rfl K
  refine Qf E_good ?_
  refine SafeOps.bjoin 4 60 (b := (((((x_2030 && x_2034) && x_2038) && x_2042) && (x_2037.V == 6)) && (x_2041.V == 5))) (b1 := (x_2041.V == 5)) (b0 := false) (fun hc2048 K => ?_) (fun hc2048 K => ?_) bj_and ?_
  ·skip
   refine SafeOps.quiet0 E_good (congrArg some hc2048) rfl rfl (v := V.ptr [10] 0 2) (.fn rfl) ?_
   refine SafeOps.quiet0 E_good (congrArg some hc2048) rfl rfl (v := V.int .i64 x_2041.V) (.load rfl rfl (.box rfl rfl) rfl) ?_
   refine SafeOps.quiet0 E_good (congrArg some hc2048) rfl rfl (v := V.bool (x_2041.V == 5)) (.fn rfl) ?_
   refine Q0 E_good rfl (v := V.bool (x_2041.V == 5)) (.pickK rfl hc2048 rfl) ?_
   exact SafeOps.drop' 4 rfl rfl rfl K
  ·skip
   refine SafeOps.skip (congrArg some hc2048) rfl rfl ?_
   refine SafeOps.skip (congrArg some hc2048) rfl rfl ?_
   refine SafeOps.skip (congrArg some hc2048) rfl rfl ?_
   refine Q0 E_good rfl (v := V.bool false) (.pickK rfl hc2048 rfl) ?_
   exact SafeOps.drop' 4 rfl rfl rfl K
  refine Qf E_good ?_
  refine SafeOps.bjoin 4 65 (b := ((((((x_2030 && x_2034) && x_2038) && x_2042) && (x_2037.V == 6)) && (x_2041.V == 5)) && (x_2037.State == 1))) (b1 := (x_2037.State == 1)) (b0 := false) (fun hc2049 K => ?_) (fun hc2049 K => ?_) bj_and ?_
  ·skip
   refine SafeOps.quiet0 E_good (congrArg some hc2049) rfl rfl (v := V.ptr [7] 0 6) (.fn rfl) ?_
   refine SafeOps.quiet0 E_good (congrArg some hc2049) rfl rfl (v := V.int .i64 x_2037.State) (.load rfl rfl (.box rfl rfl) rfl) ?_
   refine SafeOps.quiet0 E_good (congrArg some hc2049) rfl rfl (v := V.bool (x_2037.State == 1)) (.fn rfl) ?_
   refine Q0 E_good rfl (v := V.bool (x_2037.State == 1)) (.pickK rfl hc2049 rfl) ?_
   exact SafeOps.drop' 4 rfl rfl rfl K
  ·skip
   refine SafeOps.skip (congrArg some hc2049) rfl rfl ?_
   refine SafeOps.skip (congrArg some hc2049) rfl rfl ?_
   refine SafeOps.skip (congrArg some hc2049) rfl rfl ?_
   refine Q0 E_good rfl (v := V.bool false) (.pickK rfl hc2049 rfl) ?_
   exact SafeOps.drop' 4 rfl rfl rfl K
  refine Qf E_good ?_
  refine SafeOps.bjoin 4 70 (b := (((((((x_2030 && x_2034) && x_2038) && x_2042) && (x_2037.V == 6)) && (x_2041.V == 5)) && (x_2037.State == 1)) && (x_2041.State == 1))) (b1 := (x_2041.State == 1)) (b0 := false) (fun hc2050 K => ?_) (fun hc2050 K => ?_) bj_and ?_
  ·skip
   refine SafeOps.quiet0 E_good (congrArg some hc2050) rfl rfl (v := V.ptr [10] 0 6) (.fn rfl) ?_
   refine SafeOps.quiet0 E_good (congrArg some hc2050) rfl rfl (v := V.int .i64 x_2041.State) (.load rfl rfl (.box rfl rfl) rfl) ?_
   refine SafeOps.quiet0 E_good (congrArg some hc2050) rfl rfl (v := V.bool (x_2041.State == 1)) (.fn rfl) ?_
   refine Q0 E_good rfl (v := V.bool (x_2041.State == 1)) (.pickK rfl hc2050 rfl) ?_
   exact SafeOps.drop' 4 rfl rfl rfl K
  ·skip
   refine SafeOps.skip (congrArg some hc2050) rfl rfl ?_
   refine SafeOps.skip (congrArg some hc2050) rfl rfl ?_
   refine SafeOps.skip (congrArg some hc2050) rfl rfl ?_
   refine Q0 E_good rfl (v := V.bool false) (.pickK rfl hc2050 rfl) ?_
   exact SafeOps.drop' 4 rfl rfl rfl K
  refine Qf E_good ?_
  refine SafeOps.nil ?_
  repeat (first | refine sq ?_ | refine sk ?_ | with_reducible first | refine tn ?_ | refine bn ?_)
  refine Safe.ret ?_
  repeat (first | with_reducible refine thenQ.r ?_ | with_reducible refine blockQ.r ?_)
  obtain rfl := Option.some.inj h
  exact retQ.gen (vs := [V.bool (((((((x_2030 && x_2034) && x_2038) && x_2042) && (x_2037.V == 6)) && (x_2041.V == 5)) && (x_2037.State == 1)) && (x_2041.State == 1))]) rfl (.tmp (v := V.bool (((((((x_2030 && x_2034) && x_2038) && x_2042) && (x_2037.V == 6)) && (x_2041.V == 5)) && (x_2037.State == 1)) && (x_2041.State == 1))) rfl .nil) (.free rfl) (by simp) (.inr rfl)

noncomputable def go_ring_List_j19 (v4_2284 : List Int) (v10_2285 : Int) (x_2297 : Int) (v2010_2301 : Int) : Option (((List Int) × Int × Int) ⊕ ((List Int) × Int)) :=
 if few (v4_2284 ++ [x_2297]).length then
  nextO (v4_2284 ++ [x_2297], IntKind.i64.wrap (v10_2285 + 1), v2010_2301)
 else none

noncomputable def go_ring_List_s17 (a0_2055 : List Int) (a1_2056 : api_Deque) (x_2236 : Int) : ((List Int) × Int × Int) → Option (((List Int) × Int × Int) ⊕ ((List Int) × Int))
 | (v4_2284, v10_2285, v2010_2286) =>
  if (decide (v10_2285 < x_2236)) = true then
   (go_pring_actor_slot (ring_actor.mk api_Hand.zero a0_2055 a1_2056 v2010_2286) v10_2285).bind fun x_2289 =>
   (go_cell_Load a0_2055 x_2289).bind fun (x_2297, x_2298) =>
   if (!(x_2298 == 0)) = true then
    go_ring_List_j19 v4_2284 v10_2285 x_2297 9
   else
    go_ring_List_j19 v4_2284 v10_2285 x_2297 v2010_2286
  else
   inrO (
    some (v4_2284, 0))

noncomputable def go_ring_List_j12 (a0_2055 : List Int) (a1_2056 : api_Deque) (x_2204 : Int) (x_2236 : Int) (v2010_2244 : Int) : Option ((List Int) × Int) :=
 if (((v2010_2244 != 0) || (decide (x_2236 < x_2204))) || (decide ((IntKind.i64.wrap (x_2236 - x_2204)) > a1_2056.Cap))) = true then
  some ([], 9)
 else
  whileO (go_ring_List_s17 a0_2055 a1_2056 x_2236) ([], x_2204, v2010_2244)

noncomputable def go_ring_List_j11 (a0_2055 : List Int) (a1_2056 : api_Deque) (x_2204 : Int) (x_2236 : Int) (v2010_2240 : Int) : Option ((List Int) × Int) :=
 if (!((decide (x_2236 ≥ 0)) && (decide (x_2236 ≤ 1099511627776)))) = true then
  go_ring_List_j12 a0_2055 a1_2056 x_2204 x_2236 9
 else
  go_ring_List_j12 a0_2055 a1_2056 x_2204 x_2236 v2010_2240

noncomputable def go_ring_List_j6 (a0_2055 : List Int) (a1_2056 : api_Deque) (x_2204 : Int) (v2010_2212 : Int) : Option ((List Int) × Int) :=
 (go_cell_Load a0_2055 (go_pring_actor_bottom (ring_actor.mk api_Hand.zero a0_2055 a1_2056 v2010_2212))).bind fun (x_2236, x_2237) =>
 if (!(x_2237 == 0)) = true then
  go_ring_List_j11 a0_2055 a1_2056 x_2204 x_2236 9
 else
  go_ring_List_j11 a0_2055 a1_2056 x_2204 x_2236 v2010_2212

noncomputable def go_ring_List_j5 (a0_2055 : List Int) (a1_2056 : api_Deque) (x_2204 : Int) (v2010_2208 : Int) : Option ((List Int) × Int) :=
 if (!((decide (x_2204 ≥ 0)) && (decide (x_2204 ≤ 1099511627776)))) = true then
  go_ring_List_j6 a0_2055 a1_2056 x_2204 9
 else
  go_ring_List_j6 a0_2055 a1_2056 x_2204 v2010_2208

noncomputable def go_ring_List (a0_2055 : List Int) (a1_2056 : api_Deque) : Option ((List Int) × Int) :=
 if ((go_ring_Check a0_2055 a1_2056) != 0) = true then
  some ([], go_ring_Check a0_2055 a1_2056)
 else
  (go_cell_Load a0_2055 (go_pring_actor_top (ring_actor.mk api_Hand.zero a0_2055 a1_2056 0))).bind fun (x_2204, x_2205) =>
  if (!(x_2205 == 0)) = true then
   go_ring_List_j5 a0_2055 a1_2056 x_2204 9
  else
   go_ring_List_j5 a0_2055 a1_2056 x_2204 0

theorem go_ring_List_sc (a0_2055 : List Int) (a1_2056 : api_Deque) (r : (List Int) × Int) (h : go_ring_List a0_2055 a1_2056 = some r) : SC Try.prog gl 15 [V.sl 1 (rws (fun n => [V.int .i64 n]) a0_2055), V.agg [V.int .i64 a1_2056.Base, V.int .i64 a1_2056.Cap]] (V.tup [V.own 1 (rws (fun n => [V.int .i64 n]) r.1), V.int .i64 r.2]) := by
 rw [go_ring_List] at h
 refine SC.of E_good Try.func15 rfl (fun _ _ => Try.call15 _ _) rfl ?_
 repeat (first | refine sq ?_ | refine sk ?_ | with_reducible first | refine tn ?_ | refine bn ?_)
 refine Safe.region ?_
 refine SafeOps.quiet1 E_good rfl rfl rfl (.box rfl rfl) rfl ?_
 refine Qf E_good ?_
 refine Qf E_good ?_
 refine SafeOps.nil ?_
 repeat (first | refine sq ?_ | refine sk ?_ | with_reducible first | refine tn ?_ | refine bn ?_)
 refine Safe.region ?_
 refine Qf E_good ?_
 refine Q0 E_good rfl (v := V.agg [V.int .i64 a1_2056.Base, V.int .i64 a1_2056.Cap]) (.load rfl rfl (.box rfl rfl) rfl) ?_
 refine Q0 E_good rfl (v := V.int .i64 (go_ring_Check a0_2055 a1_2056)) (.callP rfl rfl (go_ring_Check_sc a0_2055 a1_2056 _ rfl) rfl) ?_
 refine Qf E_good ?_
 refine SafeOps.nil ?_
 repeat (first | refine sq ?_ | refine sk ?_ | with_reducible first | refine tn ?_ | refine bn ?_)
 refine Safe.region ?_
 refine Qf E_good ?_
 refine Q0 E_good rfl (v := V.bool ((go_ring_Check a0_2055 a1_2056) != 0)) (.fn rfl) ?_
 refine SafeOps.nil ?_
 repeat (first | refine sq ?_ | refine sk ?_ | with_reducible first | refine tn ?_ | refine bn ?_)
 refine ifG h (fun hc2181 h => ?_) (fun hc2181 h => ?_)
 ·skip
  refine Safe.condK rfl hc2181 ?_
  repeat (first | refine sq ?_ | refine sk ?_ | with_reducible first | refine tn ?_ | refine bn ?_)
  refine Safe.region ?_
  refine Qf E_good ?_
  refine Qf E_good ?_
  refine Qf E_good ?_
  refine SafeOps.nil ?_
  repeat (first | refine sq ?_ | refine sk ?_ | with_reducible first | refine tn ?_ | refine bn ?_)
  refine Safe.ret ?_
  repeat (first | with_reducible refine thenQ.r ?_ | with_reducible refine blockQ.r ?_)
  obtain rfl := Option.some.inj h
  exact retQ.gen (vs := [V.nils, V.int .i64 (go_ring_Check a0_2055 a1_2056)]) rfl (.tmp (v := V.nils) rfl (.tmp (v := V.int .i64 (go_ring_Check a0_2055 a1_2056)) rfl .nil)) (by exact (.tup (.cons (.nils _) (.cons (.free rfl) .nil)))) (by simp) (.inr rfl)
 ·skip
  refine Safe.condN rfl hc2181 ?_
  repeat (first | refine sq ?_ | refine sk ?_ | with_reducible first | refine tn ?_ | refine bn ?_)
  refine Safe.region ?_
  refine Qf E_good ?_
  refine Q0 E_good rfl (v := V.agg [V.int .i64 a1_2056.Base, V.int .i64 a1_2056.Cap]) (.load rfl rfl (.box rfl rfl) rfl) ?_
  refine Q0 E_good rfl (v := V.agg [V.int .i64 0, V.int .i64 0, V.int .i64 0, V.int .i64 0, V.int .i64 0, V.bool false, V.int .i64 0, V.sl 1 (rws (fun n => [V.int .i64 n]) a0_2055), V.int .i64 a1_2056.Base, V.int .i64 a1_2056.Cap, V.int .i64 0]) (.fn rfl) ?_
  refine SafeOps.quiet1 E_good rfl rfl rfl (.box rfl rfl) rfl ?_
  refine Qf E_good ?_
  refine SafeOps.nil ?_
  repeat (first | refine sq ?_ | refine sk ?_ | with_reducible first | refine tn ?_ | refine bn ?_)
  refine Safe.region ?_
  refine Qf E_good ?_
  refine Qf E_good ?_
  refine Q0 E_good rfl (v := V.int .i64 (go_pring_actor_top (ring_actor.mk api_Hand.zero a0_2055 a1_2056 0))) (.callS rfl (.cons (.box rfl (.cons (.free rfl) (.cons (.free rfl) (.cons (.free rfl) (.cons (.free rfl) (.cons (.free rfl) (.cons (.free rfl) (.cons (.free rfl) (.cons (.free rfl) (.cons (.free rfl) (.cons (.free rfl) (.cons (.free rfl) .nil)))))))))))) .nil) (go_pring_actor_top_sc (ring_actor.mk api_Hand.zero a0_2055 a1_2056 0) _ rfl) (.plain rfl) rfl) ?_
  refine SafeOps.inline E_good rfl rfl rfl rfl rfl Try.func28 rfl (fun _ _ => Try.call28 _ _) rfl ?_
  repeat (first | refine sq ?_ | refine sk ?_ | with_reducible first | refine tn ?_ | refine bn ?_)
  refine Safe.region ?_
  refine Qf E_good ?_
  refine SafeOps.nil ?_
  repeat (first | refine sq ?_ | refine sk ?_ | with_reducible first | refine tn ?_ | refine bn ?_)
  refine Safe.region ?_
  refine Qf E_good ?_
  refine Qf E_good ?_
  refine SafeOps.inline E_good rfl rfl rfl rfl rfl Try.func31 rfl (fun _ _ => Try.call31 _ _) rfl ?_
  repeat (first | refine sq ?_ | refine sk ?_ | with_reducible first | refine tn ?_ | refine bn ?_)
  refine Safe.region ?_
  refine Qf E_good ?_
  refine SafeOps.nil ?_
  repeat (first | refine sq ?_ | refine sk ?_ | with_reducible first | refine tn ?_ | refine bn ?_)
  refine Safe.region ?_
  refine Qf E_good ?_
  refine Q0 E_good rfl (v := V.ptr [20] 0 0) (.fn rfl) ?_
  refine Q0 E_good rfl (v := V.ptr [20] 0 7) (.fn rfl) ?_
  refine Q0 E_good rfl (v := V.sl 1 (rws (fun n => [V.int .i64 n]) a0_2055)) (.load rfl rfl (.box rfl rfl) rfl) ?_
  refine Qf E_good ?_
  refine bindG h ?_
  rintro ⟨x_2204, x_2205⟩ he2206 h
  refine Q0 E_good rfl (v := V.tup [V.int .i64 x_2204, V.int .i64 x_2205]) (.callP rfl rfl (go_cell_Load_sc a0_2055 (go_pring_actor_top (ring_actor.mk api_Hand.zero a0_2055 a1_2056 0)) _ he2206) rfl) ?_
  refine Qf E_good ?_
  refine Qf E_good ?_
  refine Qf E_good ?_
  refine Qf E_good ?_
  refine Qf E_good ?_
  refine SafeOps.nil ?_
  repeat (first | refine sq ?_ | refine sk ?_ | with_reducible first | refine tn ?_ | refine bn ?_)
  refine Safe.region ?_
  refine Qf E_good ?_
  refine Qf E_good ?_
  refine Q0 E_good rfl (v := V.bool (x_2205 == 0)) (.fn rfl) ?_
  refine SafeOps.joinT 1 (fun (v2010_2208 : Int) => go_ring_List_j5 a0_2055 a1_2056 x_2204 v2010_2208 = some r) (fun (v2010_2208 : Int) => ⟨Try.f31.ntmps, [(5, V.int .i64 x_2204)], [([3], Obj.box [V.int .i64 a1_2056.Base, V.int .i64 a1_2056.Cap]), ([20], Obj.box [V.int .i64 0, V.int .i64 0, V.int .i64 0, V.int .i64 0, V.int .i64 0, V.bool false, V.int .i64 0, V.sl 1 (rws (fun n => [V.int .i64 n]) a0_2055), V.int .i64 a1_2056.Base, V.int .i64 a1_2056.Cap, V.int .i64 v2010_2208])], [(Try.f28.ntmps, [(0, V.ptr [20] 0 0), (2, V.int .i64 0)]), (Try.f15.ntmps, [(3, V.ptr [3] 0 0), (4, V.nils), (7, V.ptr [20] 0 0)])], [24, 10]⟩) ?_ (fun HJ2209 => ?_)
  ·intro v2010_2208 h
   replace h : go_ring_List_j5 a0_2055 a1_2056 x_2204 v2010_2208 = some r := h
   rw [go_ring_List_j5] at h
   refine SafeOps.nil ?_
   repeat (first | refine sq ?_ | refine sk ?_ | with_reducible first | refine tn ?_ | refine bn ?_)
   refine Safe.region ?_
   refine Qf E_good ?_
   refine Qf E_good ?_
   refine SafeOps.nil ?_
   repeat (first | refine sq ?_ | refine sk ?_ | with_reducible first | refine tn ?_ | refine bn ?_)
   refine Safe.ret ?_
   repeat (first | with_reducible refine thenQ.r ?_ | with_reducible refine blockQ.r ?_)
   refine inQ.gen (vs := [V.int .i64 x_2204]) (v := V.int .i64 x_2204) (.inr rfl) rfl (.tmp (v := V.int .i64 x_2204) rfl .nil) rfl ?_
   refine Qf E_good ?_
   refine SafeOps.nil ?_
   repeat (first | refine sq ?_ | refine sk ?_ | with_reducible first | refine tn ?_ | refine bn ?_)
   refine Safe.region ?_
   refine Qf E_good ?_
   refine Qf E_good ?_
   refine Qf E_good ?_
   refine Q0 E_good rfl (v := V.bool (decide (x_2204 ≥ 0))) (.fn rfl) ?_
   refine Qf E_good ?_
   refine SafeOps.bjoin 3 18 (b := ((decide (x_2204 ≥ 0)) && (decide (x_2204 ≤ 1099511627776)))) (b1 := decide (x_2204 ≤ 1099511627776)) (b0 := false) (fun hc2210 K => ?_) (fun hc2210 K => ?_) bj_and ?_
   ·skip
    refine SafeOps.quiet0 E_good (congrArg some hc2210) rfl rfl (.fn rfl) ?_
    refine SafeOps.quiet0 E_good (congrArg some hc2210) rfl rfl (v := V.bool (decide (x_2204 ≤ 1099511627776))) (.fn rfl) ?_
    refine Q0 E_good rfl (v := V.bool (decide (x_2204 ≤ 1099511627776))) (.pickK rfl hc2210 rfl) ?_
    exact SafeOps.drop' 3 rfl rfl rfl K
   ·skip
    refine SafeOps.skip (congrArg some hc2210) rfl rfl ?_
    refine SafeOps.skip (congrArg some hc2210) rfl rfl ?_
    refine Q0 E_good rfl (v := V.bool false) (.pickK rfl hc2210 rfl) ?_
    exact SafeOps.drop' 3 rfl rfl rfl K
   refine SafeOps.joinT 1 (fun (v2010_2212 : Int) => go_ring_List_j6 a0_2055 a1_2056 x_2204 v2010_2212 = some r) (fun (v2010_2212 : Int) => ⟨Try.f28.ntmps, [(7, V.int .i64 x_2204)], [([3], Obj.box [V.int .i64 a1_2056.Base, V.int .i64 a1_2056.Cap]), ([20], Obj.box [V.int .i64 0, V.int .i64 0, V.int .i64 0, V.int .i64 0, V.int .i64 0, V.bool false, V.int .i64 0, V.sl 1 (rws (fun n => [V.int .i64 n]) a0_2055), V.int .i64 a1_2056.Base, V.int .i64 a1_2056.Cap, V.int .i64 v2010_2212])], [(Try.f15.ntmps, [(3, V.ptr [3] 0 0), (4, V.nils), (7, V.ptr [20] 0 0)])], [24]⟩) ?_ (fun HJ2213 => ?_)
   ·intro v2010_2212 h
    replace h : go_ring_List_j6 a0_2055 a1_2056 x_2204 v2010_2212 = some r := h
    rw [go_ring_List_j6] at h
    refine SafeOps.nil ?_
    repeat (first | refine sq ?_ | refine sk ?_ | with_reducible first | refine tn ?_ | refine bn ?_)
    refine Safe.region ?_
    refine Qf E_good ?_
    refine Qf E_good ?_
    refine SafeOps.nil ?_
    repeat (first | refine sq ?_ | refine sk ?_ | with_reducible first | refine tn ?_ | refine bn ?_)
    refine Safe.ret ?_
    repeat (first | with_reducible refine thenQ.r ?_ | with_reducible refine blockQ.r ?_)
    refine inQ.gen (vs := [V.int .i64 x_2204]) (v := V.int .i64 x_2204) (.inr rfl) rfl (.tmp (v := V.int .i64 x_2204) rfl .nil) rfl ?_
    refine Qf E_good ?_
    refine Qf E_good ?_
    refine Q0 E_good rfl (v := V.int .i64 (go_pring_actor_bottom (ring_actor.mk api_Hand.zero a0_2055 a1_2056 v2010_2212))) (.callS rfl (.cons (.box rfl (.cons (.free rfl) (.cons (.free rfl) (.cons (.free rfl) (.cons (.free rfl) (.cons (.free rfl) (.cons (.free rfl) (.cons (.free rfl) (.cons (.free rfl) (.cons (.free rfl) (.cons (.free rfl) (.cons (.free rfl) .nil)))))))))))) .nil) (go_pring_actor_bottom_sc (ring_actor.mk api_Hand.zero a0_2055 a1_2056 v2010_2212) _ rfl) (.plain rfl) rfl) ?_
    refine SafeOps.inline E_good rfl rfl rfl rfl rfl Try.func28 rfl (fun _ _ => Try.call28 _ _) rfl ?_
    repeat (first | refine sq ?_ | refine sk ?_ | with_reducible first | refine tn ?_ | refine bn ?_)
    refine Safe.region ?_
    refine Qf E_good ?_
    refine SafeOps.nil ?_
    repeat (first | refine sq ?_ | refine sk ?_ | with_reducible first | refine tn ?_ | refine bn ?_)
    refine Safe.region ?_
    refine Qf E_good ?_
    refine Qf E_good ?_
    refine SafeOps.inline E_good rfl rfl rfl rfl rfl Try.func31 rfl (fun _ _ => Try.call31 _ _) rfl ?_
    repeat (first | refine sq ?_ | refine sk ?_ | with_reducible first | refine tn ?_ | refine bn ?_)
    refine Safe.region ?_
    refine Qf E_good ?_
    refine SafeOps.nil ?_
    repeat (first | refine sq ?_ | refine sk ?_ | with_reducible first | refine tn ?_ | refine bn ?_)
    refine Safe.region ?_
    refine Qf E_good ?_
    refine Q0 E_good rfl (v := V.ptr [20] 0 0) (.fn rfl) ?_
    refine Q0 E_good rfl (v := V.ptr [20] 0 7) (.fn rfl) ?_
    refine Q0 E_good rfl (v := V.sl 1 (rws (fun n => [V.int .i64 n]) a0_2055)) (.load rfl rfl (.box rfl rfl) rfl) ?_
    refine Qf E_good ?_
    refine bindG h ?_
    rintro ⟨x_2236, x_2237⟩ he2238 h
    refine Q0 E_good rfl (v := V.tup [V.int .i64 x_2236, V.int .i64 x_2237]) (.callP rfl rfl (go_cell_Load_sc a0_2055 (go_pring_actor_bottom (ring_actor.mk api_Hand.zero a0_2055 a1_2056 v2010_2212)) _ he2238) rfl) ?_
    refine Qf E_good ?_
    refine Qf E_good ?_
    refine Qf E_good ?_
    refine Qf E_good ?_
    refine Qf E_good ?_
    refine SafeOps.nil ?_
    repeat (first | refine sq ?_ | refine sk ?_ | with_reducible first | refine tn ?_ | refine bn ?_)
    refine Safe.region ?_
    refine Qf E_good ?_
    refine Qf E_good ?_
    refine Q0 E_good rfl (v := V.bool (x_2237 == 0)) (.fn rfl) ?_
    refine SafeOps.joinT 1 (fun (v2010_2240 : Int) => go_ring_List_j11 a0_2055 a1_2056 x_2204 x_2236 v2010_2240 = some r) (fun (v2010_2240 : Int) => ⟨Try.f31.ntmps, [(5, V.int .i64 x_2236)], [([3], Obj.box [V.int .i64 a1_2056.Base, V.int .i64 a1_2056.Cap]), ([20], Obj.box [V.int .i64 0, V.int .i64 0, V.int .i64 0, V.int .i64 0, V.int .i64 0, V.bool false, V.int .i64 0, V.sl 1 (rws (fun n => [V.int .i64 n]) a0_2055), V.int .i64 a1_2056.Base, V.int .i64 a1_2056.Cap, V.int .i64 v2010_2240])], [(Try.f28.ntmps, [(0, V.ptr [20] 0 0), (2, V.int .i64 0)]), (Try.f15.ntmps, [(3, V.ptr [3] 0 0), (4, V.nils), (7, V.ptr [20] 0 0), (24, V.int .i64 x_2204)])], [28, 10]⟩) ?_ (fun HJ2241 => ?_)
    ·intro v2010_2240 h
     replace h : go_ring_List_j11 a0_2055 a1_2056 x_2204 x_2236 v2010_2240 = some r := h
     rw [go_ring_List_j11] at h
     refine SafeOps.nil ?_
     repeat (first | refine sq ?_ | refine sk ?_ | with_reducible first | refine tn ?_ | refine bn ?_)
     refine Safe.region ?_
     refine Qf E_good ?_
     refine Qf E_good ?_
     refine SafeOps.nil ?_
     repeat (first | refine sq ?_ | refine sk ?_ | with_reducible first | refine tn ?_ | refine bn ?_)
     refine Safe.ret ?_
     repeat (first | with_reducible refine thenQ.r ?_ | with_reducible refine blockQ.r ?_)
     refine inQ.gen (vs := [V.int .i64 x_2236]) (v := V.int .i64 x_2236) (.inr rfl) rfl (.tmp (v := V.int .i64 x_2236) rfl .nil) rfl ?_
     refine Qf E_good ?_
     refine SafeOps.nil ?_
     repeat (first | refine sq ?_ | refine sk ?_ | with_reducible first | refine tn ?_ | refine bn ?_)
     refine Safe.region ?_
     refine Qf E_good ?_
     refine Qf E_good ?_
     refine Qf E_good ?_
     refine Q0 E_good rfl (v := V.bool (decide (x_2236 ≥ 0))) (.fn rfl) ?_
     refine Qf E_good ?_
     refine SafeOps.bjoin 3 18 (b := ((decide (x_2236 ≥ 0)) && (decide (x_2236 ≤ 1099511627776)))) (b1 := decide (x_2236 ≤ 1099511627776)) (b0 := false) (fun hc2242 K => ?_) (fun hc2242 K => ?_) bj_and ?_
     ·skip
      refine SafeOps.quiet0 E_good (congrArg some hc2242) rfl rfl (.fn rfl) ?_
      refine SafeOps.quiet0 E_good (congrArg some hc2242) rfl rfl (v := V.bool (decide (x_2236 ≤ 1099511627776))) (.fn rfl) ?_
      refine Q0 E_good rfl (v := V.bool (decide (x_2236 ≤ 1099511627776))) (.pickK rfl hc2242 rfl) ?_
      exact SafeOps.drop' 3 rfl rfl rfl K
     ·skip
      refine SafeOps.skip (congrArg some hc2242) rfl rfl ?_
      refine SafeOps.skip (congrArg some hc2242) rfl rfl ?_
      refine Q0 E_good rfl (v := V.bool false) (.pickK rfl hc2242 rfl) ?_
      exact SafeOps.drop' 3 rfl rfl rfl K
     refine SafeOps.joinT 1 (fun (v2010_2244 : Int) => go_ring_List_j12 a0_2055 a1_2056 x_2204 x_2236 v2010_2244 = some r) (fun (v2010_2244 : Int) => ⟨Try.f28.ntmps, [(7, V.int .i64 x_2236)], [([3], Obj.box [V.int .i64 a1_2056.Base, V.int .i64 a1_2056.Cap]), ([20], Obj.box [V.int .i64 0, V.int .i64 0, V.int .i64 0, V.int .i64 0, V.int .i64 0, V.bool false, V.int .i64 0, V.sl 1 (rws (fun n => [V.int .i64 n]) a0_2055), V.int .i64 a1_2056.Base, V.int .i64 a1_2056.Cap, V.int .i64 v2010_2244])], [(Try.f15.ntmps, [(3, V.ptr [3] 0 0), (4, V.nils), (7, V.ptr [20] 0 0), (24, V.int .i64 x_2204)])], [28]⟩) ?_ (fun HJ2245 => ?_)
     ·intro v2010_2244 h
      replace h : go_ring_List_j12 a0_2055 a1_2056 x_2204 x_2236 v2010_2244 = some r := h
      rw [go_ring_List_j12] at h
      refine SafeOps.nil ?_
      repeat (first | refine sq ?_ | refine sk ?_ | with_reducible first | refine tn ?_ | refine bn ?_)
      refine Safe.region ?_
      refine Qf E_good ?_
      refine Qf E_good ?_
      refine SafeOps.nil ?_
      repeat (first | refine sq ?_ | refine sk ?_ | with_reducible first | refine tn ?_ | refine bn ?_)
      refine Safe.ret ?_
      repeat (first | with_reducible refine thenQ.r ?_ | with_reducible refine blockQ.r ?_)
      refine inQ.gen (vs := [V.int .i64 x_2236]) (v := V.int .i64 x_2236) (.inr rfl) rfl (.tmp (v := V.int .i64 x_2236) rfl .nil) rfl ?_
      refine Qf E_good ?_
      refine Qf E_good ?_
      refine SafeOps.nil ?_
      repeat (first | refine sq ?_ | refine sk ?_ | with_reducible first | refine tn ?_ | refine bn ?_)
      refine Safe.region ?_
      refine Qf E_good ?_
      refine Q0 E_good rfl (v := V.ptr [20] 0 0) (.fn rfl) ?_
      refine Q0 E_good rfl (v := V.ptr [20] 0 10) (.fn rfl) ?_
      refine Q0 E_good rfl (v := V.int .i64 v2010_2244) (.load rfl rfl (.box rfl rfl) rfl) ?_
      refine Q0 E_good rfl (v := V.bool (v2010_2244 != 0)) (.fn rfl) ?_
      refine Qf E_good ?_
      refine SafeOps.bjoin 4 38 (b := ((v2010_2244 != 0) || (decide (x_2236 < x_2204)))) (b1 := true) (b0 := decide (x_2236 < x_2204)) (fun hc2246 K => ?_) (fun hc2246 K => ?_) bj_or ?_
      ·skip
       refine SafeOps.skip (congrArg (fun b => some (!b)) hc2246) rfl rfl ?_
       refine SafeOps.skip (congrArg (fun b => some (!b)) hc2246) rfl rfl ?_
       refine SafeOps.skip (congrArg (fun b => some (!b)) hc2246) rfl rfl ?_
       refine Q0 E_good rfl (v := V.bool true) (.pickK rfl hc2246 rfl) ?_
       exact SafeOps.drop' 4 rfl rfl rfl K
      ·skip
       refine SafeOps.quiet0 E_good (congrArg (fun b => some (!b)) hc2246) rfl rfl (.fn rfl) ?_
       refine SafeOps.quiet0 E_good (congrArg (fun b => some (!b)) hc2246) rfl rfl (.fn rfl) ?_
       refine SafeOps.quiet0 E_good (congrArg (fun b => some (!b)) hc2246) rfl rfl (v := V.bool (decide (x_2236 < x_2204))) (.fn rfl) ?_
       refine Q0 E_good rfl (v := V.bool (decide (x_2236 < x_2204))) (.pickK rfl hc2246 rfl) ?_
       exact SafeOps.drop' 4 rfl rfl rfl K
      refine Qf E_good ?_
      refine SafeOps.bjoin 7 46 (b := (((v2010_2244 != 0) || (decide (x_2236 < x_2204))) || (decide ((IntKind.i64.wrap (x_2236 - x_2204)) > a1_2056.Cap)))) (b1 := true) (b0 := decide ((IntKind.i64.wrap (x_2236 - x_2204)) > a1_2056.Cap)) (fun hc2247 K => ?_) (fun hc2247 K => ?_) bj_or ?_
      ·skip
       refine SafeOps.skip (congrArg (fun b => some (!b)) hc2247) rfl rfl ?_
       refine SafeOps.skip (congrArg (fun b => some (!b)) hc2247) rfl rfl ?_
       refine SafeOps.skip (congrArg (fun b => some (!b)) hc2247) rfl rfl ?_
       refine SafeOps.skip (congrArg (fun b => some (!b)) hc2247) rfl rfl ?_
       refine SafeOps.skip (congrArg (fun b => some (!b)) hc2247) rfl rfl ?_
       refine SafeOps.skip (congrArg (fun b => some (!b)) hc2247) rfl rfl ?_
       refine Q0 E_good rfl (v := V.bool true) (.pickK rfl hc2247 rfl) ?_
       exact SafeOps.drop' 7 rfl rfl rfl K
      ·skip
       refine SafeOps.quiet0 E_good (congrArg (fun b => some (!b)) hc2247) rfl rfl (.fn rfl) ?_
       refine SafeOps.quiet0 E_good (congrArg (fun b => some (!b)) hc2247) rfl rfl (.fn rfl) ?_
       refine SafeOps.quiet0 E_good (congrArg (fun b => some (!b)) hc2247) rfl rfl (v := V.int .i64 (IntKind.i64.wrap (x_2236 - x_2204))) (.fn rfl) ?_
       refine SafeOps.quiet0 E_good (congrArg (fun b => some (!b)) hc2247) rfl rfl (v := V.ptr [3] 0 1) (.fn rfl) ?_
       refine SafeOps.quiet0 E_good (congrArg (fun b => some (!b)) hc2247) rfl rfl (v := V.int .i64 a1_2056.Cap) (.load rfl rfl (.box rfl rfl) rfl) ?_
       refine SafeOps.quiet0 E_good (congrArg (fun b => some (!b)) hc2247) rfl rfl (v := V.bool (decide ((IntKind.i64.wrap (x_2236 - x_2204)) > a1_2056.Cap))) (.fn rfl) ?_
       refine Q0 E_good rfl (v := V.bool (decide ((IntKind.i64.wrap (x_2236 - x_2204)) > a1_2056.Cap))) (.pickK rfl hc2247 rfl) ?_
       exact SafeOps.drop' 7 rfl rfl rfl K
      refine SafeOps.nil ?_
      repeat (first | refine sq ?_ | refine sk ?_ | with_reducible first | refine tn ?_ | refine bn ?_)
      refine ifG h (fun hc2248 h => ?_) (fun hc2248 h => ?_)
      ·skip
       refine Safe.condK rfl hc2248 ?_
       repeat (first | refine sq ?_ | refine sk ?_ | with_reducible first | refine tn ?_ | refine bn ?_)
       refine Safe.region ?_
       refine Qf E_good ?_
       refine Qf E_good ?_
       refine SafeOps.nil ?_
       repeat (first | refine sq ?_ | refine sk ?_ | with_reducible first | refine tn ?_ | refine bn ?_)
       refine Safe.ret ?_
       repeat (first | with_reducible refine thenQ.r ?_ | with_reducible refine blockQ.r ?_)
       obtain rfl := Option.some.inj h
       exact retQ.gen (vs := [V.nils, V.int .i64 9]) rfl (.tmp (v := V.nils) rfl (.tmp (v := V.int .i64 9) rfl .nil)) (by exact (.tup (.cons (.nils _) (.cons (.free rfl) .nil)))) (by simp) (.inr rfl)
      ·skip
       refine Safe.condN rfl hc2248 ?_
       repeat (first | refine sq ?_ | refine sk ?_ | with_reducible first | refine tn ?_ | refine bn ?_)
       refine Safe.region ?_
       refine Qf E_good ?_
       refine Qf E_good ?_
       refine SafeOps.nil ?_
       repeat (first | refine sq ?_ | refine sk ?_ | with_reducible first | refine tn ?_ | refine bn ?_)
       refine Safe.block ?_
       repeat (first | refine sq ?_ | refine sk ?_ | with_reducible first | refine tn ?_ | refine bn ?_)
       refine Safe.loopW (fun ((v4_2284, v10_2285, v2010_2286) : (List Int) × Int × Int) => ⟨Try.f15.ntmps, [(4, V.ref [7000, 118, 4] 0 (rws (fun n => [V.int .i64 n]) v4_2284).length), (7, V.ptr [20] 0 0), (9, V.int .i64 x_2236), (10, V.int .i64 v10_2285)], [([20], Obj.box [V.int .i64 0, V.int .i64 0, V.int .i64 0, V.int .i64 0, V.int .i64 0, V.bool false, V.int .i64 0, V.sl 1 (rws (fun n => [V.int .i64 n]) a0_2055), V.int .i64 a1_2056.Base, V.int .i64 a1_2056.Cap, V.int .i64 v2010_2286]), ([7000, 118, 4], Obj.rows 1 (rws (fun n => [V.int .i64 n]) v4_2284) false)], [], []⟩) h (.empty [7000, 118, 4] 1 rfl (.cov ⟨rfl, rfl, (upT_cons (.nilref _) (ut (ut (ut upT_nil)))), (uo (uo upOb_nil)), upOut_nil, rfl⟩)) ?_
       rintro ⟨v4_2284, v10_2285, v2010_2286⟩ ohr2287 h hr2287
       replace h : go_ring_List_s17 a0_2055 a1_2056 x_2236 (v4_2284, v10_2285, v2010_2286) = some ohr2287 := h
       rw [go_ring_List_s17] at h
       repeat (first | refine sq ?_ | refine sk ?_ | with_reducible first | refine tn ?_ | refine bn ?_)
       refine Safe.region ?_
       refine Qf E_good ?_
       refine Qf E_good ?_
       refine Q0 E_good rfl (v := V.bool (decide (v10_2285 < x_2236))) (.fn rfl) ?_
       refine SafeOps.nil ?_
       repeat (first | refine sq ?_ | refine sk ?_ | with_reducible first | refine tn ?_ | refine bn ?_)
       refine ifG h (fun hc2288 h => ?_) (fun hc2288 h => ?_)
       ·skip
        refine Safe.condK rfl hc2288 ?_
        repeat (first | refine sq ?_ | refine sk ?_ | with_reducible first | refine tn ?_ | refine bn ?_)
        refine Safe.block ?_
        repeat (first | refine sq ?_ | refine sk ?_ | with_reducible first | refine tn ?_ | refine bn ?_)
        refine Safe.region ?_
        refine Qf E_good ?_
        refine Qf E_good ?_
        refine Qf E_good ?_
        refine Qf E_good ?_
        refine bindG h ?_
        intro x_2289 he2290 h
        refine Q0 E_good rfl (v := V.int .i64 x_2289) (.callS rfl (.cons (.box rfl (.cons (.free rfl) (.cons (.free rfl) (.cons (.free rfl) (.cons (.free rfl) (.cons (.free rfl) (.cons (.free rfl) (.cons (.free rfl) (.cons (.free rfl) (.cons (.free rfl) (.cons (.free rfl) (.cons (.free rfl) .nil)))))))))))) (.cons (.free rfl) .nil)) (go_pring_actor_slot_sc (ring_actor.mk api_Hand.zero a0_2055 a1_2056 v2010_2286) v10_2285 _ he2290) (.plain rfl) rfl) ?_
        refine SafeOps.inline E_good rfl rfl rfl rfl rfl Try.func31 rfl (fun _ _ => Try.call31 _ _) rfl ?_
        repeat (first | refine sq ?_ | refine sk ?_ | with_reducible first | refine tn ?_ | refine bn ?_)
        refine Safe.region ?_
        refine Qf E_good ?_
        refine SafeOps.nil ?_
        repeat (first | refine sq ?_ | refine sk ?_ | with_reducible first | refine tn ?_ | refine bn ?_)
        refine Safe.region ?_
        refine Qf E_good ?_
        refine Q0 E_good rfl (v := V.ptr [20] 0 0) (.fn rfl) ?_
        refine Q0 E_good rfl (v := V.ptr [20] 0 7) (.fn rfl) ?_
        refine Q0 E_good rfl (v := V.sl 1 (rws (fun n => [V.int .i64 n]) a0_2055)) (.load rfl rfl (.box rfl rfl) rfl) ?_
        refine Qf E_good ?_
        refine bindG h ?_
        rintro ⟨x_2297, x_2298⟩ he2299 h
        refine Q0 E_good rfl (v := V.tup [V.int .i64 x_2297, V.int .i64 x_2298]) (.callP rfl rfl (go_cell_Load_sc a0_2055 x_2289 _ he2299) rfl) ?_
        refine Qf E_good ?_
        refine Qf E_good ?_
        refine Qf E_good ?_
        refine Qf E_good ?_
        refine Qf E_good ?_
        refine SafeOps.nil ?_
        repeat (first | refine sq ?_ | refine sk ?_ | with_reducible first | refine tn ?_ | refine bn ?_)
        refine Safe.region ?_
        refine Qf E_good ?_
        refine Qf E_good ?_
        refine Q0 E_good rfl (v := V.bool (x_2298 == 0)) (.fn rfl) ?_
        refine SafeOps.joinT 1 (fun (v2010_2301 : Int) => go_ring_List_j19 v4_2284 v10_2285 x_2297 v2010_2301 = some ohr2287) (fun (v2010_2301 : Int) => ⟨Try.f31.ntmps, [(5, V.int .i64 x_2297)], [([20], Obj.box [V.int .i64 0, V.int .i64 0, V.int .i64 0, V.int .i64 0, V.int .i64 0, V.bool false, V.int .i64 0, V.sl 1 (rws (fun n => [V.int .i64 n]) a0_2055), V.int .i64 a1_2056.Base, V.int .i64 a1_2056.Cap, V.int .i64 v2010_2301]), ([7000, 118, 4], Obj.rows 1 (rws (fun n => [V.int .i64 n]) v4_2284) false)], [(Try.f15.ntmps, [(7, V.ptr [20] 0 0), (9, V.int .i64 x_2236), (10, V.int .i64 v10_2285), (53, V.ref [7000, 118, 4] 0 (rws (fun n => [V.int .i64 n]) v4_2284).length)])], [58]⟩) ?_ (fun HJ2302 => ?_)
        ·intro v2010_2301 h
         replace h : go_ring_List_j19 v4_2284 v10_2285 x_2297 v2010_2301 = some ohr2287 := h
         rw [go_ring_List_j19] at h
         refine SafeOps.nil ?_
         repeat (first | refine sq ?_ | refine sk ?_ | with_reducible first | refine tn ?_ | refine bn ?_)
         refine Safe.region ?_
         refine Qf E_good ?_
         refine Qf E_good ?_
         refine SafeOps.nil ?_
         repeat (first | refine sq ?_ | refine sk ?_ | with_reducible first | refine tn ?_ | refine bn ?_)
         refine Safe.ret ?_
         repeat (first | with_reducible refine thenQ.r ?_ | with_reducible refine blockQ.r ?_)
         refine inQ.gen (vs := [V.int .i64 x_2297]) (v := V.int .i64 x_2297) (.inr rfl) rfl (.tmp (v := V.int .i64 x_2297) rfl .nil) rfl ?_
         refine SafeOps.quiet1 E_good rfl rfl rfl (.litM (f := (fun n => [V.int .i64 n])) (xs := [x_2297]) rfl rfl (by decide) rfl rfl rfl rfl rfl) rfl ?_
         refine okG h (fun hb2303 h => ?_)
         refine SafeOps.appendM (fun n => [V.int .i64 n]) (xs := v4_2284) (ys := [x_2297]) E_good rfl rfl rfl rfl rfl rfl rfl rfl rfl (.own rfl) (.own rfl) (fun _ => rfl) hb2303 ?_
         refine Qf E_good ?_
         refine SafeOps.nil ?_
         repeat (first | refine sq ?_ | refine sk ?_ | with_reducible first | refine tn ?_ | refine bn ?_)
         refine Safe.region ?_
         refine Qf E_good ?_
         refine Q0 E_good rfl (v := V.int .i64 (IntKind.i64.wrap (v10_2285 + 1))) (.fn rfl) ?_
         refine Qf E_good ?_
         refine SafeOps.nil ?_
         repeat (first | refine sq ?_ | refine sk ?_ | with_reducible first | refine tn ?_ | refine bn ?_)
         exact ⟨_, next_out h, (.ren [60] [7000, 118, 4] (.cov ⟨rfl, rfl, (ut (ut (ut (ut upT_nil)))), (uo (uo upOb_nil)), upOut_nil, rfl⟩))⟩
        ·skip
         refine SafeOps.inline E_good rfl rfl rfl rfl rfl Try.func54 rfl (fun _ _ => Try.call54 _ _) rfl ?_
         repeat (first | refine sq ?_ | refine sk ?_ | with_reducible first | refine tn ?_ | refine bn ?_)
         refine Safe.region ?_
         refine Qf E_good ?_
         refine SafeOps.nil ?_
         repeat (first | refine sq ?_ | refine sk ?_ | with_reducible first | refine tn ?_ | refine bn ?_)
         refine Safe.region ?_
         refine Qf E_good ?_
         refine Q0 E_good rfl (v := V.bool (!(x_2298 == 0))) (.fn rfl) ?_
         refine SafeOps.nil ?_
         repeat (first | refine sq ?_ | refine sk ?_ | with_reducible first | refine tn ?_ | refine bn ?_)
         refine ifG h (fun hc2304 h => ?_) (fun hc2304 h => ?_)
         ·skip
          refine Safe.condK rfl hc2304 ?_
          repeat (first | refine sq ?_ | refine sk ?_ | with_reducible first | refine tn ?_ | refine bn ?_)
          refine Safe.region ?_
          refine Qf E_good ?_
          refine Q0 E_good rfl (v := V.ptr [20] 0 0) (.fn rfl) ?_
          refine Q0 E_good rfl (v := V.ptr [20] 0 10) (.fn rfl) ?_
          refine SafeOps.store (z := Obj.box [V.int .i64 0, V.int .i64 0, V.int .i64 0, V.int .i64 0, V.int .i64 0, V.bool false, V.int .i64 0, V.sl 1 (rws (fun n => [V.int .i64 n]) a0_2055), V.int .i64 a1_2056.Base, V.int .i64 a1_2056.Cap, V.int .i64 9]) E_good rfl rfl rfl rfl rfl rfl rfl (.boxM (c := 11) rfl rfl (Nat.le_of_ble_eq_true rfl) rfl) ?_
          refine SafeOps.nil ?_
          repeat (first | refine sq ?_ | refine sk ?_ | with_reducible first | refine tn ?_ | refine bn ?_)
          refine Safe.region ?_
          refine Qf E_good ?_
          refine Qf E_good ?_
          refine SafeOps.nil ?_
          repeat (first | refine sq ?_ | refine sk ?_ | with_reducible first | refine tn ?_ | refine bn ?_)
          refine Safe.ret ?_
          repeat (first | with_reducible refine thenQ.r ?_ | with_reducible refine blockQ.r ?_)
          refine inQ.gen (vs := [V.bool (x_2298 == 0)]) (v := V.bool (x_2298 == 0)) (.inr rfl) rfl (.tmp (v := V.bool (x_2298 == 0)) rfl .nil) rfl ?_
          exact SafeOps.got (HJ2302 (9) h) (.cov ⟨rfl, rfl, (ut upT_nil), (uo (uo upOb_nil)), (upOut_cons rfl (ut (ut (ut (ut upT_nil)))) upOut_nil), rfl⟩)
         ·skip
          refine Safe.condN rfl hc2304 ?_
          repeat (first | refine sq ?_ | refine sk ?_ | with_reducible first | refine tn ?_ | refine bn ?_)
          refine Safe.region ?_
          refine Qf E_good ?_
          refine Qf E_good ?_
          refine SafeOps.nil ?_
          repeat (first | refine sq ?_ | refine sk ?_ | with_reducible first | refine tn ?_ | refine bn ?_)
          refine Safe.ret ?_
          repeat (first | with_reducible refine thenQ.r ?_ | with_reducible refine blockQ.r ?_)
          refine inQ.gen (vs := [V.bool (x_2298 == 0)]) (v := V.bool (x_2298 == 0)) (.inr rfl) rfl (.tmp (v := V.bool (x_2298 == 0)) rfl .nil) rfl ?_
          exact SafeOps.got (HJ2302 (v2010_2286) h) (.cov ⟨rfl, rfl, (ut upT_nil), (uo (uo upOb_nil)), (upOut_cons rfl (ut (ut (ut (ut upT_nil)))) upOut_nil), rfl⟩)
       ·skip
        refine Safe.condN rfl hc2288 ?_
        repeat (first | refine sq ?_ | refine sk ?_ | with_reducible first | refine tn ?_ | refine bn ?_)
        refine Safe.exit ?_
        repeat (first | with_reducible refine thenQ.e ?_ | with_reducible refine blockQ.x rfl ?_ | with_reducible refine blockQ.y rfl ?_)
        replace h := inr_out h hr2287
        repeat (first | refine sq ?_ | refine sk ?_ | with_reducible first | refine tn ?_ | refine bn ?_)
        refine Safe.region ?_
        refine Qf E_good ?_
        refine Qf E_good ?_
        refine Qf E_good ?_
        refine SafeOps.nil ?_
        repeat (first | refine sq ?_ | refine sk ?_ | with_reducible first | refine tn ?_ | refine bn ?_)
        refine Safe.ret ?_
        repeat (first | with_reducible refine thenQ.r ?_ | with_reducible refine blockQ.r ?_)
        obtain rfl := Option.some.inj h
        exact retQ.gen (vs := [V.ref [7000, 118, 4] 0 (rws (fun n => [V.int .i64 n]) v4_2284).length, V.int .i64 0]) rfl (.tmp (v := V.ref [7000, 118, 4] 0 (rws (fun n => [V.int .i64 n]) v4_2284).length) rfl (.tmp (v := V.int .i64 0) rfl .nil)) (by exact (.tup (.cons (.own rfl rfl) (.cons (.free rfl) .nil)))) (by simp) (.inr rfl)
     ·skip
      refine SafeOps.inline E_good rfl rfl rfl rfl rfl Try.func54 rfl (fun _ _ => Try.call54 _ _) rfl ?_
      repeat (first | refine sq ?_ | refine sk ?_ | with_reducible first | refine tn ?_ | refine bn ?_)
      refine Safe.region ?_
      refine Qf E_good ?_
      refine SafeOps.nil ?_
      repeat (first | refine sq ?_ | refine sk ?_ | with_reducible first | refine tn ?_ | refine bn ?_)
      refine Safe.region ?_
      refine Qf E_good ?_
      refine Q0 E_good rfl (v := V.bool (!((decide (x_2236 ≥ 0)) && (decide (x_2236 ≤ 1099511627776))))) (.fn rfl) ?_
      refine SafeOps.nil ?_
      repeat (first | refine sq ?_ | refine sk ?_ | with_reducible first | refine tn ?_ | refine bn ?_)
      refine ifG h (fun hc2305 h => ?_) (fun hc2305 h => ?_)
      ·skip
       refine Safe.condK rfl hc2305 ?_
       repeat (first | refine sq ?_ | refine sk ?_ | with_reducible first | refine tn ?_ | refine bn ?_)
       refine Safe.region ?_
       refine Qf E_good ?_
       refine Q0 E_good rfl (v := V.ptr [20] 0 0) (.fn rfl) ?_
       refine Q0 E_good rfl (v := V.ptr [20] 0 10) (.fn rfl) ?_
       refine SafeOps.store (z := Obj.box [V.int .i64 0, V.int .i64 0, V.int .i64 0, V.int .i64 0, V.int .i64 0, V.bool false, V.int .i64 0, V.sl 1 (rws (fun n => [V.int .i64 n]) a0_2055), V.int .i64 a1_2056.Base, V.int .i64 a1_2056.Cap, V.int .i64 9]) E_good rfl rfl rfl rfl rfl rfl rfl (.boxM (c := 11) rfl rfl (Nat.le_of_ble_eq_true rfl) rfl) ?_
       refine SafeOps.nil ?_
       repeat (first | refine sq ?_ | refine sk ?_ | with_reducible first | refine tn ?_ | refine bn ?_)
       refine Safe.region ?_
       refine Qf E_good ?_
       refine Qf E_good ?_
       refine SafeOps.nil ?_
       repeat (first | refine sq ?_ | refine sk ?_ | with_reducible first | refine tn ?_ | refine bn ?_)
       refine Safe.ret ?_
       repeat (first | with_reducible refine thenQ.r ?_ | with_reducible refine blockQ.r ?_)
       refine inQ.gen (vs := [V.bool ((decide (x_2236 ≥ 0)) && (decide (x_2236 ≤ 1099511627776)))]) (v := V.bool ((decide (x_2236 ≥ 0)) && (decide (x_2236 ≤ 1099511627776)))) (.inr rfl) rfl (.tmp (v := V.bool ((decide (x_2236 ≥ 0)) && (decide (x_2236 ≤ 1099511627776)))) rfl .nil) rfl ?_
       exact SafeOps.got (HJ2245 (9) h) (.cov ⟨rfl, rfl, (ut upT_nil), (uo (uo upOb_nil)), (upOut_cons rfl (ut (ut (ut (ut upT_nil)))) upOut_nil), rfl⟩)
      ·skip
       refine Safe.condN rfl hc2305 ?_
       repeat (first | refine sq ?_ | refine sk ?_ | with_reducible first | refine tn ?_ | refine bn ?_)
       refine Safe.region ?_
       refine Qf E_good ?_
       refine Qf E_good ?_
       refine SafeOps.nil ?_
       repeat (first | refine sq ?_ | refine sk ?_ | with_reducible first | refine tn ?_ | refine bn ?_)
       refine Safe.ret ?_
       repeat (first | with_reducible refine thenQ.r ?_ | with_reducible refine blockQ.r ?_)
       refine inQ.gen (vs := [V.bool ((decide (x_2236 ≥ 0)) && (decide (x_2236 ≤ 1099511627776)))]) (v := V.bool ((decide (x_2236 ≥ 0)) && (decide (x_2236 ≤ 1099511627776)))) (.inr rfl) rfl (.tmp (v := V.bool ((decide (x_2236 ≥ 0)) && (decide (x_2236 ≤ 1099511627776)))) rfl .nil) rfl ?_
       exact SafeOps.got (HJ2245 (v2010_2240) h) (.cov ⟨rfl, rfl, (ut upT_nil), (uo (uo upOb_nil)), (upOut_cons rfl (ut (ut (ut (ut upT_nil)))) upOut_nil), rfl⟩)
    ·skip
     refine SafeOps.inline E_good rfl rfl rfl rfl rfl Try.func54 rfl (fun _ _ => Try.call54 _ _) rfl ?_
     repeat (first | refine sq ?_ | refine sk ?_ | with_reducible first | refine tn ?_ | refine bn ?_)
     refine Safe.region ?_
     refine Qf E_good ?_
     refine SafeOps.nil ?_
     repeat (first | refine sq ?_ | refine sk ?_ | with_reducible first | refine tn ?_ | refine bn ?_)
     refine Safe.region ?_
     refine Qf E_good ?_
     refine Q0 E_good rfl (v := V.bool (!(x_2237 == 0))) (.fn rfl) ?_
     refine SafeOps.nil ?_
     repeat (first | refine sq ?_ | refine sk ?_ | with_reducible first | refine tn ?_ | refine bn ?_)
     refine ifG h (fun hc2306 h => ?_) (fun hc2306 h => ?_)
     ·skip
      refine Safe.condK rfl hc2306 ?_
      repeat (first | refine sq ?_ | refine sk ?_ | with_reducible first | refine tn ?_ | refine bn ?_)
      refine Safe.region ?_
      refine Qf E_good ?_
      refine Q0 E_good rfl (v := V.ptr [20] 0 0) (.fn rfl) ?_
      refine Q0 E_good rfl (v := V.ptr [20] 0 10) (.fn rfl) ?_
      refine SafeOps.store (z := Obj.box [V.int .i64 0, V.int .i64 0, V.int .i64 0, V.int .i64 0, V.int .i64 0, V.bool false, V.int .i64 0, V.sl 1 (rws (fun n => [V.int .i64 n]) a0_2055), V.int .i64 a1_2056.Base, V.int .i64 a1_2056.Cap, V.int .i64 9]) E_good rfl rfl rfl rfl rfl rfl rfl (.boxM (c := 11) rfl rfl (Nat.le_of_ble_eq_true rfl) rfl) ?_
      refine SafeOps.nil ?_
      repeat (first | refine sq ?_ | refine sk ?_ | with_reducible first | refine tn ?_ | refine bn ?_)
      refine Safe.region ?_
      refine Qf E_good ?_
      refine Qf E_good ?_
      refine SafeOps.nil ?_
      repeat (first | refine sq ?_ | refine sk ?_ | with_reducible first | refine tn ?_ | refine bn ?_)
      refine Safe.ret ?_
      repeat (first | with_reducible refine thenQ.r ?_ | with_reducible refine blockQ.r ?_)
      refine inQ.gen (vs := [V.bool (x_2237 == 0)]) (v := V.bool (x_2237 == 0)) (.inr rfl) rfl (.tmp (v := V.bool (x_2237 == 0)) rfl .nil) rfl ?_
      exact SafeOps.got (HJ2241 (9) h) (.cov ⟨rfl, rfl, (ut upT_nil), (uo (uo upOb_nil)), (upOut_cons rfl (ut (ut upT_nil)) (upOut_cons rfl (ut (ut (ut (ut upT_nil)))) upOut_nil)), rfl⟩)
     ·skip
      refine Safe.condN rfl hc2306 ?_
      repeat (first | refine sq ?_ | refine sk ?_ | with_reducible first | refine tn ?_ | refine bn ?_)
      refine Safe.region ?_
      refine Qf E_good ?_
      refine Qf E_good ?_
      refine SafeOps.nil ?_
      repeat (first | refine sq ?_ | refine sk ?_ | with_reducible first | refine tn ?_ | refine bn ?_)
      refine Safe.ret ?_
      repeat (first | with_reducible refine thenQ.r ?_ | with_reducible refine blockQ.r ?_)
      refine inQ.gen (vs := [V.bool (x_2237 == 0)]) (v := V.bool (x_2237 == 0)) (.inr rfl) rfl (.tmp (v := V.bool (x_2237 == 0)) rfl .nil) rfl ?_
      exact SafeOps.got (HJ2241 (v2010_2212) h) (.cov ⟨rfl, rfl, (ut upT_nil), (uo (uo upOb_nil)), (upOut_cons rfl (ut (ut upT_nil)) (upOut_cons rfl (ut (ut (ut (ut upT_nil)))) upOut_nil)), rfl⟩)
   ·skip
    refine SafeOps.inline E_good rfl rfl rfl rfl rfl Try.func54 rfl (fun _ _ => Try.call54 _ _) rfl ?_
    repeat (first | refine sq ?_ | refine sk ?_ | with_reducible first | refine tn ?_ | refine bn ?_)
    refine Safe.region ?_
    refine Qf E_good ?_
    refine SafeOps.nil ?_
    repeat (first | refine sq ?_ | refine sk ?_ | with_reducible first | refine tn ?_ | refine bn ?_)
    refine Safe.region ?_
    refine Qf E_good ?_
    refine Q0 E_good rfl (v := V.bool (!((decide (x_2204 ≥ 0)) && (decide (x_2204 ≤ 1099511627776))))) (.fn rfl) ?_
    refine SafeOps.nil ?_
    repeat (first | refine sq ?_ | refine sk ?_ | with_reducible first | refine tn ?_ | refine bn ?_)
    refine ifG h (fun hc2307 h => ?_) (fun hc2307 h => ?_)
    ·skip
     refine Safe.condK rfl hc2307 ?_
     repeat (first | refine sq ?_ | refine sk ?_ | with_reducible first | refine tn ?_ | refine bn ?_)
     refine Safe.region ?_
     refine Qf E_good ?_
     refine Q0 E_good rfl (v := V.ptr [20] 0 0) (.fn rfl) ?_
     refine Q0 E_good rfl (v := V.ptr [20] 0 10) (.fn rfl) ?_
     refine SafeOps.store (z := Obj.box [V.int .i64 0, V.int .i64 0, V.int .i64 0, V.int .i64 0, V.int .i64 0, V.bool false, V.int .i64 0, V.sl 1 (rws (fun n => [V.int .i64 n]) a0_2055), V.int .i64 a1_2056.Base, V.int .i64 a1_2056.Cap, V.int .i64 9]) E_good rfl rfl rfl rfl rfl rfl rfl (.boxM (c := 11) rfl rfl (Nat.le_of_ble_eq_true rfl) rfl) ?_
     refine SafeOps.nil ?_
     repeat (first | refine sq ?_ | refine sk ?_ | with_reducible first | refine tn ?_ | refine bn ?_)
     refine Safe.region ?_
     refine Qf E_good ?_
     refine Qf E_good ?_
     refine SafeOps.nil ?_
     repeat (first | refine sq ?_ | refine sk ?_ | with_reducible first | refine tn ?_ | refine bn ?_)
     refine Safe.ret ?_
     repeat (first | with_reducible refine thenQ.r ?_ | with_reducible refine blockQ.r ?_)
     refine inQ.gen (vs := [V.bool ((decide (x_2204 ≥ 0)) && (decide (x_2204 ≤ 1099511627776)))]) (v := V.bool ((decide (x_2204 ≥ 0)) && (decide (x_2204 ≤ 1099511627776)))) (.inr rfl) rfl (.tmp (v := V.bool ((decide (x_2204 ≥ 0)) && (decide (x_2204 ≤ 1099511627776)))) rfl .nil) rfl ?_
     exact SafeOps.got (HJ2213 (9) h) (.cov ⟨rfl, rfl, (ut upT_nil), (uo (uo upOb_nil)), (upOut_cons rfl (ut (ut (ut upT_nil))) upOut_nil), rfl⟩)
    ·skip
     refine Safe.condN rfl hc2307 ?_
     repeat (first | refine sq ?_ | refine sk ?_ | with_reducible first | refine tn ?_ | refine bn ?_)
     refine Safe.region ?_
     refine Qf E_good ?_
     refine Qf E_good ?_
     refine SafeOps.nil ?_
     repeat (first | refine sq ?_ | refine sk ?_ | with_reducible first | refine tn ?_ | refine bn ?_)
     refine Safe.ret ?_
     repeat (first | with_reducible refine thenQ.r ?_ | with_reducible refine blockQ.r ?_)
     refine inQ.gen (vs := [V.bool ((decide (x_2204 ≥ 0)) && (decide (x_2204 ≤ 1099511627776)))]) (v := V.bool ((decide (x_2204 ≥ 0)) && (decide (x_2204 ≤ 1099511627776)))) (.inr rfl) rfl (.tmp (v := V.bool ((decide (x_2204 ≥ 0)) && (decide (x_2204 ≤ 1099511627776)))) rfl .nil) rfl ?_
     exact SafeOps.got (HJ2213 (v2010_2208) h) (.cov ⟨rfl, rfl, (ut upT_nil), (uo (uo upOb_nil)), (upOut_cons rfl (ut (ut (ut upT_nil))) upOut_nil), rfl⟩)
  ·skip
   refine SafeOps.inline E_good rfl rfl rfl rfl rfl Try.func54 rfl (fun _ _ => Try.call54 _ _) rfl ?_
   repeat (first | refine sq ?_ | refine sk ?_ | with_reducible first | refine tn ?_ | refine bn ?_)
   refine Safe.region ?_
   refine Qf E_good ?_
   refine SafeOps.nil ?_
   repeat (first | refine sq ?_ | refine sk ?_ | with_reducible first | refine tn ?_ | refine bn ?_)
   refine Safe.region ?_
   refine Qf E_good ?_
   refine Q0 E_good rfl (v := V.bool (!(x_2205 == 0))) (.fn rfl) ?_
   refine SafeOps.nil ?_
   repeat (first | refine sq ?_ | refine sk ?_ | with_reducible first | refine tn ?_ | refine bn ?_)
   refine ifG h (fun hc2308 h => ?_) (fun hc2308 h => ?_)
   ·skip
    refine Safe.condK rfl hc2308 ?_
    repeat (first | refine sq ?_ | refine sk ?_ | with_reducible first | refine tn ?_ | refine bn ?_)
    refine Safe.region ?_
    refine Qf E_good ?_
    refine Q0 E_good rfl (v := V.ptr [20] 0 0) (.fn rfl) ?_
    refine Q0 E_good rfl (v := V.ptr [20] 0 10) (.fn rfl) ?_
    refine SafeOps.store (z := Obj.box [V.int .i64 0, V.int .i64 0, V.int .i64 0, V.int .i64 0, V.int .i64 0, V.bool false, V.int .i64 0, V.sl 1 (rws (fun n => [V.int .i64 n]) a0_2055), V.int .i64 a1_2056.Base, V.int .i64 a1_2056.Cap, V.int .i64 9]) E_good rfl rfl rfl rfl rfl rfl rfl (.boxM (c := 11) rfl rfl (Nat.le_of_ble_eq_true rfl) rfl) ?_
    refine SafeOps.nil ?_
    repeat (first | refine sq ?_ | refine sk ?_ | with_reducible first | refine tn ?_ | refine bn ?_)
    refine Safe.region ?_
    refine Qf E_good ?_
    refine Qf E_good ?_
    refine SafeOps.nil ?_
    repeat (first | refine sq ?_ | refine sk ?_ | with_reducible first | refine tn ?_ | refine bn ?_)
    refine Safe.ret ?_
    repeat (first | with_reducible refine thenQ.r ?_ | with_reducible refine blockQ.r ?_)
    refine inQ.gen (vs := [V.bool (x_2205 == 0)]) (v := V.bool (x_2205 == 0)) (.inr rfl) rfl (.tmp (v := V.bool (x_2205 == 0)) rfl .nil) rfl ?_
    exact SafeOps.got (HJ2209 (9) h) (.cov ⟨rfl, rfl, (ut upT_nil), (uo (uo upOb_nil)), (upOut_cons rfl (ut (ut upT_nil)) (upOut_cons rfl (ut (ut (ut upT_nil))) upOut_nil)), rfl⟩)
   ·skip
    refine Safe.condN rfl hc2308 ?_
    repeat (first | refine sq ?_ | refine sk ?_ | with_reducible first | refine tn ?_ | refine bn ?_)
    refine Safe.region ?_
    refine Qf E_good ?_
    refine Qf E_good ?_
    refine SafeOps.nil ?_
    repeat (first | refine sq ?_ | refine sk ?_ | with_reducible first | refine tn ?_ | refine bn ?_)
    refine Safe.ret ?_
    repeat (first | with_reducible refine thenQ.r ?_ | with_reducible refine blockQ.r ?_)
    refine inQ.gen (vs := [V.bool (x_2205 == 0)]) (v := V.bool (x_2205 == 0)) (.inr rfl) rfl (.tmp (v := V.bool (x_2205 == 0)) rfl .nil) rfl ?_
    exact SafeOps.got (HJ2209 (0) h) (.cov ⟨rfl, rfl, (ut upT_nil), (uo (uo upOb_nil)), (upOut_cons rfl (ut (ut upT_nil)) (upOut_cons rfl (ut (ut (ut upT_nil))) upOut_nil)), rfl⟩)

def go_ravelref01_Check (a0_2316 : List Int) : Int :=
 if (decide ((a0_2316.length : Int) > 65536)) = true then
  1
 else
  0

def go_ravelref07_Check (a0_2314 : List Int) (a1_2315 : api_Deque) : Int :=
 if (((((((go_ravelref01_Check a0_2314) != 0) || (decide (a1_2315.Cap < 1))) || (decide (a1_2315.Cap > 1024))) || (decide (a1_2315.Base < 0))) || (decide (a1_2315.Base > (a0_2314.length : Int)))) || (decide ((IntKind.i64.wrap ((a0_2314.length : Int) - a1_2315.Base)) < (IntKind.i64.wrap (a1_2315.Cap + 2))))) = true then
  1
 else
  0

def go_ravelref07_count (a0_2335 : Int) (a1_2336 : Int) : Bool :=
 ((decide (a0_2335 ≥ a1_2336)) && (decide (a0_2335 ≤ 1099511627776)))

noncomputable def go_ravelref07_slot (a0_2344 : api_Deque) (a1_2345 : Int) : Option Int :=
 if a0_2344.Cap ≠ 0 then
  some (IntKind.i64.wrap ((IntKind.i64.wrap (a0_2344.Base + 2)) + (Int.tmod a1_2345 a0_2344.Cap)))
 else none

noncomputable def go_ravelref07_List_s1 (a0_2312 : List Int) (a1_2313 : api_Deque) : ((List Int) × Int) → Option (((List Int) × Int) ⊕ ((List Int) × Int))
 | (v8_2386, v9_2387) =>
  if (decide (v9_2387 < (gt a0_2312 (IntKind.i64.wrap (a1_2313.Base + 1))))) = true then
   (go_ravelref07_slot a1_2313 v9_2387).bind fun x_2390 =>
   if 0 ≤ x_2390 ∧ x_2390 < (a0_2312.length : Int) then
    if few (v8_2386 ++ [(gt a0_2312 x_2390)]).length then
     nextO (v8_2386 ++ [(gt a0_2312 x_2390)], IntKind.i64.wrap (v9_2387 + 1))
    else none
   else none
  else
   inrO (
    some (v8_2386, 0))

noncomputable def go_ravelref07_List (a0_2312 : List Int) (a1_2313 : api_Deque) : Option ((List Int) × Int) :=
 if ((go_ravelref07_Check a0_2312 a1_2313) != 0) = true then
  some ([], 1)
 else
  if 0 ≤ a1_2313.Base ∧ a1_2313.Base < (a0_2312.length : Int) then
   if 0 ≤ (IntKind.i64.wrap (a1_2313.Base + 1)) ∧ (IntKind.i64.wrap (a1_2313.Base + 1)) < (a0_2312.length : Int) then
    if ((((!(go_ravelref07_count (gt a0_2312 a1_2313.Base) 0)) || (!(go_ravelref07_count (gt a0_2312 (IntKind.i64.wrap (a1_2313.Base + 1))) 0))) || (decide ((gt a0_2312 (IntKind.i64.wrap (a1_2313.Base + 1))) < (gt a0_2312 a1_2313.Base)))) || (decide ((IntKind.i64.wrap ((gt a0_2312 (IntKind.i64.wrap (a1_2313.Base + 1))) - (gt a0_2312 a1_2313.Base))) > a1_2313.Cap))) = true then
     some ([], 9)
    else
     whileO (go_ravelref07_List_s1 a0_2312 a1_2313) ([], (gt a0_2312 a1_2313.Base))
   else none
  else none

noncomputable def go_ravelref01_Same_s1 (a0_2398 : List Int) (a1_2399 : List Int) : (Int) → Option ((Int) ⊕ (Bool))
 | v13_2428 =>
  if (decide (v13_2428 < (a0_2398.length : Int))) = true then
   if 0 ≤ v13_2428 ∧ v13_2428 < (a0_2398.length : Int) then
    if 0 ≤ v13_2428 ∧ v13_2428 < (a1_2399.length : Int) then
     if ((gt a0_2398 v13_2428) != (gt a1_2399 v13_2428)) = true then
      inrO (
       some false)
     else
      nextO (IntKind.i64.wrap (v13_2428 + 1))
    else none
   else none
  else
   inrO (
    some true)

noncomputable def go_ravelref01_Same (a0_2398 : List Int) (a1_2399 : List Int) : Option Bool :=
 if ((a0_2398.length : Int) != (a1_2399.length : Int)) = true then
  some false
 else
  whileO (go_ravelref01_Same_s1 a0_2398 a1_2399) 0

theorem go_ravelref01_Same_sc (a0_2398 : List Int) (a1_2399 : List Int) (r : Bool) (h : go_ravelref01_Same a0_2398 a1_2399 = some r) : SC Try.prog gl 14 [V.sl 1 (rws (fun n => [V.int .i64 n]) a0_2398), V.sl 1 (rws (fun n => [V.int .i64 n]) a1_2399)] (V.bool r) := by
 rw [go_ravelref01_Same] at h
 refine SC.of E_good Try.func14 rfl (fun _ _ => Try.call14 _ _) rfl ?_
 repeat (first | refine sq ?_ | refine sk ?_ | with_reducible first | refine tn ?_ | refine bn ?_)
 refine Safe.region ?_
 refine Qf E_good ?_
 refine SafeOps.nil ?_
 repeat (first | refine sq ?_ | refine sk ?_ | with_reducible first | refine tn ?_ | refine bn ?_)
 refine Safe.region ?_
 refine Qf E_good ?_
 refine Q0 E_good rfl (v := V.int .i64 (a0_2398.length : Int)) (.fnE rfl lenE) ?_
 refine Qf E_good ?_
 refine Q0 E_good rfl (v := V.int .i64 (a1_2399.length : Int)) (.fnE rfl lenE) ?_
 refine Q0 E_good rfl (v := V.bool ((a0_2398.length : Int) != (a1_2399.length : Int))) (.fn rfl) ?_
 refine SafeOps.nil ?_
 repeat (first | refine sq ?_ | refine sk ?_ | with_reducible first | refine tn ?_ | refine bn ?_)
 refine ifG h (fun hc2418 h => ?_) (fun hc2418 h => ?_)
 ·skip
  refine Safe.condK rfl hc2418 ?_
  repeat (first | refine sq ?_ | refine sk ?_ | with_reducible first | refine tn ?_ | refine bn ?_)
  refine Safe.region ?_
  refine Qf E_good ?_
  refine SafeOps.nil ?_
  repeat (first | refine sq ?_ | refine sk ?_ | with_reducible first | refine tn ?_ | refine bn ?_)
  refine Safe.ret ?_
  repeat (first | with_reducible refine thenQ.r ?_ | with_reducible refine blockQ.r ?_)
  obtain rfl := Option.some.inj h
  exact retQ.gen (vs := [V.bool false]) rfl (.tmp (v := V.bool false) rfl .nil) (.free rfl) (by simp) (.inr rfl)
 ·skip
  refine Safe.condN rfl hc2418 ?_
  repeat (first | refine sq ?_ | refine sk ?_ | with_reducible first | refine tn ?_ | refine bn ?_)
  refine Safe.region ?_
  refine Qf E_good ?_
  refine Q0 E_good rfl (v := V.int .i64 (a0_2398.length : Int)) (.fnE rfl lenE) ?_
  refine Qf E_good ?_
  refine SafeOps.nil ?_
  repeat (first | refine sq ?_ | refine sk ?_ | with_reducible first | refine tn ?_ | refine bn ?_)
  refine Safe.block ?_
  repeat (first | refine sq ?_ | refine sk ?_ | with_reducible first | refine tn ?_ | refine bn ?_)
  refine Safe.loopW (fun (v13_2428 : Int) => ⟨Try.f14.ntmps, [(0, V.sl 1 (rws (fun n => [V.int .i64 n]) a0_2398)), (1, V.sl 1 (rws (fun n => [V.int .i64 n]) a1_2399)), (12, V.int .i64 (a0_2398.length : Int)), (13, V.int .i64 v13_2428)], [], [], []⟩) h (.cov ⟨rfl, rfl, (ut (ut (ut (ut upT_nil)))), upOb_nil, upOut_nil, rfl⟩) ?_
  intro v13_2428 ohr2429 h hr2429
  replace h : go_ravelref01_Same_s1 a0_2398 a1_2399 v13_2428 = some ohr2429 := h
  rw [go_ravelref01_Same_s1] at h
  repeat (first | refine sq ?_ | refine sk ?_ | with_reducible first | refine tn ?_ | refine bn ?_)
  refine Safe.region ?_
  refine Q0 E_good rfl (v := V.bool (decide (v13_2428 < (a0_2398.length : Int)))) (.fn rfl) ?_
  refine SafeOps.nil ?_
  repeat (first | refine sq ?_ | refine sk ?_ | with_reducible first | refine tn ?_ | refine bn ?_)
  refine ifG h (fun hc2430 h => ?_) (fun hc2430 h => ?_)
  ·skip
   refine Safe.condK rfl hc2430 ?_
   repeat (first | refine sq ?_ | refine sk ?_ | with_reducible first | refine tn ?_ | refine bn ?_)
   refine Safe.block ?_
   repeat (first | refine sq ?_ | refine sk ?_ | with_reducible first | refine tn ?_ | refine bn ?_)
   refine Safe.region ?_
   refine Qf E_good ?_
   refine Qf E_good ?_
   refine SafeOps.nil ?_
   repeat (first | refine sq ?_ | refine sk ?_ | with_reducible first | refine tn ?_ | refine bn ?_)
   refine Safe.regionD (n := 9) [] [] E_good mixed rfl ?_
   refine DT 0 [] rfl rfl (fun _ hz => (.fn rfl)) ?_
   refine DT 1 [] rfl rfl (fun _ hz => (.fn rfl)) ?_
   refine okG h (fun hb2431 h => ?_)
   refine DT 2 [] rfl rfl (v := V.spt 1 (rws (fun n => [V.int .i64 n]) a0_2398) (Int.toNat v13_2428) 0) (fun _ hz => (.idxSlM (f := (fun n => [V.int .i64 n])) rfl rfl rfl rfl rfl hb2431)) ?_
   refine DT 3 [] rfl rfl (v := V.int .i64 (gt a0_2398 v13_2428)) (fun _ hz => (.load rfl rfl (.sptM (f := (fun n => [V.int .i64 n])) hb2431 rfl) rfl)) ?_
   refine DT 4 [] rfl rfl (fun _ hz => (.fn rfl)) ?_
   refine DT 5 [] rfl rfl (fun _ hz => (.fn rfl)) ?_
   refine okG h (fun hb2432 h => ?_)
   refine DT 6 [] rfl rfl (v := V.spt 1 (rws (fun n => [V.int .i64 n]) a1_2399) (Int.toNat v13_2428) 0) (fun _ hz => (.idxSlM (f := (fun n => [V.int .i64 n])) rfl rfl rfl rfl rfl hb2432)) ?_
   refine DT 7 [] rfl rfl (v := V.int .i64 (gt a1_2399 v13_2428)) (fun _ hz => (.load rfl rfl (.sptM (f := (fun n => [V.int .i64 n])) hb2432 rfl) rfl)) ?_
   refine DT 8 [] rfl rfl (v := V.bool ((gt a0_2398 v13_2428) != (gt a1_2399 v13_2428))) (fun _ hz => (.fn rfl)) ?_
   refine DAny.nil (by kernel_rfl) ?_
   repeat (first | refine sq ?_ | refine sk ?_ | with_reducible first | refine tn ?_ | refine bn ?_)
   refine ifG h (fun hc2433 h => ?_) (fun hc2433 h => ?_)
   ·skip
    refine Safe.condK rfl hc2433 ?_
    repeat (first | refine sq ?_ | refine sk ?_ | with_reducible first | refine tn ?_ | refine bn ?_)
    refine Safe.region ?_
    refine Qf E_good ?_
    refine SafeOps.nil ?_
    repeat (first | refine sq ?_ | refine sk ?_ | with_reducible first | refine tn ?_ | refine bn ?_)
    refine Safe.ret ?_
    repeat (first | with_reducible refine thenQ.r ?_ | with_reducible refine blockQ.r ?_)
    replace h := inr_out h hr2429
    obtain rfl := Option.some.inj h
    exact retQ.gen (vs := [V.bool false]) rfl (.tmp (v := V.bool false) rfl .nil) (.free rfl) (by simp) (.inr rfl)
   ·skip
    refine Safe.condN rfl hc2433 ?_
    repeat (first | refine sq ?_ | refine sk ?_ | with_reducible first | refine tn ?_ | refine bn ?_)
    refine Safe.region ?_
    refine Q0 E_good rfl (v := V.int .i64 (IntKind.i64.wrap (v13_2428 + 1))) (.fn rfl) ?_
    refine Qf E_good ?_
    refine SafeOps.nil ?_
    repeat (first | refine sq ?_ | refine sk ?_ | with_reducible first | refine tn ?_ | refine bn ?_)
    exact ⟨_, next_out h, (.cov ⟨rfl, rfl, (ut (ut (ut (ut upT_nil)))), upOb_nil, upOut_nil, rfl⟩)⟩
  ·skip
   refine Safe.condN rfl hc2430 ?_
   repeat (first | refine sq ?_ | refine sk ?_ | with_reducible first | refine tn ?_ | refine bn ?_)
   refine Safe.exit ?_
   repeat (first | with_reducible refine thenQ.e ?_ | with_reducible refine blockQ.x rfl ?_ | with_reducible refine blockQ.y rfl ?_)
   replace h := inr_out h hr2429
   repeat (first | refine sq ?_ | refine sk ?_ | with_reducible first | refine tn ?_ | refine bn ?_)
   refine Safe.region ?_
   refine Qf E_good ?_
   refine SafeOps.nil ?_
   repeat (first | refine sq ?_ | refine sk ?_ | with_reducible first | refine tn ?_ | refine bn ?_)
   refine Safe.ret ?_
   repeat (first | with_reducible refine thenQ.r ?_ | with_reducible refine blockQ.r ?_)
   obtain rfl := Option.some.inj h
   exact retQ.gen (vs := [V.bool true]) rfl (.tmp (v := V.bool true) rfl .nil) (.free rfl) (by simp) (.inr rfl)

def go_ravelref07_pcs (a0_2473 : Int) : Int :=
 if ((a0_2473 == 1) || (a0_2473 == 3)) = true then
  4
 else
  if (a0_2473 == 2) = true then
   7
  else
   0

def go_ravelref07_May (a0_2471 : api_Hand) : Bool :=
 if (decide (a0_2471.Pc ≥ 0)) = true then
  if (decide (a0_2471.Pc < (go_ravelref07_pcs a0_2471.Kind))) = true then
   if (go_ravelref07_count a0_2471.T (-1)) = true then
    if (go_ravelref07_count a0_2471.B (-1)) = true then
     if (decide (a0_2471.State ≥ 0)) = true then
      decide (a0_2471.State ≤ 4)
     else
      false
    else
     false
   else
    false
  else
   false
 else
  false

def go_ravelref07_at (a0_2503 : api_Hand) (a1_2504 : Int) : api_Hand :=
 (api_Hand.mk a0_2503.Kind a1_2504 a0_2503.V a0_2503.T a0_2503.B a0_2503.Won a0_2503.State)

def go_ravelref07_ended (a0_2514 : api_Hand) (a1_2515 : Int) : api_Hand :=
 (api_Hand.mk a0_2514.Kind a0_2514.Pc a0_2514.V a0_2514.T a0_2514.B a0_2514.Won a1_2515)

noncomputable def go_ravelref01_With (a0_2539 : List Int) (a1_2540 : Int) (a2_2541 : Int) : Option (List Int) :=
 if few ([] ++ a0_2539).length then
  if 0 ≤ a1_2540 ∧ a1_2540 < (([] ++ a0_2539).length : Int) then
   some (st ([] ++ a0_2539) a1_2540 a2_2541)
  else none
 else none

end Go.Proofs.Ytoapmmcoaggekaa
