/- Helper lemmas for the claim's theorem: an abstract machine over the model, proved sound; no condition beyond each lemma's own. -/
import Derived.Test.YtoapmmcoaggekaaT1
set_option linter.unusedVariables false
set_option linter.unusedSimpArgs false
set_option linter.unnecessarySimpa false
set_option linter.unusedSectionVars false
namespace Go.Proofs.Ytoapmmcoaggekaa
open Go Go.AM
set_option maxRecDepth 100000
set_option maxHeartbeats 1000000
set_option linter.unusedVariables false
set_option linter.unusedSimpArgs false
variable {gl : List (Nat × List V)}
noncomputable def go_ring_Solo_s2 (a1_21 : api_Deque) : ((List Int) × Int × Int × Int × Int × Int × Bool × Int) → Option (((List Int) × Int × Int × Int × Int × Int × Bool × Int) ⊕ ((List Int) × api_Hand × Int))
 | (v0_1959, v50_1960, v51_1961, v52_1962, v53_1963, v54_1964, v55_1965, v56_1966) =>
  if (v56_1966 == 0) = true then
   (go_ring_Step v0_1959 a1_21 (api_Hand.mk v50_1960 v51_1961 v52_1962 v53_1963 v54_1964 v55_1965 v56_1966)).bind fun (x_1969, x_1970, x_1971) =>
   if (x_1971 != 0) = true then
    inrO (
     some ([], api_Hand.zero, x_1971))
   else
    nextO (x_1969, x_1970.Kind, x_1970.Pc, x_1970.V, x_1970.T, x_1970.B, x_1970.Won, x_1970.State)
  else
   inrO (
    some (v0_1959, (api_Hand.mk v50_1960 v51_1961 v52_1962 v53_1963 v54_1964 v55_1965 v56_1966), 0))

noncomputable def go_ring_Solo (a0_20 : List Int) (a1_21 : api_Deque) (a2_22 : api_Hand) : Option ((List Int) × api_Hand × Int) :=
 if (((go_ring_Check a0_20 a1_21) != 0) || (!(go_ring_may a2_22))) = true then
  some ([], api_Hand.zero, 1)
 else
  if few ([] ++ a0_20).length then
   whileO (go_ring_Solo_s2 a1_21) ([] ++ a0_20, a2_22.Kind, a2_22.Pc, a2_22.V, a2_22.T, a2_22.B, a2_22.Won, a2_22.State)
  else none

theorem go_ring_Solo_sc (a0_20 : List Int) (a1_21 : api_Deque) (a2_22 : api_Hand) (r : (List Int) × api_Hand × Int) (h : go_ring_Solo a0_20 a1_21 a2_22 = some r) : SC Try.prog gl 10 [V.sl 1 (rws (fun n => [V.int .i64 n]) a0_20), V.agg [V.int .i64 a1_21.Base, V.int .i64 a1_21.Cap], V.agg [V.int .i64 a2_22.Kind, V.int .i64 a2_22.Pc, V.int .i64 a2_22.V, V.int .i64 a2_22.T, V.int .i64 a2_22.B, V.bool a2_22.Won, V.int .i64 a2_22.State]] (V.tup [V.own 1 (rws (fun n => [V.int .i64 n]) r.1), V.agg [V.int .i64 r.2.1.Kind, V.int .i64 r.2.1.Pc, V.int .i64 r.2.1.V, V.int .i64 r.2.1.T, V.int .i64 r.2.1.B, V.bool r.2.1.Won, V.int .i64 r.2.1.State], V.int .i64 r.2.2]) := by
 rw [go_ring_Solo] at h
 refine SC.of E_good Try.func10 rfl (fun _ _ => Try.call10 _ _) rfl ?_
 repeat (first | refine sq ?_ | refine sk ?_ | with_reducible first | refine tn ?_ | refine bn ?_)
 refine Safe.region ?_
 refine SafeOps.quiet1 E_good rfl rfl rfl (.box rfl rfl) rfl ?_
 refine SafeOps.quiet1 E_good rfl rfl rfl (.box rfl rfl) rfl ?_
 refine Qf E_good ?_
 refine SafeOps.quiet1 E_good rfl rfl rfl (.alloc rfl rfl) rfl ?_
 refine Qf E_good ?_
 refine SafeOps.nil ?_
 repeat (first | refine sq ?_ | refine sk ?_ | with_reducible first | refine tn ?_ | refine bn ?_)
 refine Safe.region ?_
 refine Qf E_good ?_
 refine Q0 E_good rfl (v := V.agg [V.int .i64 a1_21.Base, V.int .i64 a1_21.Cap]) (.load rfl rfl (.box rfl rfl) rfl) ?_
 refine Q0 E_good rfl (v := V.int .i64 (go_ring_Check a0_20 a1_21)) (.callP rfl rfl (go_ring_Check_sc a0_20 a1_21 _ rfl) rfl) ?_
 refine Q0 E_good rfl (v := V.bool ((go_ring_Check a0_20 a1_21) != 0)) (.fn rfl) ?_
 refine Qf E_good ?_
 refine SafeOps.bjoin 4 20 (b := (((go_ring_Check a0_20 a1_21) != 0) || (!(go_ring_may a2_22)))) (b1 := true) (b0 := (!(go_ring_may a2_22))) (fun hc1901 K => ?_) (fun hc1901 K => ?_) bj_or ?_
 ·skip
  refine SafeOps.skip (congrArg (fun b => some (!b)) hc1901) rfl rfl ?_
  refine SafeOps.skip (congrArg (fun b => some (!b)) hc1901) rfl rfl ?_
  refine SafeOps.skip (congrArg (fun b => some (!b)) hc1901) rfl rfl ?_
  refine Q0 E_good rfl (v := V.bool true) (.pickK rfl hc1901 rfl) ?_
  exact SafeOps.drop' 4 rfl rfl rfl K
 ·skip
  refine SafeOps.quiet0 E_good (congrArg (fun b => some (!b)) hc1901) rfl rfl (v := V.agg [V.int .i64 a2_22.Kind, V.int .i64 a2_22.Pc, V.int .i64 a2_22.V, V.int .i64 a2_22.T, V.int .i64 a2_22.B, V.bool a2_22.Won, V.int .i64 a2_22.State]) (.load rfl rfl (.box rfl rfl) rfl) ?_
  refine SafeOps.quiet0 E_good (congrArg (fun b => some (!b)) hc1901) rfl rfl (v := V.bool (go_ring_may a2_22)) (.callP rfl rfl (go_ring_may_sc a2_22 _ rfl) rfl) ?_
  refine SafeOps.quiet0 E_good (congrArg (fun b => some (!b)) hc1901) rfl rfl (v := V.bool (!(go_ring_may a2_22))) (.fn rfl) ?_
  refine Q0 E_good rfl (v := V.bool (!(go_ring_may a2_22))) (.pickK rfl hc1901 rfl) ?_
  exact SafeOps.drop' 4 rfl rfl rfl K
 refine SafeOps.nil ?_
 repeat (first | refine sq ?_ | refine sk ?_ | with_reducible first | refine tn ?_ | refine bn ?_)
 refine ifG h (fun hc1902 h => ?_) (fun hc1902 h => ?_)
 ·skip
  refine Safe.condK rfl hc1902 ?_
  repeat (first | refine sq ?_ | refine sk ?_ | with_reducible first | refine tn ?_ | refine bn ?_)
  refine Safe.region ?_
  refine Q0 E_good rfl (v := V.agg [V.int .i64 0, V.int .i64 0, V.int .i64 0, V.int .i64 0, V.int .i64 0, V.bool false, V.int .i64 0]) (.fn rfl) ?_
  refine Qf E_good ?_
  refine SafeOps.store (z := Obj.box [V.int .i64 0, V.int .i64 0, V.int .i64 0, V.int .i64 0, V.int .i64 0, V.bool false, V.int .i64 0]) E_good rfl rfl rfl rfl rfl rfl rfl (.boxM (c := 7) rfl rfl (Nat.le_of_ble_eq_true rfl) rfl) ?_
  refine Qf E_good ?_
  refine SafeOps.nil ?_
  repeat (first | refine sq ?_ | refine sk ?_ | with_reducible first | refine tn ?_ | refine bn ?_)
  refine Safe.ret ?_
  repeat (first | with_reducible refine thenQ.r ?_ | with_reducible refine blockQ.r ?_)
  obtain rfl := Option.some.inj h
  exact retQ.gen (vs := [V.nils, V.agg [V.int .i64 0, V.int .i64 0, V.int .i64 0, V.int .i64 0, V.int .i64 0, V.bool false, V.int .i64 0], V.int .i64 1]) rfl (.tmp (v := V.nils) rfl (.cell (v := V.agg [V.int .i64 0, V.int .i64 0, V.int .i64 0, V.int .i64 0, V.int .i64 0, V.bool false, V.int .i64 0]) rfl rfl (.box rfl rfl) rfl (.tmp (v := V.int .i64 1) rfl .nil))) (by exact (.tup (.cons (.nils _) (.cons (.free rfl) (.cons (.free rfl) .nil))))) (by simp) (.inr rfl)
 ·skip
  refine Safe.condN rfl hc1902 ?_
  repeat (first | refine sq ?_ | refine sk ?_ | with_reducible first | refine tn ?_ | refine bn ?_)
  refine Safe.region ?_
  refine Qf E_good ?_
  refine okG h (fun hb1903 h => ?_)
  refine SafeOps.appendM (fun n => [V.int .i64 n]) (xs := []) (ys := a0_20) E_good rfl rfl rfl rfl rfl rfl rfl rfl rfl .nils (.sl _) (fun _ => rfl) hb1903 ?_
  refine Qf E_good ?_
  refine SafeOps.nil ?_
  repeat (first | refine sq ?_ | refine sk ?_ | with_reducible first | refine tn ?_ | refine bn ?_)
  refine Safe.block ?_
  repeat (first | refine sq ?_ | refine sk ?_ | with_reducible first | refine tn ?_ | refine bn ?_)
  refine Safe.loopW (fun ((v0_1959, v50_1960, v51_1961, v52_1962, v53_1963, v54_1964, v55_1965, v56_1966) : (List Int) × Int × Int × Int × Int × Int × Bool × Int) => ⟨Try.f10.ntmps, [(0, V.ref [7000, 118, 0] 0 (rws (fun n => [V.int .i64 n]) v0_1959).length), (4, V.ptr [4] 0 0), (5, V.ptr [5] 0 0), (7, V.ptr [7] 0 0)], [([4], Obj.box [V.int .i64 a1_21.Base, V.int .i64 a1_21.Cap]), ([5], Obj.box [V.int .i64 v50_1960, V.int .i64 v51_1961, V.int .i64 v52_1962, V.int .i64 v53_1963, V.int .i64 v54_1964, V.bool v55_1965, V.int .i64 v56_1966]), ([7], Obj.box [V.int .i64 0, V.int .i64 0, V.int .i64 0, V.int .i64 0, V.int .i64 0, V.bool false, V.int .i64 0]), ([7000, 118, 0], Obj.rows 1 (rws (fun n => [V.int .i64 n]) v0_1959) false)], [], []⟩) h (.ren [23] [7000, 118, 0] (.cov ⟨rfl, rfl, (ut (ut (ut (ut upT_nil)))), (uo (uo (uo (uo upOb_nil)))), upOut_nil, rfl⟩)) ?_
  rintro ⟨v0_1959, v50_1960, v51_1961, v52_1962, v53_1963, v54_1964, v55_1965, v56_1966⟩ ohr1967 h hr1967
  replace h : go_ring_Solo_s2 a1_21 (v0_1959, v50_1960, v51_1961, v52_1962, v53_1963, v54_1964, v55_1965, v56_1966) = some ohr1967 := h
  rw [go_ring_Solo_s2] at h
  repeat (first | refine sq ?_ | refine sk ?_ | with_reducible first | refine tn ?_ | refine bn ?_)
  refine Safe.region ?_
  refine Q0 E_good rfl (v := V.ptr [5] 0 6) (.fn rfl) ?_
  refine Q0 E_good rfl (v := V.int .i64 v56_1966) (.load rfl rfl (.box rfl rfl) rfl) ?_
  refine Q0 E_good rfl (v := V.bool (v56_1966 == 0)) (.fn rfl) ?_
  refine SafeOps.nil ?_
  repeat (first | refine sq ?_ | refine sk ?_ | with_reducible first | refine tn ?_ | refine bn ?_)
  refine ifG h (fun hc1968 h => ?_) (fun hc1968 h => ?_)
  ·skip
   refine Safe.condK rfl hc1968 ?_
   repeat (first | refine sq ?_ | refine sk ?_ | with_reducible first | refine tn ?_ | refine bn ?_)
   refine Safe.block ?_
   repeat (first | refine sq ?_ | refine sk ?_ | with_reducible first | refine tn ?_ | refine bn ?_)
   refine Safe.region ?_
   refine Qf E_good ?_
   refine Q0 E_good rfl (v := V.agg [V.int .i64 a1_21.Base, V.int .i64 a1_21.Cap]) (.load rfl rfl (.box rfl rfl) rfl) ?_
   refine Q0 E_good rfl (v := V.agg [V.int .i64 v50_1960, V.int .i64 v51_1961, V.int .i64 v52_1962, V.int .i64 v53_1963, V.int .i64 v54_1964, V.bool v55_1965, V.int .i64 v56_1966]) (.load rfl rfl (.box rfl rfl) rfl) ?_
   refine bindG h ?_
   rintro ⟨x_1969, x_1970, x_1971⟩ he1972 h
   refine SafeOps.quiet E_good rfl rfl rfl (v := V.tup [V.ref [31, 0] 0 (rws (fun n => [V.int .i64 n]) x_1969).length, V.agg [V.int .i64 x_1970.Kind, V.int .i64 x_1970.Pc, V.int .i64 x_1970.V, V.int .i64 x_1970.T, V.int .i64 x_1970.B, V.bool x_1970.Won, V.int .i64 x_1970.State], V.int .i64 x_1971]) (.callS rfl (.cons (.full rfl rfl) (.cons (.free rfl) (.cons (.free rfl) .nil))) (go_ring_Step_sc v0_1959 a1_21 (api_Hand.mk v50_1960 v51_1961 v52_1962 v53_1963 v54_1964 v55_1965 v56_1966) _ he1972) (.tupL (.cons (.ownM (fun _ => rfl)) (.cons (.aggL (.cons (.plain rfl) (.cons (.plain rfl) (.cons (.plain rfl) (.cons (.plain rfl) (.cons (.plain rfl) (.cons (.plain rfl) (.cons (.plain rfl) .nil)))))))) (.cons (.plain rfl) .nil)))) rfl) rfl ?_
   refine Qf E_good ?_
   refine Qf E_good ?_
   refine Qf E_good ?_
   refine Qf E_good ?_
   refine SafeOps.quiet1 E_good rfl rfl rfl (.alloc rfl rfl) rfl ?_
   refine Qf E_good ?_
   refine SafeOps.store (z := Obj.box [V.int .i64 x_1970.Kind, V.int .i64 x_1970.Pc, V.int .i64 x_1970.V, V.int .i64 x_1970.T, V.int .i64 x_1970.B, V.bool x_1970.Won, V.int .i64 x_1970.State]) E_good rfl rfl rfl rfl rfl rfl rfl (.boxM (c := 7) rfl rfl (Nat.le_of_ble_eq_true rfl) rfl) ?_
   refine Qf E_good ?_
   refine SafeOps.nil ?_
   repeat (first | refine sq ?_ | refine sk ?_ | with_reducible first | refine tn ?_ | refine bn ?_)
   refine Safe.region ?_
   refine Qf E_good ?_
   refine Q0 E_good rfl (v := V.bool (x_1971 != 0)) (.fn rfl) ?_
   refine SafeOps.nil ?_
   repeat (first | refine sq ?_ | refine sk ?_ | with_reducible first | refine tn ?_ | refine bn ?_)
   refine ifG h (fun hc1973 h => ?_) (fun hc1973 h => ?_)
   ·skip
    refine Safe.condK rfl hc1973 ?_
    repeat (first | refine sq ?_ | refine sk ?_ | with_reducible first | refine tn ?_ | refine bn ?_)
    refine Safe.region ?_
    refine Q0 E_good rfl (v := V.agg [V.int .i64 0, V.int .i64 0, V.int .i64 0, V.int .i64 0, V.int .i64 0, V.bool false, V.int .i64 0]) (.fn rfl) ?_
    refine Qf E_good ?_
    refine Qf E_good ?_
    refine SafeOps.store (z := Obj.box [V.int .i64 0, V.int .i64 0, V.int .i64 0, V.int .i64 0, V.int .i64 0, V.bool false, V.int .i64 0]) E_good rfl rfl rfl rfl rfl rfl rfl (.boxM (c := 7) rfl rfl (Nat.le_of_ble_eq_true rfl) rfl) ?_
    refine Qf E_good ?_
    refine SafeOps.nil ?_
    repeat (first | refine sq ?_ | refine sk ?_ | with_reducible first | refine tn ?_ | refine bn ?_)
    refine Safe.ret ?_
    repeat (first | with_reducible refine thenQ.r ?_ | with_reducible refine blockQ.r ?_)
    replace h := inr_out h hr1967
    obtain rfl := Option.some.inj h
    exact retQ.gen (vs := [V.nils, V.agg [V.int .i64 0, V.int .i64 0, V.int .i64 0, V.int .i64 0, V.int .i64 0, V.bool false, V.int .i64 0], V.int .i64 x_1971]) rfl (.tmp (v := V.nils) rfl (.cell (v := V.agg [V.int .i64 0, V.int .i64 0, V.int .i64 0, V.int .i64 0, V.int .i64 0, V.bool false, V.int .i64 0]) rfl rfl (.box rfl rfl) rfl (.tmp (v := V.int .i64 x_1971) rfl .nil))) (by exact (.tup (.cons (.nils _) (.cons (.free rfl) (.cons (.free rfl) .nil))))) (by simp) (.inr rfl)
   ·skip
    refine Safe.condN rfl hc1973 ?_
    repeat (first | refine sq ?_ | refine sk ?_ | with_reducible first | refine tn ?_ | refine bn ?_)
    refine Safe.regionD (n := 4) [(3, [5])] [] E_good mixed rfl ?_
    refine DT 0 [[5]] rfl rfl (fun _ hz => (.fn rfl)) ?_
    refine DT 1 [[5]] rfl rfl (v := V.agg [V.int .i64 x_1970.Kind, V.int .i64 x_1970.Pc, V.int .i64 x_1970.V, V.int .i64 x_1970.T, V.int .i64 x_1970.B, V.bool x_1970.Won, V.int .i64 x_1970.State]) (fun _ hz => (.load rfl rfl (.box (hz _ _ rfl rfl) rfl) rfl)) ?_
    refine DT 2 [[5]] rfl rfl (fun _ hz => (.fn rfl)) ?_
    refine DAny.only (i := 3) rfl (by kernel_rfl) (.store (z := Obj.box [V.int .i64 x_1970.Kind, V.int .i64 x_1970.Pc, V.int .i64 x_1970.V, V.int .i64 x_1970.T, V.int .i64 x_1970.B, V.bool x_1970.Won, V.int .i64 x_1970.State]) rfl rfl rfl rfl rfl rfl rfl (.boxM (c := 7) rfl rfl (Nat.le_of_ble_eq_true rfl) rfl) rfl ?_)
    refine DAny.nil (by kernel_rfl) ?_
    repeat (first | refine sq ?_ | refine sk ?_ | with_reducible first | refine tn ?_ | refine bn ?_)
    exact ⟨_, next_out h, (.ren [31, 0] [7000, 118, 0] (.cov ⟨rfl, rfl, (ut (ut (ut (ut upT_nil)))), (uo (uo (uo (uo upOb_nil)))), upOut_nil, rfl⟩))⟩
  ·skip
   refine Safe.condN rfl hc1968 ?_
   repeat (first | refine sq ?_ | refine sk ?_ | with_reducible first | refine tn ?_ | refine bn ?_)
   refine Safe.exit ?_
   repeat (first | with_reducible refine thenQ.e ?_ | with_reducible refine blockQ.x rfl ?_ | with_reducible refine blockQ.y rfl ?_)
   replace h := inr_out h hr1967
   repeat (first | refine sq ?_ | refine sk ?_ | with_reducible first | refine tn ?_ | refine bn ?_)
   refine Safe.regionD (n := 5) [(3, [7])] [] E_good mixed rfl ?_
   refine DT 0 [[7]] rfl rfl (fun _ hz => (.fn rfl)) ?_
   refine DT 1 [[7]] rfl rfl (v := V.agg [V.int .i64 v50_1960, V.int .i64 v51_1961, V.int .i64 v52_1962, V.int .i64 v53_1963, V.int .i64 v54_1964, V.bool v55_1965, V.int .i64 v56_1966]) (fun _ hz => (.load rfl rfl (.box (hz _ _ rfl rfl) rfl) rfl)) ?_
   refine DT 2 [[7]] rfl rfl (fun _ hz => (.fn rfl)) ?_
   refine DAny.only (i := 3) rfl (by kernel_rfl) (.store (z := Obj.box [V.int .i64 v50_1960, V.int .i64 v51_1961, V.int .i64 v52_1962, V.int .i64 v53_1963, V.int .i64 v54_1964, V.bool v55_1965, V.int .i64 v56_1966]) rfl rfl rfl rfl rfl rfl rfl (.boxM (c := 7) rfl rfl (Nat.le_of_ble_eq_true rfl) rfl) rfl ?_)
   refine DT 4 [[7]] rfl rfl (fun _ hz => (.fn rfl)) ?_
   refine DAny.nil (by kernel_rfl) ?_
   repeat (first | refine sq ?_ | refine sk ?_ | with_reducible first | refine tn ?_ | refine bn ?_)
   refine Safe.ret ?_
   repeat (first | with_reducible refine thenQ.r ?_ | with_reducible refine blockQ.r ?_)
   obtain rfl := Option.some.inj h
   exact retQ.gen (vs := [V.ref [7000, 118, 0] 0 (rws (fun n => [V.int .i64 n]) v0_1959).length, V.agg [V.int .i64 v50_1960, V.int .i64 v51_1961, V.int .i64 v52_1962, V.int .i64 v53_1963, V.int .i64 v54_1964, V.bool v55_1965, V.int .i64 v56_1966], V.int .i64 0]) rfl (.tmp (v := V.ref [7000, 118, 0] 0 (rws (fun n => [V.int .i64 n]) v0_1959).length) rfl (.cell (v := V.agg [V.int .i64 v50_1960, V.int .i64 v51_1961, V.int .i64 v52_1962, V.int .i64 v53_1963, V.int .i64 v54_1964, V.bool v55_1965, V.int .i64 v56_1966]) rfl rfl (.box rfl rfl) rfl (.tmp (v := V.int .i64 0) rfl .nil))) (by exact (.tup (.cons (.own rfl rfl) (.cons (.free rfl) (.cons (.free rfl) .nil))))) (by simp) (.inr rfl)

noncomputable def go_ravellaw07_done (a0_4 : List Int) (a1_5 : api_Deque) (a2_6 : Int) (a3_7 : Int) : Option ((List Int) × api_Hand × Bool) :=
 letO (go_ring_Start a2_6 a3_7) fun (x_1985, x_1986) =>
 (go_ring_Solo a0_4 a1_5 x_1985).bind fun (x_1988, x_1989, x_1990) =>
 if (x_1986 == 0) = true then
  if (x_1990 == 0) = true then
   some (x_1988, x_1989, (x_1989.State != 0))
  else
   some (x_1988, x_1989, false)
 else
  some (x_1988, x_1989, false)

theorem go_ravellaw07_done_sc (a0_4 : List Int) (a1_5 : api_Deque) (a2_6 : Int) (a3_7 : Int) (r : (List Int) × api_Hand × Bool) (h : go_ravellaw07_done a0_4 a1_5 a2_6 a3_7 = some r) : SC Try.prog gl 19 [V.sl 1 (rws (fun n => [V.int .i64 n]) a0_4), V.agg [V.int .i64 a1_5.Base, V.int .i64 a1_5.Cap], V.int .i64 a2_6, V.int .i64 a3_7] (V.tup [V.own 1 (rws (fun n => [V.int .i64 n]) r.1), V.agg [V.int .i64 r.2.1.Kind, V.int .i64 r.2.1.Pc, V.int .i64 r.2.1.V, V.int .i64 r.2.1.T, V.int .i64 r.2.1.B, V.bool r.2.1.Won, V.int .i64 r.2.1.State], V.bool r.2.2]) := by
 rw [go_ravellaw07_done] at h
 refine SC.of E_good Try.func19 rfl (fun _ _ => Try.call19 _ _) rfl ?_
 repeat (first | refine sq ?_ | refine sk ?_ | with_reducible first | refine tn ?_ | refine bn ?_)
 refine Safe.region ?_
 refine SafeOps.quiet1 E_good rfl rfl rfl (.box rfl rfl) rfl ?_
 refine Qf E_good ?_
 refine SafeOps.quiet1 E_good rfl rfl rfl (.alloc rfl rfl) rfl ?_
 refine Qf E_good ?_
 refine SafeOps.nil ?_
 repeat (first | refine sq ?_ | refine sk ?_ | with_reducible first | refine tn ?_ | refine bn ?_)
 refine Safe.region ?_
 refine Qf E_good ?_
 refine Qf E_good ?_
 refine letG h ?_
 rintro ⟨x_1985, x_1986⟩ he1987 h
 refine Q0 E_good rfl (v := V.tup [V.agg [V.int .i64 x_1985.Kind, V.int .i64 x_1985.Pc, V.int .i64 x_1985.V, V.int .i64 x_1985.T, V.int .i64 x_1985.B, V.bool x_1985.Won, V.int .i64 x_1985.State], V.int .i64 x_1986]) (.callP rfl rfl (go_ring_Start_sc a2_6 a3_7 _ he1987) rfl) ?_
 refine Qf E_good ?_
 refine Qf E_good ?_
 refine Qf E_good ?_
 refine SafeOps.quiet1 E_good rfl rfl rfl (.alloc rfl rfl) rfl ?_
 refine SafeOps.store (z := Obj.box [V.int .i64 x_1985.Kind, V.int .i64 x_1985.Pc, V.int .i64 x_1985.V, V.int .i64 x_1985.T, V.int .i64 x_1985.B, V.bool x_1985.Won, V.int .i64 x_1985.State]) E_good rfl rfl rfl rfl rfl rfl rfl (.boxM (c := 7) rfl rfl (Nat.le_of_ble_eq_true rfl) rfl) ?_
 refine Qf E_good ?_
 refine SafeOps.nil ?_
 repeat (first | refine sq ?_ | refine sk ?_ | with_reducible first | refine tn ?_ | refine bn ?_)
 refine Safe.region ?_
 refine Qf E_good ?_
 refine Q0 E_good rfl (v := V.agg [V.int .i64 a1_5.Base, V.int .i64 a1_5.Cap]) (.load rfl rfl (.box rfl rfl) rfl) ?_
 refine Q0 E_good rfl (v := V.agg [V.int .i64 x_1985.Kind, V.int .i64 x_1985.Pc, V.int .i64 x_1985.V, V.int .i64 x_1985.T, V.int .i64 x_1985.B, V.bool x_1985.Won, V.int .i64 x_1985.State]) (.load rfl rfl (.box rfl rfl) rfl) ?_
 refine bindG h ?_
 rintro ⟨x_1988, x_1989, x_1990⟩ he1991 h
 refine SafeOps.quiet E_good rfl rfl rfl (v := V.tup [V.ref [24, 0] 0 (rws (fun n => [V.int .i64 n]) x_1988).length, V.agg [V.int .i64 x_1989.Kind, V.int .i64 x_1989.Pc, V.int .i64 x_1989.V, V.int .i64 x_1989.T, V.int .i64 x_1989.B, V.bool x_1989.Won, V.int .i64 x_1989.State], V.int .i64 x_1990]) (.callP rfl rfl (go_ring_Solo_sc a0_4 a1_5 x_1985 _ he1991) rfl) rfl ?_
 refine Qf E_good ?_
 refine Qf E_good ?_
 refine Qf E_good ?_
 refine Qf E_good ?_
 refine Qf E_good ?_
 refine SafeOps.store (z := Obj.box [V.int .i64 x_1989.Kind, V.int .i64 x_1989.Pc, V.int .i64 x_1989.V, V.int .i64 x_1989.T, V.int .i64 x_1989.B, V.bool x_1989.Won, V.int .i64 x_1989.State]) E_good rfl rfl rfl rfl rfl rfl rfl (.boxM (c := 7) rfl rfl (Nat.le_of_ble_eq_true rfl) rfl) ?_
 refine Qf E_good ?_
 refine SafeOps.nil ?_
 repeat (first | refine sq ?_ | refine sk ?_ | with_reducible first | refine tn ?_ | refine bn ?_)
 refine Safe.regionD (n := 16) [(14, [9])] [] E_good mixed rfl ?_
 refine DT 0 [[9]] rfl rfl (fun _ hz => (.fn rfl)) ?_
 refine DT 1 [[9]] rfl rfl (v := V.agg [V.int .i64 x_1989.Kind, V.int .i64 x_1989.Pc, V.int .i64 x_1989.V, V.int .i64 x_1989.T, V.int .i64 x_1989.B, V.bool x_1989.Won, V.int .i64 x_1989.State]) (fun _ hz => (.load rfl rfl (.box (hz _ _ rfl rfl) rfl) rfl)) ?_
 refine DT 2 [[9]] rfl rfl (fun _ hz => (.fn rfl)) ?_
 refine DT 3 [[9]] rfl rfl (v := V.bool (x_1986 == 0)) (fun _ hz => (.fn rfl)) ?_
 refine DT 4 [[9]] rfl rfl (fun _ hz => (.fn rfl)) ?_
 refine ifG h (fun hc1992 h => ?_) (fun hc1992 h => ?_)
 ·skip
  refine DAny.take (i := 5) rfl (by kernel_rfl) [[9]] (by kernel_rfl) (by kernel_rfl) (by kernel_rfl) (congrArg some hc1992) rfl rfl (fun _ hz => (.fn rfl)) ?_
  refine DAny.take (i := 6) rfl (by kernel_rfl) [[9]] (by kernel_rfl) (by kernel_rfl) (by kernel_rfl) (congrArg some hc1992) rfl rfl (v := V.bool (x_1990 == 0)) (fun _ hz => (.fn rfl)) ?_
  refine DT 7 [[9]] rfl rfl (v := V.bool (x_1990 == 0)) (fun _ hz => (.pickK rfl hc1992 rfl)) ?_
  refine DT 8 [[9]] rfl rfl (fun _ hz => (.fn rfl)) ?_
  refine ifG h (fun hc1993 h => ?_) (fun hc1993 h => ?_)
  ·skip
   refine DAny.take (i := 9) rfl (by kernel_rfl) [[9]] (by kernel_rfl) (by kernel_rfl) (by kernel_rfl) (congrArg some hc1993) rfl rfl (v := V.ptr [11] 0 6) (fun _ hz => (.fn rfl)) ?_
   refine DAny.take (i := 10) rfl (by kernel_rfl) [[9]] (by kernel_rfl) (by kernel_rfl) (by kernel_rfl) (congrArg some hc1993) rfl rfl (v := V.int .i64 x_1989.State) (fun _ hz => (.load rfl rfl (.box (hz _ _ rfl rfl) rfl) rfl)) ?_
   refine DAny.take (i := 11) rfl (by kernel_rfl) [[9]] (by kernel_rfl) (by kernel_rfl) (by kernel_rfl) (congrArg some hc1993) rfl rfl (v := V.bool (x_1989.State != 0)) (fun _ hz => (.fn rfl)) ?_
   refine DT 12 [[9]] rfl rfl (v := V.bool (x_1989.State != 0)) (fun _ hz => (.pickK rfl hc1993 rfl)) ?_
   refine DT 13 [[9]] rfl rfl (fun _ hz => (.fn rfl)) ?_
   refine DAny.only (i := 14) rfl (by kernel_rfl) (.store (z := Obj.box [V.int .i64 x_1989.Kind, V.int .i64 x_1989.Pc, V.int .i64 x_1989.V, V.int .i64 x_1989.T, V.int .i64 x_1989.B, V.bool x_1989.Won, V.int .i64 x_1989.State]) rfl rfl rfl rfl rfl rfl rfl (.boxM (c := 7) rfl rfl (Nat.le_of_ble_eq_true rfl) rfl) rfl ?_)
   refine DT 15 [[9]] rfl rfl (fun _ hz => (.fn rfl)) ?_
   refine DAny.nil (by kernel_rfl) ?_
   repeat (first | refine sq ?_ | refine sk ?_ | with_reducible first | refine tn ?_ | refine bn ?_)
   refine Safe.ret ?_
   repeat (first | with_reducible refine thenQ.r ?_ | with_reducible refine blockQ.r ?_)
   obtain rfl := Option.some.inj h
   exact retQ.gen (vs := [V.ref [24, 0] 0 (rws (fun n => [V.int .i64 n]) x_1988).length, V.agg [V.int .i64 x_1989.Kind, V.int .i64 x_1989.Pc, V.int .i64 x_1989.V, V.int .i64 x_1989.T, V.int .i64 x_1989.B, V.bool x_1989.Won, V.int .i64 x_1989.State], V.bool (x_1989.State != 0)]) rfl (.tmp (v := V.ref [24, 0] 0 (rws (fun n => [V.int .i64 n]) x_1988).length) rfl (.cell (v := V.agg [V.int .i64 x_1989.Kind, V.int .i64 x_1989.Pc, V.int .i64 x_1989.V, V.int .i64 x_1989.T, V.int .i64 x_1989.B, V.bool x_1989.Won, V.int .i64 x_1989.State]) rfl rfl (.box rfl rfl) rfl (.tmp (v := V.bool (x_1989.State != 0)) rfl .nil))) (by exact (.tup (.cons (.own rfl rfl) (.cons (.free rfl) (.cons (.free rfl) .nil))))) (by simp) (.inr rfl)
  ·skip
   refine DAny.takeSkip (i := 9) rfl (by kernel_rfl) [[9]] (by kernel_rfl) (by kernel_rfl) (by kernel_rfl) (congrArg some hc1993) rfl rfl ?_
   refine DAny.takeSkip (i := 10) rfl (by kernel_rfl) [[9]] (by kernel_rfl) (by kernel_rfl) (by kernel_rfl) (congrArg some hc1993) rfl rfl ?_
   refine DAny.takeSkip (i := 11) rfl (by kernel_rfl) [[9]] (by kernel_rfl) (by kernel_rfl) (by kernel_rfl) (congrArg some hc1993) rfl rfl ?_
   refine DT 12 [[9]] rfl rfl (v := V.bool false) (fun _ hz => (.pickK rfl hc1993 rfl)) ?_
   refine DT 13 [[9]] rfl rfl (fun _ hz => (.fn rfl)) ?_
   refine DAny.only (i := 14) rfl (by kernel_rfl) (.store (z := Obj.box [V.int .i64 x_1989.Kind, V.int .i64 x_1989.Pc, V.int .i64 x_1989.V, V.int .i64 x_1989.T, V.int .i64 x_1989.B, V.bool x_1989.Won, V.int .i64 x_1989.State]) rfl rfl rfl rfl rfl rfl rfl (.boxM (c := 7) rfl rfl (Nat.le_of_ble_eq_true rfl) rfl) rfl ?_)
   refine DT 15 [[9]] rfl rfl (fun _ hz => (.fn rfl)) ?_
   refine DAny.nil (by kernel_rfl) ?_
   repeat (first | refine sq ?_ | refine sk ?_ | with_reducible first | refine tn ?_ | refine bn ?_)
   refine Safe.ret ?_
   repeat (first | with_reducible refine thenQ.r ?_ | with_reducible refine blockQ.r ?_)
   obtain rfl := Option.some.inj h
   exact retQ.gen (vs := [V.ref [24, 0] 0 (rws (fun n => [V.int .i64 n]) x_1988).length, V.agg [V.int .i64 x_1989.Kind, V.int .i64 x_1989.Pc, V.int .i64 x_1989.V, V.int .i64 x_1989.T, V.int .i64 x_1989.B, V.bool x_1989.Won, V.int .i64 x_1989.State], V.bool false]) rfl (.tmp (v := V.ref [24, 0] 0 (rws (fun n => [V.int .i64 n]) x_1988).length) rfl (.cell (v := V.agg [V.int .i64 x_1989.Kind, V.int .i64 x_1989.Pc, V.int .i64 x_1989.V, V.int .i64 x_1989.T, V.int .i64 x_1989.B, V.bool x_1989.Won, V.int .i64 x_1989.State]) rfl rfl (.box rfl rfl) rfl (.tmp (v := V.bool false) rfl .nil))) (by exact (.tup (.cons (.own rfl rfl) (.cons (.free rfl) (.cons (.free rfl) .nil))))) (by simp) (.inr rfl)
 ·skip
  refine DAny.takeSkip (i := 5) rfl (by kernel_rfl) [[9]] (by kernel_rfl) (by kernel_rfl) (by kernel_rfl) (congrArg some hc1992) rfl rfl ?_
  refine DAny.takeSkip (i := 6) rfl (by kernel_rfl) [[9]] (by kernel_rfl) (by kernel_rfl) (by kernel_rfl) (congrArg some hc1992) rfl rfl ?_
  refine DT 7 [[9]] rfl rfl (v := V.bool false) (fun _ hz => (.pickK rfl hc1992 rfl)) ?_
  refine DT 8 [[9]] rfl rfl (fun _ hz => (.fn rfl)) ?_
  refine DAny.takeSkip (i := 9) rfl (by kernel_rfl) [[9]] (by kernel_rfl) (by kernel_rfl) (by kernel_rfl) rfl rfl rfl ?_
  refine DAny.takeSkip (i := 10) rfl (by kernel_rfl) [[9]] (by kernel_rfl) (by kernel_rfl) (by kernel_rfl) rfl rfl rfl ?_
  refine DAny.takeSkip (i := 11) rfl (by kernel_rfl) [[9]] (by kernel_rfl) (by kernel_rfl) (by kernel_rfl) rfl rfl rfl ?_
  refine DT 12 [[9]] rfl rfl (v := V.bool false) (fun _ hz => (.pickK rfl rfl rfl)) ?_
  refine DT 13 [[9]] rfl rfl (fun _ hz => (.fn rfl)) ?_
  refine DAny.only (i := 14) rfl (by kernel_rfl) (.store (z := Obj.box [V.int .i64 x_1989.Kind, V.int .i64 x_1989.Pc, V.int .i64 x_1989.V, V.int .i64 x_1989.T, V.int .i64 x_1989.B, V.bool x_1989.Won, V.int .i64 x_1989.State]) rfl rfl rfl rfl rfl rfl rfl (.boxM (c := 7) rfl rfl (Nat.le_of_ble_eq_true rfl) rfl) rfl ?_)
  refine DT 15 [[9]] rfl rfl (fun _ hz => (.fn rfl)) ?_
  refine DAny.nil (by kernel_rfl) ?_
  repeat (first | refine sq ?_ | refine sk ?_ | with_reducible first | refine tn ?_ | refine bn ?_)
  refine Safe.ret ?_
  repeat (first | with_reducible refine thenQ.r ?_ | with_reducible refine blockQ.r ?_)
  obtain rfl := Option.some.inj h
  exact retQ.gen (vs := [V.ref [24, 0] 0 (rws (fun n => [V.int .i64 n]) x_1988).length, V.agg [V.int .i64 x_1989.Kind, V.int .i64 x_1989.Pc, V.int .i64 x_1989.V, V.int .i64 x_1989.T, V.int .i64 x_1989.B, V.bool x_1989.Won, V.int .i64 x_1989.State], V.bool false]) rfl (.tmp (v := V.ref [24, 0] 0 (rws (fun n => [V.int .i64 n]) x_1988).length) rfl (.cell (v := V.agg [V.int .i64 x_1989.Kind, V.int .i64 x_1989.Pc, V.int .i64 x_1989.V, V.int .i64 x_1989.T, V.int .i64 x_1989.B, V.bool x_1989.Won, V.int .i64 x_1989.State]) rfl rfl (.box rfl rfl) rfl (.tmp (v := V.bool false) rfl .nil))) (by exact (.tup (.cons (.own rfl rfl) (.cons (.free rfl) (.cons (.free rfl) .nil))))) (by simp) (.inr rfl)

noncomputable def go_ravellaw07_live  : Option Bool :=
 if 0 ≤ (6 : Int) ∧ (6 : Int) ≤ (6 : Int) ∧ (6 : Int) ≤ 549755813888 then
  (go_ravellaw07_done (List.replicate (Int.toNat 6) (0 : Int)) (api_Deque.mk 0 4) 1 5).bind fun (x_2028, x_2029, x_2030) =>
  (go_ravellaw07_done x_2028 (api_Deque.mk 0 4) 1 6).bind fun (x_2032, x_2033, x_2034) =>
  (go_ravellaw07_done x_2032 (api_Deque.mk 0 4) 2 0).bind fun (x_2036, x_2037, x_2038) =>
  (go_ravellaw07_done x_2036 (api_Deque.mk 0 4) 3 0).bind fun (x_2040, x_2041, x_2042) =>
  some (((((((x_2030 && x_2034) && x_2038) && x_2042) && (x_2037.V == 6)) && (x_2041.V == 5)) && (x_2037.State == 1)) && (x_2041.State == 1))
 else none

theorem go_ravellaw07_live_sc  (r : Bool) (h : go_ravellaw07_live  = some r) : SC Try.prog gl 7 [] (V.bool r) := by
 rw [go_ravellaw07_live] at h
 refine SC.of E_good Try.func7 rfl (fun _ _ => Try.call7 _ _) rfl ?_
 repeat (first | refine sq ?_ | refine sk ?_ | with_reducible first | refine tn ?_ | refine bn ?_)
 refine Safe.region ?_
 refine Qf E_good ?_
 refine SafeOps.nil ?_
 repeat (first | refine sq ?_ | refine sk ?_ | with_reducible first | refine tn ?_ | refine bn ?_)
 refine Safe.region ?_
 refine Q0 E_good rfl (v := V.agg [V.int .i64 0, V.int .i64 4]) (.fn rfl) ?_
 refine SafeOps.quiet1 E_good rfl rfl rfl (.alloc rfl rfl) rfl ?_
 refine SafeOps.store (z := Obj.box [V.int .i64 0, V.int .i64 4]) E_good rfl rfl rfl rfl rfl rfl rfl (.boxM (c := 2) rfl rfl (Nat.le_of_ble_eq_true rfl) rfl) ?_
 refine SafeOps.nil ?_
 repeat (first | refine sq ?_ | refine sk ?_ | with_reducible first | refine tn ?_ | refine bn ?_)
 refine Safe.regionD (n := 11) [(9, [3])] [] E_good mixed rfl ?_
 refine DT 1 [[3]] rfl rfl (v := V.agg [V.int .i64 0, V.int .i64 4]) (fun _ hz => (.load rfl rfl (.box (hz _ _ rfl rfl) rfl) rfl)) ?_
 refine DAny.fork (i := 0) (j := 7) rfl rfl (by kernel_rfl) ?_ ?_
 ·skip
  refine okG h (fun hb2027 h => ?_)
  refine .quiet rfl rfl rfl (.makeM (f := (fun n => [V.int .i64 n])) (d := (0 : Int)) rfl rfl rfl rfl hb2027 rfl rfl rfl) rfl ?_
  refine DAny.fork (i := 2) (j := 7) rfl rfl (by kernel_rfl) ?_ ?_
  ·skip
   refine bindG h ?_
   rintro ⟨x_2028, x_2029, x_2030⟩ he2031 h
   refine .quiet rfl rfl rfl (v := V.tup [V.ref [16, 0] 0 (rws (fun n => [V.int .i64 n]) x_2028).length, V.agg [V.int .i64 x_2029.Kind, V.int .i64 x_2029.Pc, V.int .i64 x_2029.V, V.int .i64 x_2029.T, V.int .i64 x_2029.B, V.bool x_2029.Won, V.int .i64 x_2029.State], V.bool x_2030]) (.callS rfl (.cons (.full rfl rfl) (.cons (.free rfl) (.cons (.free rfl) (.cons (.free rfl) .nil)))) (go_ravellaw07_done_sc (List.replicate (Int.toNat 6) (0 : Int)) (api_Deque.mk 0 4) 1 5 _ he2031) (.tupL (.cons (.ownM (fun _ => rfl)) (.cons (.aggL (.cons (.plain rfl) (.cons (.plain rfl) (.cons (.plain rfl) (.cons (.plain rfl) (.cons (.plain rfl) (.cons (.plain rfl) (.cons (.plain rfl) .nil)))))))) (.cons (.plain rfl) .nil)))) rfl) rfl ?_
   refine DT 3 [[3]] rfl rfl (fun _ hz => (.fn rfl)) ?_
   refine DT 4 [[3]] rfl rfl (fun _ hz => (.fn rfl)) ?_
   refine DT 5 [[3]] rfl rfl (fun _ hz => (.fn rfl)) ?_
   refine DT 6 [[3]] rfl rfl (fun _ hz => (.fn rfl)) ?_
   refine DAny.only (i := 7) rfl (by kernel_rfl) (.quiet rfl rfl rfl (.alloc rfl rfl) rfl ?_)
   refine DT 8 [[3]] rfl rfl (fun _ hz => (.fn rfl)) ?_
   refine DAny.only (i := 9) rfl (by kernel_rfl) (.store (z := Obj.box [V.int .i64 x_2029.Kind, V.int .i64 x_2029.Pc, V.int .i64 x_2029.V, V.int .i64 x_2029.T, V.int .i64 x_2029.B, V.bool x_2029.Won, V.int .i64 x_2029.State]) rfl rfl rfl rfl rfl rfl rfl (.boxM (c := 7) rfl rfl (Nat.le_of_ble_eq_true rfl) rfl) rfl ?_)
   refine DT 10 [[3]] rfl rfl (fun _ hz => (.fn rfl)) ?_
   refine DAny.nil (by kernel_rfl) ?_
   repeat (first | refine sq ?_ | refine sk ?_ | with_reducible first | refine tn ?_ | refine bn ?_)
   refine Safe.region ?_
   refine Qf E_good ?_
   refine Q0 E_good rfl (v := V.agg [V.int .i64 0, V.int .i64 4]) (.load rfl rfl (.box rfl rfl) rfl) ?_
   refine bindG h ?_
   rintro ⟨x_2032, x_2033, x_2034⟩ he2035 h
   refine SafeOps.quiet E_good rfl rfl rfl (v := V.tup [V.ref [23, 0] 0 (rws (fun n => [V.int .i64 n]) x_2032).length, V.agg [V.int .i64 x_2033.Kind, V.int .i64 x_2033.Pc, V.int .i64 x_2033.V, V.int .i64 x_2033.T, V.int .i64 x_2033.B, V.bool x_2033.Won, V.int .i64 x_2033.State], V.bool x_2034]) (.callS rfl (.cons (.full rfl rfl) (.cons (.free rfl) (.cons (.free rfl) (.cons (.free rfl) .nil)))) (go_ravellaw07_done_sc x_2028 (api_Deque.mk 0 4) 1 6 _ he2035) (.tupL (.cons (.ownM (fun _ => rfl)) (.cons (.aggL (.cons (.plain rfl) (.cons (.plain rfl) (.cons (.plain rfl) (.cons (.plain rfl) (.cons (.plain rfl) (.cons (.plain rfl) (.cons (.plain rfl) .nil)))))))) (.cons (.plain rfl) .nil)))) rfl) rfl ?_
   refine Qf E_good ?_
   refine Qf E_good ?_
   refine Qf E_good ?_
   refine Qf E_good ?_
   refine SafeOps.quiet1 E_good rfl rfl rfl (.alloc rfl rfl) rfl ?_
   refine Qf E_good ?_
   refine SafeOps.store (z := Obj.box [V.int .i64 x_2033.Kind, V.int .i64 x_2033.Pc, V.int .i64 x_2033.V, V.int .i64 x_2033.T, V.int .i64 x_2033.B, V.bool x_2033.Won, V.int .i64 x_2033.State]) E_good rfl rfl rfl rfl rfl rfl rfl (.boxM (c := 7) rfl rfl (Nat.le_of_ble_eq_true rfl) rfl) ?_
   refine Qf E_good ?_
   refine SafeOps.nil ?_
   repeat (first | refine sq ?_ | refine sk ?_ | with_reducible first | refine tn ?_ | refine bn ?_)
   refine Safe.region ?_
   refine Qf E_good ?_
   refine Q0 E_good rfl (v := V.agg [V.int .i64 0, V.int .i64 4]) (.load rfl rfl (.box rfl rfl) rfl) ?_
   refine bindG h ?_
   rintro ⟨x_2036, x_2037, x_2038⟩ he2039 h
   refine SafeOps.quiet E_good rfl rfl rfl (v := V.tup [V.ref [30, 0] 0 (rws (fun n => [V.int .i64 n]) x_2036).length, V.agg [V.int .i64 x_2037.Kind, V.int .i64 x_2037.Pc, V.int .i64 x_2037.V, V.int .i64 x_2037.T, V.int .i64 x_2037.B, V.bool x_2037.Won, V.int .i64 x_2037.State], V.bool x_2038]) (.callS rfl (.cons (.full rfl rfl) (.cons (.free rfl) (.cons (.free rfl) (.cons (.free rfl) .nil)))) (go_ravellaw07_done_sc x_2032 (api_Deque.mk 0 4) 2 0 _ he2039) (.tupL (.cons (.ownM (fun _ => rfl)) (.cons (.aggL (.cons (.plain rfl) (.cons (.plain rfl) (.cons (.plain rfl) (.cons (.plain rfl) (.cons (.plain rfl) (.cons (.plain rfl) (.cons (.plain rfl) .nil)))))))) (.cons (.plain rfl) .nil)))) rfl) rfl ?_
   refine Qf E_good ?_
   refine Qf E_good ?_
   refine Qf E_good ?_
   refine Qf E_good ?_
   refine SafeOps.quiet1 E_good rfl rfl rfl (.alloc rfl rfl) rfl ?_
   refine Qf E_good ?_
   refine SafeOps.store (z := Obj.box [V.int .i64 x_2037.Kind, V.int .i64 x_2037.Pc, V.int .i64 x_2037.V, V.int .i64 x_2037.T, V.int .i64 x_2037.B, V.bool x_2037.Won, V.int .i64 x_2037.State]) E_good rfl rfl rfl rfl rfl rfl rfl (.boxM (c := 7) rfl rfl (Nat.le_of_ble_eq_true rfl) rfl) ?_
   refine Qf E_good ?_
   refine SafeOps.nil ?_
   repeat (first | refine sq ?_ | refine sk ?_ | with_reducible first | refine tn ?_ | refine bn ?_)
   refine Safe.region ?_
   refine Qf E_good ?_
   refine Q0 E_good rfl (v := V.agg [V.int .i64 0, V.int .i64 4]) (.load rfl rfl (.box rfl rfl) rfl) ?_
   refine bindG h ?_
   rintro ⟨x_2040, x_2041, x_2042⟩ he2043 h
   refine SafeOps.quiet E_good rfl rfl rfl (v := V.tup [V.ref [37, 0] 0 (rws (fun n => [V.int .i64 n]) x_2040).length, V.agg [V.int .i64 x_2041.Kind, V.int .i64 x_2041.Pc, V.int .i64 x_2041.V, V.int .i64 x_2041.T, V.int .i64 x_2041.B, V.bool x_2041.Won, V.int .i64 x_2041.State], V.bool x_2042]) (.callS rfl (.cons (.full rfl rfl) (.cons (.free rfl) (.cons (.free rfl) (.cons (.free rfl) .nil)))) (go_ravellaw07_done_sc x_2036 (api_Deque.mk 0 4) 3 0 _ he2043) (.tupL (.cons (.ownM (fun _ => rfl)) (.cons (.aggL (.cons (.plain rfl) (.cons (.plain rfl) (.cons (.plain rfl) (.cons (.plain rfl) (.cons (.plain rfl) (.cons (.plain rfl) (.cons (.plain rfl) .nil)))))))) (.cons (.plain rfl) .nil)))) rfl) rfl ?_
   refine Qf E_good ?_
   refine Qf E_good ?_
   refine Qf E_good ?_
   refine Qf E_good ?_
   refine SafeOps.quiet1 E_good rfl rfl rfl (.alloc rfl rfl) rfl ?_
   refine Qf E_good ?_
   refine SafeOps.store (z := Obj.box [V.int .i64 x_2041.Kind, V.int .i64 x_2041.Pc, V.int .i64 x_2041.V, V.int .i64 x_2041.T, V.int .i64 x_2041.B, V.bool x_2041.Won, V.int .i64 x_2041.State]) E_good rfl rfl rfl rfl rfl rfl rfl (.boxM (c := 7) rfl rfl (Nat.le_of_ble_eq_true rfl) rfl) ?_
   refine Qf E_good ?_
   refine SafeOps.nil ?_
   repeat (first | refine sq ?_ | refine sk ?_ | with_reducible first | refine tn ?_ | refine bn ?_)
   refine Safe.region ?_
   refine Qf E_good ?_
   refine Qf E_good ?_
   refine SafeOps.bjoin 2 44 (b := (x_2030 && x_2034)) (b1 := x_2034) (b0 := false) (fun hc2044 K => ?_) (fun hc2044 K => ?_) bj_and ?_
   ·skip
    refine SafeOps.quiet0 E_good (congrArg some hc2044) rfl rfl (.fn rfl) ?_
    refine Q0 E_good rfl (v := V.bool x_2034) (.pickK rfl hc2044 rfl) ?_
    exact SafeOps.drop' 2 rfl rfl rfl K
   ·skip
    refine SafeOps.skip (congrArg some hc2044) rfl rfl ?_
    refine Q0 E_good rfl (v := V.bool false) (.pickK rfl hc2044 rfl) ?_
    exact SafeOps.drop' 2 rfl rfl rfl K
   refine Qf E_good ?_
   refine SafeOps.bjoin 2 47 (b := ((x_2030 && x_2034) && x_2038)) (b1 := x_2038) (b0 := false) (fun hc2045 K => ?_) (fun hc2045 K => ?_) bj_and ?_
   ·skip
    refine SafeOps.quiet0 E_good (congrArg some hc2045) rfl rfl (.fn rfl) ?_
    refine Q0 E_good rfl (v := V.bool x_2038) (.pickK rfl hc2045 rfl) ?_
    exact SafeOps.drop' 2 rfl rfl rfl K
   ·skip
    refine SafeOps.skip (congrArg some hc2045) rfl rfl ?_
    refine Q0 E_good rfl (v := V.bool false) (.pickK rfl hc2045 rfl) ?_
    exact SafeOps.drop' 2 rfl rfl rfl K
   refine Qf E_good ?_
   refine SafeOps.bjoin 2 50 (b := (((x_2030 && x_2034) && x_2038) && x_2042)) (b1 := x_2042) (b0 := false) (fun hc2046 K => ?_) (fun hc2046 K => ?_) bj_and ?_
   ·skip
    refine SafeOps.quiet0 E_good (congrArg some hc2046) rfl rfl (.fn rfl) ?_
    refine Q0 E_good rfl (v := V.bool x_2042) (.pickK rfl hc2046 rfl) ?_
    exact SafeOps.drop' 2 rfl rfl rfl K
   ·skip
    refine SafeOps.skip (congrArg some hc2046) rfl rfl ?_
    refine Q0 E_good rfl (v := V.bool false) (.pickK rfl hc2046 rfl) ?_
    exact SafeOps.drop' 2 rfl rfl rfl K
   refine Qf E_good ?_
   refine SafeOps.bjoin 4 55 (b := ((((x_2030 && x_2034) && x_2038) && x_2042) && (x_2037.V == 6))) (b1 := (x_2037.V == 6)) (b0 := false) (fun hc2047 K => ?_) (fun hc2047 K => ?_) bj_and ?_
   ·skip
    refine SafeOps.quiet0 E_good (congrArg some hc2047) rfl rfl (v := V.ptr [7] 0 2) (.fn rfl) ?_
    refine SafeOps.quiet0 E_good (congrArg some hc2047) rfl rfl (v := V.int .i64 x_2037.V) (.load rfl rfl (.box rfl rfl) rfl) ?_
    refine SafeOps.quiet0 E_good (congrArg some hc2047) rfl rfl (v := V.bool (x_2037.V == 6)) (.fn rfl) ?_
    refine Q0 E_good rfl (v := V.bool (x_2037.V == 6)) (.pickK rfl hc2047 rfl) ?_
    exact SafeOps.drop' 4 rfl rfl rfl K
   ·skip
    refine SafeOps.skip (congrArg some hc2047) rfl rfl ?_
    refine SafeOps.skip (congrArg some hc2047) rfl rfl ?_
    refine SafeOps.skip (congrArg some hc2047) rfl rfl ?_
    refine Q0 E_good rfl (v := V.bool false) (.pickK rfl hc2047 rfl) ?_
    exact SafeOps.drop' 4 rfl rfl rfl K
   refine Qf E_good ?_
   refine SafeOps.bjoin 4 60 (b := (((((x_2030 && x_2034) && x_2038) && x_2042) && (x_2037.V == 6)) && (x_2041.V == 5))) (b1 := (x_2041.V == 5)) (b0 := false) (fun hc2048 K => ?_) (fun hc2048 K => ?_) bj_and ?_
   ·skip
    refine SafeOps.quiet0 E_good (congrArg some hc2048) rfl rfl (v := V.ptr [10] 0 2) (.fn rfl) ?_
    refine SafeOps.quiet0 E_good (congrArg some hc2048) rfl rfl (v := V.int .i64 x_2041.V) (.load rfl rfl (.box rfl rfl) rfl) ?_
    refine SafeOps.quiet0 E_good (congrArg some hc2048) rfl rfl (v := V.bool (x_2041.V == 5)) (.fn rfl) ?_
    refine Q0 E_good rfl (v := V.bool (x_2041.V == 5)) (.pickK rfl hc2048 rfl) ?_
    exact SafeOps.drop' 4 rfl rfl rfl K
   ·skip
    refine SafeOps.skip (congrArg some hc2048) rfl rfl ?_
    refine SafeOps.skip (congrArg some hc2048) rfl rfl ?_
    refine SafeOps.skip (congrArg some hc2048) rfl rfl ?_
    refine Q0 E_good rfl (v := V.bool false) (.pickK rfl hc2048 rfl) ?_
    exact SafeOps.drop' 4 rfl rfl rfl K
   refine Qf E_good ?_
   refine SafeOps.bjoin 4 65 (b := ((((((x_2030 && x_2034) && x_2038) && x_2042) && (x_2037.V == 6)) && (x_2041.V == 5)) && (x_2037.State == 1))) (b1 := (x_2037.State == 1)) (b0 := false) (fun hc2049 K => ?_) (fun hc2049 K => ?_) bj_and ?_
   ·skip
    refine SafeOps.quiet0 E_good (congrArg some hc2049) rfl rfl (v := V.ptr [7] 0 6) (.fn rfl) ?_
    refine SafeOps.quiet0 E_good (congrArg some hc2049) rfl rfl (v := V.int .i64 x_2037.State) (.load rfl rfl (.box rfl rfl) rfl) ?_
    refine SafeOps.quiet0 E_good (congrArg some hc2049) rfl rfl (v := V.bool (x_2037.State == 1)) (.fn rfl) ?_
    refine Q0 E_good rfl (v := V.bool (x_2037.State == 1)) (.pickK rfl hc2049 rfl) ?_
    exact SafeOps.drop' 4 rfl rfl rfl K
   ·skip
    refine SafeOps.skip (congrArg some hc2049) rfl rfl ?_
    refine SafeOps.skip (congrArg some hc2049) rfl rfl ?_
    refine SafeOps.skip (congrArg some hc2049) rfl rfl ?_
    refine Q0 E_good rfl (v := V.bool false) (.pickK rfl hc2049 rfl) ?_
    exact SafeOps.drop' 4 rfl rfl rfl K
   refine Qf E_good ?_
   refine SafeOps.bjoin 4 70 (b := (((((((x_2030 && x_2034) && x_2038) && x_2042) && (x_2037.V == 6)) && (x_2041.V == 5)) && (x_2037.State == 1)) && (x_2041.State == 1))) (b1 := (x_2041.State == 1)) (b0 := false) (fun hc2050 K => ?_) (fun hc2050 K => ?_) bj_and ?_
   ·skip
    refine SafeOps.quiet0 E_good (congrArg some hc2050) rfl rfl (v := V.ptr [10] 0 6) (.fn rfl) ?_
    refine SafeOps.quiet0 E_good (congrArg some hc2050) rfl rfl (v := V.int .i64 x_2041.State) (.load rfl rfl (.box rfl rfl) rfl) ?_
    refine SafeOps.quiet0 E_good (congrArg some hc2050) rfl rfl (v := V.bool (x_2041.State == 1)) (.fn rfl) ?_
    refine Q0 E_good rfl (v := V.bool (x_2041.State == 1)) (.pickK rfl hc2050 rfl) ?_
    exact SafeOps.drop' 4 rfl rfl rfl K
   ·skip
    refine SafeOps.skip (congrArg some hc2050) rfl rfl ?_
    refine SafeOps.skip (congrArg some hc2050) rfl rfl ?_
    refine SafeOps.skip (congrArg some hc2050) rfl rfl ?_
    refine Q0 E_good rfl (v := V.bool false) (.pickK rfl hc2050 rfl) ?_
    exact SafeOps.drop' 4 rfl rfl rfl K
   refine Qf E_good ?_
   refine SafeOps.nil ?_
   repeat (first | refine sq ?_ | refine sk ?_ | with_reducible first | refine tn ?_ | refine bn ?_)
   refine Safe.ret ?_
   repeat (first | with_reducible refine thenQ.r ?_ | with_reducible refine blockQ.r ?_)
   obtain rfl := Option.some.inj h
   exact retQ.gen (vs := [V.bool (((((((x_2030 && x_2034) && x_2038) && x_2042) && (x_2037.V == 6)) && (x_2041.V == 5)) && (x_2037.State == 1)) && (x_2041.State == 1))]) rfl (.tmp (v := V.bool (((((((x_2030 && x_2034) && x_2038) && x_2042) && (x_2037.V == 6)) && (x_2041.V == 5)) && (x_2037.State == 1)) && (x_2041.State == 1))) rfl .nil) (.free rfl) (by simp) (.inr rfl)
  ·skip
   refine .quiet rfl rfl rfl (.alloc rfl rfl) rfl ?_
   refine bindG h ?_
   rintro ⟨x_2028, x_2029, x_2030⟩ he2031 h
   refine DAny.only (i := 2) rfl (by kernel_rfl) (.quiet rfl rfl rfl (v := V.tup [V.ref [16, 0] 0 (rws (fun n => [V.int .i64 n]) x_2028).length, V.agg [V.int .i64 x_2029.Kind, V.int .i64 x_2029.Pc, V.int .i64 x_2029.V, V.int .i64 x_2029.T, V.int .i64 x_2029.B, V.bool x_2029.Won, V.int .i64 x_2029.State], V.bool x_2030]) (.callS rfl (.cons (.full rfl rfl) (.cons (.free rfl) (.cons (.free rfl) (.cons (.free rfl) .nil)))) (go_ravellaw07_done_sc (List.replicate (Int.toNat 6) (0 : Int)) (api_Deque.mk 0 4) 1 5 _ he2031) (.tupL (.cons (.ownM (fun _ => rfl)) (.cons (.aggL (.cons (.plain rfl) (.cons (.plain rfl) (.cons (.plain rfl) (.cons (.plain rfl) (.cons (.plain rfl) (.cons (.plain rfl) (.cons (.plain rfl) .nil)))))))) (.cons (.plain rfl) .nil)))) rfl) rfl ?_)
   refine DT 3 [[3]] rfl rfl (fun _ hz => (.fn rfl)) ?_
   refine DT 4 [[3]] rfl rfl (fun _ hz => (.fn rfl)) ?_
   refine DT 5 [[3]] rfl rfl (fun _ hz => (.fn rfl)) ?_
   refine DT 6 [[3]] rfl rfl (fun _ hz => (.fn rfl)) ?_
   refine DT 8 [[3]] rfl rfl (fun _ hz => (.fn rfl)) ?_
   refine DAny.only (i := 9) rfl (by kernel_rfl) (.store (z := Obj.box [V.int .i64 x_2029.Kind, V.int .i64 x_2029.Pc, V.int .i64 x_2029.V, V.int .i64 x_2029.T, V.int .i64 x_2029.B, V.bool x_2029.Won, V.int .i64 x_2029.State]) rfl rfl rfl rfl rfl rfl rfl (.boxM (c := 7) rfl rfl (Nat.le_of_ble_eq_true rfl) rfl) rfl ?_)
   refine DT 10 [[3]] rfl rfl (fun _ hz => (.fn rfl)) ?_
   refine DAny.nil (by kernel_rfl) ?_
   repeat (first | refine sq ?_ | refine sk ?_ | with_reducible first | refine tn ?_ | refine bn ?_)
   refine Safe.region ?_
   refine Qf E_good ?_
   refine Q0 E_good rfl (v := V.agg [V.int .i64 0, V.int .i64 4]) (.load rfl rfl (.box rfl rfl) rfl) ?_
   refine bindG h ?_
   rintro ⟨x_2032, x_2033, x_2034⟩ he2035 h
   refine SafeOps.quiet E_good rfl rfl rfl (v := V.tup [V.ref [23, 0] 0 (rws (fun n => [V.int .i64 n]) x_2032).length, V.agg [V.int .i64 x_2033.Kind, V.int .i64 x_2033.Pc, V.int .i64 x_2033.V, V.int .i64 x_2033.T, V.int .i64 x_2033.B, V.bool x_2033.Won, V.int .i64 x_2033.State], V.bool x_2034]) (.callS rfl (.cons (.full rfl rfl) (.cons (.free rfl) (.cons (.free rfl) (.cons (.free rfl) .nil)))) (go_ravellaw07_done_sc x_2028 (api_Deque.mk 0 4) 1 6 _ he2035) (.tupL (.cons (.ownM (fun _ => rfl)) (.cons (.aggL (.cons (.plain rfl) (.cons (.plain rfl) (.cons (.plain rfl) (.cons (.plain rfl) (.cons (.plain rfl) (.cons (.plain rfl) (.cons (.plain rfl) .nil)))))))) (.cons (.plain rfl) .nil)))) rfl) rfl ?_
   refine Qf E_good ?_
   refine Qf E_good ?_
   refine Qf E_good ?_
   refine Qf E_good ?_
   refine SafeOps.quiet1 E_good rfl rfl rfl (.alloc rfl rfl) rfl ?_
   refine Qf E_good ?_
   refine SafeOps.store (z := Obj.box [V.int .i64 x_2033.Kind, V.int .i64 x_2033.Pc, V.int .i64 x_2033.V, V.int .i64 x_2033.T, V.int .i64 x_2033.B, V.bool x_2033.Won, V.int .i64 x_2033.State]) E_good rfl rfl rfl rfl rfl rfl rfl (.boxM (c := 7) rfl rfl (Nat.le_of_ble_eq_true rfl) rfl) ?_
   refine Qf E_good ?_
   refine SafeOps.nil ?_
   repeat (first | refine sq ?_ | refine sk ?_ | with_reducible first | refine tn ?_ | refine bn ?_)
   refine Safe.region ?_
   refine Qf E_good ?_
   refine Q0 E_good rfl (v := V.agg [V.int .i64 0, V.int .i64 4]) (.load rfl rfl (.box rfl rfl) rfl) ?_
   refine bindG h ?_
   rintro ⟨x_2036, x_2037, x_2038⟩ he2039 h
   refine SafeOps.quiet E_good rfl rfl rfl (v := V.tup [V.ref [30, 0] 0 (rws (fun n => [V.int .i64 n]) x_2036).length, V.agg [V.int .i64 x_2037.Kind, V.int .i64 x_2037.Pc, V.int .i64 x_2037.V, V.int .i64 x_2037.T, V.int .i64 x_2037.B, V.bool x_2037.Won, V.int .i64 x_2037.State], V.bool x_2038]) (.callS rfl (.cons (.full rfl rfl) (.cons (.free rfl) (.cons (.free rfl) (.cons (.free rfl) .nil)))) (go_ravellaw07_done_sc x_2032 (api_Deque.mk 0 4) 2 0 _ he2039) (.tupL (.cons (.ownM (fun _ => rfl)) (.cons (.aggL (.cons (.plain rfl) (.cons (.plain rfl) (.cons (.plain rfl) (.cons (.plain rfl) (.cons (.plain rfl) (.cons (.plain rfl) (.cons (.plain rfl) .nil)))))))) (.cons (.plain rfl) .nil)))) rfl) rfl ?_
   refine Qf E_good ?_
   refine Qf E_good ?_
   refine Qf E_good ?_
   refine Qf E_good ?_
   refine SafeOps.quiet1 E_good rfl rfl rfl (.alloc rfl rfl) rfl ?_
   refine Qf E_good ?_
   refine SafeOps.store (z := Obj.box [V.int .i64 x_2037.Kind, V.int .i64 x_2037.Pc, V.int .i64 x_2037.V, V.int .i64 x_2037.T, V.int .i64 x_2037.B, V.bool x_2037.Won, V.int .i64 x_2037.State]) E_good rfl rfl rfl rfl rfl rfl rfl (.boxM (c := 7) rfl rfl (Nat.le_of_ble_eq_true rfl) rfl) ?_
   refine Qf E_good ?_
   refine SafeOps.nil ?_
   repeat (first | refine sq ?_ | refine sk ?_ | with_reducible first | refine tn ?_ | refine bn ?_)
   refine Safe.region ?_
   refine Qf E_good ?_
   refine Q0 E_good rfl (v := V.agg [V.int .i64 0, V.int .i64 4]) (.load rfl rfl (.box rfl rfl) rfl) ?_
   refine bindG h ?_
   rintro ⟨x_2040, x_2041, x_2042⟩ he2043 h
   refine SafeOps.quiet E_good rfl rfl rfl (v := V.tup [V.ref [37, 0] 0 (rws (fun n => [V.int .i64 n]) x_2040).length, V.agg [V.int .i64 x_2041.Kind, V.int .i64 x_2041.Pc, V.int .i64 x_2041.V, V.int .i64 x_2041.T, V.int .i64 x_2041.B, V.bool x_2041.Won, V.int .i64 x_2041.State], V.bool x_2042]) (.callS rfl (.cons (.full rfl rfl) (.cons (.free rfl) (.cons (.free rfl) (.cons (.free rfl) .nil)))) (go_ravellaw07_done_sc x_2036 (api_Deque.mk 0 4) 3 0 _ he2043) (.tupL (.cons (.ownM (fun _ => rfl)) (.cons (.aggL (.cons (.plain rfl) (.cons (.plain rfl) (.cons (.plain rfl) (.cons (.plain rfl) (.cons (.plain rfl) (.cons (.plain rfl) (.cons (.plain rfl) .nil)))))))) (.cons (.plain rfl) .nil)))) rfl) rfl ?_
   refine Qf E_good ?_
   refine Qf E_good ?_
   refine Qf E_good ?_
   refine Qf E_good ?_
   refine SafeOps.quiet1 E_good rfl rfl rfl (.alloc rfl rfl) rfl ?_
   refine Qf E_good ?_
   refine SafeOps.store (z := Obj.box [V.int .i64 x_2041.Kind, V.int .i64 x_2041.Pc, V.int .i64 x_2041.V, V.int .i64 x_2041.T, V.int .i64 x_2041.B, V.bool x_2041.Won, V.int .i64 x_2041.State]) E_good rfl rfl rfl rfl rfl rfl rfl (.boxM (c := 7) rfl rfl (Nat.le_of_ble_eq_true rfl) rfl) ?_
   refine Qf E_good ?_
   refine SafeOps.nil ?_
   repeat (first | refine sq ?_ | refine sk ?_ | with_reducible first | refine tn ?_ | refine bn ?_)
   refine Safe.region ?_
   refine Qf E_good ?_
   refine Qf E_good ?_
   refine SafeOps.bjoin 2 44 (b := (x_2030 && x_2034)) (b1 := x_2034) (b0 := false) (fun hc2044 K => ?_) (fun hc2044 K => ?_) bj_and ?_
   ·skip
    refine SafeOps.quiet0 E_good (congrArg some hc2044) rfl rfl (.fn rfl) ?_
    refine Q0 E_good rfl (v := V.bool x_2034) (.pickK rfl hc2044 rfl) ?_
    exact SafeOps.drop' 2 rfl rfl rfl K
   ·skip
    refine SafeOps.skip (congrArg some hc2044) rfl rfl ?_
    refine Q0 E_good rfl (v := V.bool false) (.pickK rfl hc2044 rfl) ?_
    exact SafeOps.drop' 2 rfl rfl rfl K
   refine Qf E_good ?_
   refine SafeOps.bjoin 2 47 (b := ((x_2030 && x_2034) && x_2038)) (b1 := x_2038) (b0 := false) (fun hc2045 K => ?_) (fun hc2045 K => ?_) bj_and ?_
   ·skip
    refine SafeOps.quiet0 E_good (congrArg some hc2045) rfl rfl (.fn rfl) ?_
    refine Q0 E_good rfl (v := V.bool x_2038) (.pickK rfl hc2045 rfl) ?_
    exact SafeOps.drop' 2 rfl rfl rfl K
   ·skip
    refine SafeOps.skip (congrArg some hc2045) rfl rfl ?_
    refine Q0 E_good rfl (v := V.bool false) (.pickK rfl hc2045 rfl) ?_
    exact SafeOps.drop' 2 rfl rfl rfl K
   refine Qf E_good ?_
   refine SafeOps.bjoin 2 50 (b := (((x_2030 && x_2034) && x_2038) && x_2042)) (b1 := x_2042) (b0 := false) (fun hc2046 K => ?_) (fun hc2046 K => ?_) bj_and ?_
   ·skip
    refine SafeOps.quiet0 E_good (congrArg some hc2046) rfl rfl (.fn rfl) ?_
    refine Q0 E_good rfl (v := V.bool x_2042) (.pickK rfl hc2046 rfl) ?_
    exact SafeOps.drop' 2 rfl rfl rfl K
   ·skip
    refine SafeOps.skip (congrArg some hc2046) rfl rfl ?_
    refine Q0 E_good rfl (v := V.bool false) (.pickK rfl hc2046 rfl) ?_
    exact SafeOps.drop' 2 rfl rfl rfl K
   refine Qf E_good ?_
   refine SafeOps.bjoin 4 55 (b := ((((x_2030 && x_2034) && x_2038) && x_2042) && (x_2037.V == 6))) (b1 := (x_2037.V == 6)) (b0 := false) (fun hc2047 K => ?_) (fun hc2047 K => ?_) bj_and ?_
   ·skip
    refine SafeOps.quiet0 E_good (congrArg some hc2047) rfl rfl (v := V.ptr [7] 0 2) (.fn rfl) ?_
    refine SafeOps.quiet0 E_good (congrArg some hc2047) rfl rfl (v := V.int .i64 x_2037.V) (.load rfl rfl (.box rfl rfl) rfl) ?_
    refine SafeOps.quiet0 E_good (congrArg some hc2047) rfl rfl (v := V.bool (x_2037.V == 6)) (.fn rfl) ?_
    refine Q0 E_good rfl (v := V.bool (x_2037.V == 6)) (.pickK rfl hc2047 rfl) ?_
    exact SafeOps.drop' 4 rfl rfl rfl K
   ·skip
    refine SafeOps.skip (congrArg some hc2047) rfl rfl ?_
    refine SafeOps.skip (congrArg some hc2047) rfl rfl ?_
    refine SafeOps.skip (congrArg some hc2047) rfl rfl ?_
    refine Q0 E_good rfl (v := V.bool false) (.pickK rfl hc2047 rfl) ?_
    exact SafeOps.drop' 4 rfl rfl rfl K
   refine Qf E_good ?_
   refine SafeOps.bjoin 4 60 (b := (((((x_2030 && x_2034) && x_2038) && x_2042) && (x_2037.V == 6)) && (x_2041.V == 5))) (b1 := (x_2041.V == 5)) (b0 := false) (fun hc2048 K => ?_) (fun hc2048 K => ?_) bj_and ?_
   ·skip
    refine SafeOps.quiet0 E_good (congrArg some hc2048) rfl rfl (v := V.ptr [10] 0 2) (.fn rfl) ?_
    refine SafeOps.quiet0 E_good (congrArg some hc2048) rfl rfl (v := V.int .i64 x_2041.V) (.load rfl rfl (.box rfl rfl) rfl) ?_
    refine SafeOps.quiet0 E_good (congrArg some hc2048) rfl rfl (v := V.bool (x_2041.V == 5)) (.fn rfl) ?_
    refine Q0 E_good rfl (v := V.bool (x_2041.V == 5)) (.pickK rfl hc2048 rfl) ?_
    exact SafeOps.drop' 4 rfl rfl rfl K
   ·skip
    refine SafeOps.skip (congrArg some hc2048) rfl rfl ?_
    refine SafeOps.skip (congrArg some hc2048) rfl rfl ?_
    refine SafeOps.skip (congrArg some hc2048) rfl rfl ?_
    refine Q0 E_good rfl (v := V.bool false) (.pickK rfl hc2048 rfl) ?_
    exact SafeOps.drop' 4 rfl rfl rfl K
   refine Qf E_good ?_
   refine SafeOps.bjoin 4 65 (b := ((((((x_2030 && x_2034) && x_2038) && x_2042) && (x_2037.V == 6)) && (x_2041.V == 5)) && (x_2037.State == 1))) (b1 := (x_2037.State == 1)) (b0 := false) (fun hc2049 K => ?_) (fun hc2049 K => ?_) bj_and ?_
   ·skip
    refine SafeOps.quiet0 E_good (congrArg some hc2049) rfl rfl (v := V.ptr [7] 0 6) (.fn rfl) ?_
    refine SafeOps.quiet0 E_good (congrArg some hc2049) rfl rfl (v := V.int .i64 x_2037.State) (.load rfl rfl (.box rfl rfl) rfl) ?_
    refine SafeOps.quiet0 E_good (congrArg some hc2049) rfl rfl (v := V.bool (x_2037.State == 1)) (.fn rfl) ?_
    refine Q0 E_good rfl (v := V.bool (x_2037.State == 1)) (.pickK rfl hc2049 rfl) ?_
    exact SafeOps.drop' 4 rfl rfl rfl K
   ·skip
    refine SafeOps.skip (congrArg some hc2049) rfl rfl ?_
    refine SafeOps.skip (congrArg some hc2049) rfl rfl ?_
    refine SafeOps.skip (congrArg some hc2049) rfl rfl ?_
    refine Q0 E_good rfl (v := V.bool false) (.pickK rfl hc2049 rfl) ?_
    exact SafeOps.drop' 4 rfl rfl rfl K
   refine Qf E_good ?_
   refine SafeOps.bjoin 4 70 (b := (((((((x_2030 && x_2034) && x_2038) && x_2042) && (x_2037.V == 6)) && (x_2041.V == 5)) && (x_2037.State == 1)) && (x_2041.State == 1))) (b1 := (x_2041.State == 1)) (b0 := false) (fun hc2050 K => ?_) (fun hc2050 K => ?_) bj_and ?_
   ·skip
    refine SafeOps.quiet0 E_good (congrArg some hc2050) rfl rfl (v := V.ptr [10] 0 6) (.fn rfl) ?_
    refine SafeOps.quiet0 E_good (congrArg some hc2050) rfl rfl (v := V.int .i64 x_2041.State) (.load rfl rfl (.box rfl rfl) rfl) ?_
    refine SafeOps.quiet0 E_good (congrArg some hc2050) rfl rfl (v := V.bool (x_2041.State == 1)) (.fn rfl) ?_
    refine Q0 E_good rfl (v := V.bool (x_2041.State == 1)) (.pickK rfl hc2050 rfl) ?_
    exact SafeOps.drop' 4 rfl rfl rfl K
   ·skip
    refine SafeOps.skip (congrArg some hc2050) rfl rfl ?_
    refine SafeOps.skip (congrArg some hc2050) rfl rfl ?_
    refine SafeOps.skip (congrArg some hc2050) rfl rfl ?_
    refine Q0 E_good rfl (v := V.bool false) (.pickK rfl hc2050 rfl) ?_
    exact SafeOps.drop' 4 rfl rfl rfl K
   refine Qf E_good ?_
   refine SafeOps.nil ?_
   repeat (first | refine sq ?_ | refine sk ?_ | with_reducible first | refine tn ?_ | refine bn ?_)
   refine Safe.ret ?_
   repeat (first | with_reducible refine thenQ.r ?_ | with_reducible refine blockQ.r ?_)
   obtain rfl := Option.some.inj h
   exact retQ.gen (vs := [V.bool (((((((x_2030 && x_2034) && x_2038) && x_2042) && (x_2037.V == 6)) && (x_2041.V == 5)) && (x_2037.State == 1)) && (x_2041.State == 1))]) rfl (.tmp (v := V.bool (((((((x_2030 && x_2034) && x_2038) && x_2042) && (x_2037.V == 6)) && (x_2041.V == 5)) && (x_2037.State == 1)) && (x_2041.State == 1))) rfl .nil) (.free rfl) (by simp) (.inr rfl)
 ·skip
  refine .quiet rfl rfl rfl (.alloc rfl rfl) rfl ?_
  refine okG h (fun hb2027 h => ?_)
  refine DAny.only (i := 0) rfl (by kernel_rfl) (.quiet rfl rfl rfl (.makeM (f := (fun n => [V.int .i64 n])) (d := (0 : Int)) rfl rfl rfl rfl hb2027 rfl rfl rfl) rfl ?_)
  refine bindG h ?_
  rintro ⟨x_2028, x_2029, x_2030⟩ he2031 h
  refine DAny.only (i := 2) rfl (by kernel_rfl) (.quiet rfl rfl rfl (v := V.tup [V.ref [16, 0] 0 (rws (fun n => [V.int .i64 n]) x_2028).length, V.agg [V.int .i64 x_2029.Kind, V.int .i64 x_2029.Pc, V.int .i64 x_2029.V, V.int .i64 x_2029.T, V.int .i64 x_2029.B, V.bool x_2029.Won, V.int .i64 x_2029.State], V.bool x_2030]) (.callS rfl (.cons (.full rfl rfl) (.cons (.free rfl) (.cons (.free rfl) (.cons (.free rfl) .nil)))) (go_ravellaw07_done_sc (List.replicate (Int.toNat 6) (0 : Int)) (api_Deque.mk 0 4) 1 5 _ he2031) (.tupL (.cons (.ownM (fun _ => rfl)) (.cons (.aggL (.cons (.plain rfl) (.cons (.plain rfl) (.cons (.plain rfl) (.cons (.plain rfl) (.cons (.plain rfl) (.cons (.plain rfl) (.cons (.plain rfl) .nil)))))))) (.cons (.plain rfl) .nil)))) rfl) rfl ?_)
  refine DT 3 [[3]] rfl rfl (fun _ hz => (.fn rfl)) ?_
  refine DT 4 [[3]] rfl rfl (fun _ hz => (.fn rfl)) ?_
  refine DT 5 [[3]] rfl rfl (fun _ hz => (.fn rfl)) ?_
  refine DT 6 [[3]] rfl rfl (fun _ hz => (.fn rfl)) ?_
  refine DT 8 [[3]] rfl rfl (fun _ hz => (.fn rfl)) ?_
  refine DAny.only (i := 9) rfl (by kernel_rfl) (.store (z := Obj.box [V.int .i64 x_2029.Kind, V.int .i64 x_2029.Pc, V.int .i64 x_2029.V, V.int .i64 x_2029.T, V.int .i64 x_2029.B, V.bool x_2029.Won, V.int .i64 x_2029.State]) rfl rfl rfl rfl rfl rfl rfl (.boxM (c := 7) rfl rfl (Nat.le_of_ble_eq_true rfl) rfl) rfl ?_)
  refine DT 10 [[3]] rfl rfl (fun _ hz => (.fn rfl)) ?_
  refine DAny.nil (by kernel_rfl) ?_
  repeat (first | refine sq ?_ | refine sk ?_ | with_reducible first | refine tn ?_ | refine bn ?_)
  refine Safe.region ?_
  refine Qf E_good ?_
  refine Q0 E_good rfl (v := V.agg [V.int .i64 0, V.int .i64 4]) (.load rfl rfl (.box rfl rfl) rfl) ?_
  refine bindG h ?_
  rintro ⟨x_2032, x_2033, x_2034⟩ he2035 h
  refine SafeOps.quiet E_good rfl rfl rfl (v := V.tup [V.ref [23, 0] 0 (rws (fun n => [V.int .i64 n]) x_2032).length, V.agg [V.int .i64 x_2033.Kind, V.int .i64 x_2033.Pc, V.int .i64 x_2033.V, V.int .i64 x_2033.T, V.int .i64 x_2033.B, V.bool x_2033.Won, V.int .i64 x_2033.State], V.bool x_2034]) (.callS rfl (.cons (.full rfl rfl) (.cons (.free rfl) (.cons (.free rfl) (.cons (.free rfl) .nil)))) (go_ravellaw07_done_sc x_2028 (api_Deque.mk 0 4) 1 6 _ he2035) (.tupL (.cons (.ownM (fun _ => rfl)) (.cons (.aggL (.cons (.plain rfl) (.cons (.plain rfl) (.cons (.plain rfl) (.cons (.plain rfl) (.cons (.plain rfl) (.cons (.plain rfl) (.cons (.plain rfl) .nil)))))))) (.cons (.plain rfl) .nil)))) rfl) rfl ?_
  refine Qf E_good ?_
  refine Qf E_good ?_
  refine Qf E_good ?_
  refine Qf E_good ?_
  refine SafeOps.quiet1 E_good rfl rfl rfl (.alloc rfl rfl) rfl ?_
  refine Qf E_good ?_
  refine SafeOps.store (z := Obj.box [V.int .i64 x_2033.Kind, V.int .i64 x_2033.Pc, V.int .i64 x_2033.V, V.int .i64 x_2033.T, V.int .i64 x_2033.B, V.bool x_2033.Won, V.int .i64 x_2033.State]) E_good rfl rfl rfl rfl rfl rfl rfl (.boxM (c := 7) rfl rfl (Nat.le_of_ble_eq_true rfl) rfl) ?_
  refine Qf E_good ?_
  refine SafeOps.nil ?_
  repeat (first | refine sq ?_ | refine sk ?_ | with_reducible first | refine tn ?_ | refine bn ?_)
  refine Safe.region ?_
  refine Qf E_good ?_
  refine Q0 E_good rfl (v := V.agg [V.int .i64 0, V.int .i64 4]) (.load rfl rfl (.box rfl rfl) rfl) ?_
  refine bindG h ?_
  rintro ⟨x_2036, x_2037, x_2038⟩ he2039 h
  refine SafeOps.quiet E_good rfl rfl rfl (v := V.tup [V.ref [30, 0] 0 (rws (fun n => [V.int .i64 n]) x_2036).length, V.agg [V.int .i64 x_2037.Kind, V.int .i64 x_2037.Pc, V.int .i64 x_2037.V, V.int .i64 x_2037.T, V.int .i64 x_2037.B, V.bool x_2037.Won, V.int .i64 x_2037.State], V.bool x_2038]) (.callS rfl (.cons (.full rfl rfl) (.cons (.free rfl) (.cons (.free rfl) (.cons (.free rfl) .nil)))) (go_ravellaw07_done_sc x_2032 (api_Deque.mk 0 4) 2 0 _ he2039) (.tupL (.cons (.ownM (fun _ => rfl)) (.cons (.aggL (.cons (.plain rfl) (.cons (.plain rfl) (.cons (.plain rfl) (.cons (.plain rfl) (.cons (.plain rfl) (.cons (.plain rfl) (.cons (.plain rfl) .nil)))))))) (.cons (.plain rfl) .nil)))) rfl) rfl ?_
  refine Qf E_good ?_
  refine Qf E_good ?_
  refine Qf E_good ?_
  refine Qf E_good ?_
  refine SafeOps.quiet1 E_good rfl rfl rfl (.alloc rfl rfl) rfl ?_
  refine Qf E_good ?_
  refine SafeOps.store (z := Obj.box [V.int .i64 x_2037.Kind, V.int .i64 x_2037.Pc, V.int .i64 x_2037.V, V.int .i64 x_2037.T, V.int .i64 x_2037.B, V.bool x_2037.Won, V.int .i64 x_2037.State]) E_good rfl rfl rfl rfl rfl rfl rfl (.boxM (c := 7) rfl rfl (Nat.le_of_ble_eq_true rfl) rfl) ?_
  refine Qf E_good ?_
  refine SafeOps.nil ?_
  repeat (first | refine sq ?_ | refine sk ?_ | with_reducible first | refine tn ?_ | refine bn ?_)
  refine Safe.region ?_
  refine Qf E_good ?_
  refine Q0 E_good rfl (v := V.agg [V.int .i64 0, V.int .i64 4]) (.load rfl rfl (.box rfl rfl) rfl) ?_
  refine bindG h ?_
  rintro ⟨x_2040, x_2041, x_2042⟩ he2043 h
  refine SafeOps.quiet E_good rfl rfl rfl (v := V.tup [V.ref [37, 0] 0 (rws (fun n => [V.int .i64 n]) x_2040).length, V.agg [V.int .i64 x_2041.Kind, V.int .i64 x_2041.Pc, V.int .i64 x_2041.V, V.int .i64 x_2041.T, V.int .i64 x_2041.B, V.bool x_2041.Won, V.int .i64 x_2041.State], V.bool x_2042]) (.callS rfl (.cons (.full rfl rfl) (.cons (.free rfl) (.cons (.free rfl) (.cons (.free rfl) .nil)))) (go_ravellaw07_done_sc x_2036 (api_Deque.mk 0 4) 3 0 _ he2043) (.tupL (.cons (.ownM (fun _ => rfl)) (.cons (.aggL (.cons (.plain rfl) (.cons (.plain rfl) (.cons (.plain rfl) (.cons (.plain rfl) (.cons (.plain rfl) (.cons (.plain rfl) (.cons (.plain rfl) .nil)))))))) (.cons (.plain rfl) .nil)))) rfl) rfl ?_
  refine Qf E_good ?_
  refine Qf E_good ?_
  refine Qf E_good ?_
  refine Qf E_good ?_
  refine SafeOps.quiet1 E_good rfl rfl rfl (.alloc rfl rfl) rfl ?_
  refine Qf E_good ?_
  refine SafeOps.store (z := Obj.box [V.int .i64 x_2041.Kind, V.int .i64 x_2041.Pc, V.int .i64 x_2041.V, V.int .i64 x_2041.T, V.int .i64 x_2041.B, V.bool x_2041.Won, V.int .i64 x_2041.State]) E_good rfl rfl rfl rfl rfl rfl rfl (.boxM (c := 7) rfl rfl (Nat.le_of_ble_eq_true rfl) rfl) ?_
  refine Qf E_good ?_
  refine SafeOps.nil ?_
  repeat (first | refine sq ?_ | refine sk ?_ | with_reducible first | refine tn ?_ | refine bn ?_)
  refine Safe.region ?_
  refine Qf E_good ?_
  refine Qf E_good ?_
  refine SafeOps.bjoin 2 44 (b := (x_2030 && x_2034)) (b1 := x_2034) (b0 := false) (fun hc2044 K => ?_) (fun hc2044 K => ?_) bj_and ?_
  ·skip
   refine SafeOps.quiet0 E_good (congrArg some hc2044) rfl rfl (.fn rfl) ?_
   refine Q0 E_good rfl (v := V.bool x_2034) (.pickK rfl hc2044 rfl) ?_
   exact SafeOps.drop' 2 rfl rfl rfl K
  ·skip
   refine SafeOps.skip (congrArg some hc2044) rfl rfl ?_
   refine Q0 E_good rfl (v := V.bool false) (.pickK rfl hc2044 rfl) ?_
   exact SafeOps.drop' 2 rfl rfl rfl K
  refine Qf E_good ?_
  refine SafeOps.bjoin 2 47 (b := ((x_2030 && x_2034) && x_2038)) (b1 := x_2038) (b0 := false) (fun hc2045 K => ?_) (fun hc2045 K => ?_) bj_and ?_
  ·skip
   refine SafeOps.quiet0 E_good (congrArg some hc2045) rfl rfl (.fn rfl) ?_
   refine Q0 E_good rfl (v := V.bool x_2038) (.pickK rfl hc2045 rfl) ?_
   exact SafeOps.drop' 2 rfl rfl rfl K
  ·skip
   refine SafeOps.skip (congrArg some hc2045) rfl rfl ?_
   refine Q0 E_good rfl (v := V.bool false) (.pickK rfl hc2045 rfl) ?_
   exact SafeOps.drop' 2 rfl rfl rfl K
  refine Qf E_good ?_
  refine SafeOps.bjoin 2 50 (b := (((x_2030 && x_2034) && x_2038) && x_2042)) (b1 := x_2042) (b0 := false) (fun hc2046 K => ?_) (fun hc2046 K => ?_) bj_and ?_
  ·skip
   refine SafeOps.quiet0 E_good (congrArg some hc2046) rfl rfl (.fn rfl) ?_
   refine Q0 E_good rfl (v := V.bool x_2042) (.pickK rfl hc2046 rfl) ?_
   exact SafeOps.drop' 2 rfl rfl rfl K
  ·skip
   refine SafeOps.skip (congrArg some hc2046) rfl rfl ?_
   refine Q0 E_good rfl (v := V.bool false) (.pickK rfl hc2046 rfl) ?_
   exact SafeOps.drop' 2 rfl rfl rfl K
  refine Qf E_good ?_
  refine SafeOps.bjoin 4 55 (b := ((((x_2030 && x_2034) && x_2038) && x_2042) && (x_2037.V == 6))) (b1 := (x_2037.V == 6)) (b0 := false) (fun hc2047 K => ?_) (fun hc2047 K => ?_) bj_and ?_
  ·skip
   refine SafeOps.quiet0 E_good (congrArg some hc2047) rfl rfl (v := V.ptr [7] 0 2) (.fn rfl) ?_
   refine SafeOps.quiet0 E_good (congrArg some hc2047) rfl rfl (v := V.int .i64 x_2037.V) (.load rfl rfl (.box rfl rfl) rfl) ?_
   refine SafeOps.quiet0 E_good (congrArg some hc2047) rfl rfl (v := V.bool (x_2037.V == 6)) (.fn rfl) ?_
   refine Q0 E_good rfl (v := V.bool (x_2037.V == 6)) (.pickK rfl hc2047 rfl) ?_
   exact SafeOps.drop' 4 rfl rfl rfl K
  ·skip
   refine SafeOps.skip (congrArg some hc2047) rfl rfl ?_
   refine SafeOps.skip (congrArg some hc2047) rfl rfl ?_
   refine SafeOps.skip (congrArg some hc2047) rfl rfl ?_
   refine Q0 E_good rfl (v := V.bool false) (.pickK rfl hc2047 rfl) ?_
   exact SafeOps.drop' 4 rfl rfl rfl K
  refine Qf E_good ?_
  refine SafeOps.bjoin 4 60 (b := (((((x_2030 && x_2034) && x_2038) && x_2042) && (x_2037.V == 6)) && (x_2041.V == 5))) (b1 := (x_2041.V == 5)) (b0 := false) (fun hc2048 K => ?_) (fun hc2048 K => ?_) bj_and ?_
  ·skip
   refine SafeOps.quiet0 E_good (congrArg some hc2048) rfl rfl (v := V.ptr [10] 0 2) (.fn rfl) ?_
   refine SafeOps.quiet0 E_good (congrArg some hc2048) rfl rfl (v := V.int .i64 x_2041.V) (.load rfl rfl (.box rfl rfl) rfl) ?_
   refine SafeOps.quiet0 E_good (congrArg some hc2048) rfl rfl (v := V.bool (x_2041.V == 5)) (.fn rfl) ?_
   refine Q0 E_good rfl (v := V.bool (x_2041.V == 5)) (.pickK rfl hc2048 rfl) ?_
   exact SafeOps.drop' 4 rfl rfl rfl K
  ·skip
   refine SafeOps.skip (congrArg some hc2048) rfl rfl ?_
   refine SafeOps.skip (congrArg some hc2048) rfl rfl ?_
   refine SafeOps.skip (congrArg some hc2048) rfl rfl ?_
   refine Q0 E_good rfl (v := V.bool false) (.pickK rfl hc2048 rfl) ?_
   exact SafeOps.drop' 4 rfl rfl rfl K
  refine Qf E_good ?_
  refine SafeOps.bjoin 4 65 (b := ((((((x_2030 && x_2034) && x_2038) && x_2042) && (x_2037.V == 6)) && (x_2041.V == 5)) && (x_2037.State == 1))) (b1 := (x_2037.State == 1)) (b0 := false) (fun hc2049 K => ?_) (fun hc2049 K => ?_) bj_and ?_
  ·skip
   refine SafeOps.quiet0 E_good (congrArg some hc2049) rfl rfl (v := V.ptr [7] 0 6) (.fn rfl) ?_
   refine SafeOps.quiet0 E_good (congrArg some hc2049) rfl rfl (v := V.int .i64 x_2037.State) (.load rfl rfl (.box rfl rfl) rfl) ?_
   refine SafeOps.quiet0 E_good (congrArg some hc2049) rfl rfl (v := V.bool (x_2037.State == 1)) (.fn rfl) ?_
   refine Q0 E_good rfl (v := V.bool (x_2037.State == 1)) (.pickK rfl hc2049 rfl) ?_
   exact SafeOps.drop' 4 rfl rfl rfl K
  ·skip
   refine SafeOps.skip (congrArg some hc2049) rfl rfl ?_
   refine SafeOps.skip (congrArg some hc2049) rfl rfl ?_
   refine SafeOps.skip (congrArg some hc2049) rfl rfl ?_
   refine Q0 E_good rfl (v := V.bool false) (.pickK rfl hc2049 rfl) ?_
   exact SafeOps.drop' 4 rfl rfl rfl K
  refine Qf E_good ?_
  refine SafeOps.bjoin 4 70 (b := (((((((x_2030 && x_2034) && x_2038) && x_2042) && (x_2037.V == 6)) && (x_2041.V == 5)) && (x_2037.State == 1)) && (x_2041.State == 1))) (b1 := (x_2041.State == 1)) (b0 := false) (fun hc2050 K => ?_) (fun hc2050 K => ?_) bj_and ?_
  ·skip
   refine SafeOps.quiet0 E_good (congrArg some hc2050) rfl rfl (v := V.ptr [10] 0 6) (.fn rfl) ?_
   refine SafeOps.quiet0 E_good (congrArg some hc2050) rfl rfl (v := V.int .i64 x_2041.State) (.load rfl rfl (.box rfl rfl) rfl) ?_
   refine SafeOps.quiet0 E_good (congrArg some hc2050) rfl rfl (v := V.bool (x_2041.State == 1)) (.fn rfl) ?_
   refine Q0 E_good rfl (v := V.bool (x_2041.State == 1)) (.pickK rfl hc2050 rfl) ?_
   exact SafeOps.drop' 4 rfl rfl rfl K
  ·skip
   refine SafeOps.skip (congrArg some hc2050) rfl rfl ?_
   refine SafeOps.skip (congrArg some hc2050) rfl rfl ?_
   refine SafeOps.skip (congrArg some hc2050) rfl rfl ?_
   refine Q0 E_good rfl (v := V.bool false) (.pickK rfl hc2050 rfl) ?_
   exact SafeOps.drop' 4 rfl rfl rfl K
  refine Qf E_good ?_
  refine SafeOps.nil ?_
  repeat (first | refine sq ?_ | refine sk ?_ | with_reducible first | refine tn ?_ | refine bn ?_)
  refine Safe.ret ?_
  repeat (first | with_reducible refine thenQ.r ?_ | with_reducible refine blockQ.r ?_)
  obtain rfl := Option.some.inj h
  exact retQ.gen (vs := [V.bool (((((((x_2030 && x_2034) && x_2038) && x_2042) && (x_2037.V == 6)) && (x_2041.V == 5)) && (x_2037.State == 1)) && (x_2041.State == 1))]) rfl (.tmp (v := V.bool (((((((x_2030 && x_2034) && x_2038) && x_2042) && (x_2037.V == 6)) && (x_2041.V == 5)) && (x_2037.State == 1)) && (x_2041.State == 1))) rfl .nil) (.free rfl) (by simp) (.inr rfl)

def go_ravelref01_Check (a0_2316 : List Int) : Int :=
 if (decide ((a0_2316.length : Int) > 65536)) = true then
  1
 else
  0

theorem go_ravelref01_Check_sc (a0_2316 : List Int) (r : Int) (h : go_ravelref01_Check a0_2316 = r) : SC Try.prog gl 36 [V.sl 1 (rws (fun n => [V.int .i64 n]) a0_2316)] (V.int .i64 r) := by
 rw [go_ravelref01_Check] at h
 refine SC.of E_good Try.func36 rfl (fun _ _ => Try.call36 _ _) rfl ?_
 repeat (first | refine sq ?_ | refine sk ?_ | with_reducible first | refine tn ?_ | refine bn ?_)
 refine Safe.region ?_
 refine Qf E_good ?_
 refine SafeOps.nil ?_
 repeat (first | refine sq ?_ | refine sk ?_ | with_reducible first | refine tn ?_ | refine bn ?_)
 refine Safe.region ?_
 refine Qf E_good ?_
 refine Q0 E_good rfl (v := V.int .i64 (a0_2316.length : Int)) (.fnE rfl lenE) ?_
 refine Q0 E_good rfl (v := V.bool (decide ((a0_2316.length : Int) > 65536))) (.fn rfl) ?_
 refine SafeOps.nil ?_
 repeat (first | refine sq ?_ | refine sk ?_ | with_reducible first | refine tn ?_ | refine bn ?_)
 refine ifG h (fun hc2318 h => ?_) (fun hc2318 h => ?_)
 ·skip
  refine Safe.condK rfl hc2318 ?_
  repeat (first | refine sq ?_ | refine sk ?_ | with_reducible first | refine tn ?_ | refine bn ?_)
  refine Safe.region ?_
  refine Qf E_good ?_
  refine SafeOps.nil ?_
  repeat (first | refine sq ?_ | refine sk ?_ | with_reducible first | refine tn ?_ | refine bn ?_)
  refine Safe.ret ?_
  repeat (first | with_reducible refine thenQ.r ?_ | with_reducible refine blockQ.r ?_)
  obtain rfl := h
  exact retQ.gen (vs := [V.int .i64 1]) rfl (.tmp (v := V.int .i64 1) rfl .nil) (.free rfl) (by simp) (.inr rfl)
 ·skip
  refine Safe.condN rfl hc2318 ?_
  repeat (first | refine sq ?_ | refine sk ?_ | with_reducible first | refine tn ?_ | refine bn ?_)
  refine Safe.region ?_
  refine Qf E_good ?_
  refine SafeOps.nil ?_
  repeat (first | refine sq ?_ | refine sk ?_ | with_reducible first | refine tn ?_ | refine bn ?_)
  refine Safe.ret ?_
  repeat (first | with_reducible refine thenQ.r ?_ | with_reducible refine blockQ.r ?_)
  obtain rfl := h
  exact retQ.gen (vs := [V.int .i64 0]) rfl (.tmp (v := V.int .i64 0) rfl .nil) (.free rfl) (by simp) (.inr rfl)

def go_ravelref07_Check (a0_2314 : List Int) (a1_2315 : api_Deque) : Int :=
 if (((((((go_ravelref01_Check a0_2314) != 0) || (decide (a1_2315.Cap < 1))) || (decide (a1_2315.Cap > 1024))) || (decide (a1_2315.Base < 0))) || (decide (a1_2315.Base > (a0_2314.length : Int)))) || (decide ((IntKind.i64.wrap ((a0_2314.length : Int) - a1_2315.Base)) < (IntKind.i64.wrap (a1_2315.Cap + 2))))) = true then
  1
 else
  0

theorem go_ravelref07_Check_sc (a0_2314 : List Int) (a1_2315 : api_Deque) (r : Int) (h : go_ravelref07_Check a0_2314 a1_2315 = r) : SC Try.prog gl 18 [V.sl 1 (rws (fun n => [V.int .i64 n]) a0_2314), V.agg [V.int .i64 a1_2315.Base, V.int .i64 a1_2315.Cap]] (V.int .i64 r) := by
 rw [go_ravelref07_Check] at h
 refine SC.of E_good Try.func18 rfl (fun _ _ => Try.call18 _ _) rfl ?_
 repeat (first | refine sq ?_ | refine sk ?_ | with_reducible first | refine tn ?_ | refine bn ?_)
 refine Safe.region ?_
 refine SafeOps.quiet1 E_good rfl rfl rfl (.box rfl rfl) rfl ?_
 refine Qf E_good ?_
 refine SafeOps.nil ?_
 repeat (first | refine sq ?_ | refine sk ?_ | with_reducible first | refine tn ?_ | refine bn ?_)
 refine Safe.region ?_
 refine Qf E_good ?_
 refine Q0 E_good rfl (v := V.int .i64 (go_ravelref01_Check a0_2314)) (.callP rfl rfl (go_ravelref01_Check_sc a0_2314 _ rfl) rfl) ?_
 refine Q0 E_good rfl (v := V.bool ((go_ravelref01_Check a0_2314) != 0)) (.fn rfl) ?_
 refine Qf E_good ?_
 refine SafeOps.bjoin 4 12 (b := (((go_ravelref01_Check a0_2314) != 0) || (decide (a1_2315.Cap < 1)))) (b1 := true) (b0 := decide (a1_2315.Cap < 1)) (fun hc2325 K => ?_) (fun hc2325 K => ?_) bj_or ?_
 ·skip
  refine SafeOps.skip (congrArg (fun b => some (!b)) hc2325) rfl rfl ?_
  refine SafeOps.skip (congrArg (fun b => some (!b)) hc2325) rfl rfl ?_
  refine SafeOps.skip (congrArg (fun b => some (!b)) hc2325) rfl rfl ?_
  refine Q0 E_good rfl (v := V.bool true) (.pickK rfl hc2325 rfl) ?_
  exact SafeOps.drop' 4 rfl rfl rfl K
 ·skip
  refine SafeOps.quiet0 E_good (congrArg (fun b => some (!b)) hc2325) rfl rfl (v := V.ptr [3] 0 1) (.fn rfl) ?_
  refine SafeOps.quiet0 E_good (congrArg (fun b => some (!b)) hc2325) rfl rfl (v := V.int .i64 a1_2315.Cap) (.load rfl rfl (.box rfl rfl) rfl) ?_
  refine SafeOps.quiet0 E_good (congrArg (fun b => some (!b)) hc2325) rfl rfl (v := V.bool (decide (a1_2315.Cap < 1))) (.fn rfl) ?_
  refine Q0 E_good rfl (v := V.bool (decide (a1_2315.Cap < 1))) (.pickK rfl hc2325 rfl) ?_
  exact SafeOps.drop' 4 rfl rfl rfl K
 refine Qf E_good ?_
 refine SafeOps.bjoin 4 17 (b := ((((go_ravelref01_Check a0_2314) != 0) || (decide (a1_2315.Cap < 1))) || (decide (a1_2315.Cap > 1024)))) (b1 := true) (b0 := decide (a1_2315.Cap > 1024)) (fun hc2326 K => ?_) (fun hc2326 K => ?_) bj_or ?_
 ·skip
  refine SafeOps.skip (congrArg (fun b => some (!b)) hc2326) rfl rfl ?_
  refine SafeOps.skip (congrArg (fun b => some (!b)) hc2326) rfl rfl ?_
  refine SafeOps.skip (congrArg (fun b => some (!b)) hc2326) rfl rfl ?_
  refine Q0 E_good rfl (v := V.bool true) (.pickK rfl hc2326 rfl) ?_
  exact SafeOps.drop' 4 rfl rfl rfl K
 ·skip
  refine SafeOps.quiet0 E_good (congrArg (fun b => some (!b)) hc2326) rfl rfl (v := V.ptr [3] 0 1) (.fn rfl) ?_
  refine SafeOps.quiet0 E_good (congrArg (fun b => some (!b)) hc2326) rfl rfl (v := V.int .i64 a1_2315.Cap) (.load rfl rfl (.box rfl rfl) rfl) ?_
  refine SafeOps.quiet0 E_good (congrArg (fun b => some (!b)) hc2326) rfl rfl (v := V.bool (decide (a1_2315.Cap > 1024))) (.fn rfl) ?_
  refine Q0 E_good rfl (v := V.bool (decide (a1_2315.Cap > 1024))) (.pickK rfl hc2326 rfl) ?_
  exact SafeOps.drop' 4 rfl rfl rfl K
 refine Qf E_good ?_
 refine SafeOps.bjoin 4 22 (b := (((((go_ravelref01_Check a0_2314) != 0) || (decide (a1_2315.Cap < 1))) || (decide (a1_2315.Cap > 1024))) || (decide (a1_2315.Base < 0)))) (b1 := true) (b0 := decide (a1_2315.Base < 0)) (fun hc2327 K => ?_) (fun hc2327 K => ?_) bj_or ?_
 ·skip
  refine SafeOps.skip (congrArg (fun b => some (!b)) hc2327) rfl rfl ?_
  refine SafeOps.skip (congrArg (fun b => some (!b)) hc2327) rfl rfl ?_
  refine SafeOps.skip (congrArg (fun b => some (!b)) hc2327) rfl rfl ?_
  refine Q0 E_good rfl (v := V.bool true) (.pickK rfl hc2327 rfl) ?_
  exact SafeOps.drop' 4 rfl rfl rfl K
 ·skip
  refine SafeOps.quiet0 E_good (congrArg (fun b => some (!b)) hc2327) rfl rfl (v := V.ptr [3] 0 0) (.fn rfl) ?_
  refine SafeOps.quiet0 E_good (congrArg (fun b => some (!b)) hc2327) rfl rfl (v := V.int .i64 a1_2315.Base) (.load rfl rfl (.box rfl rfl) rfl) ?_
  refine SafeOps.quiet0 E_good (congrArg (fun b => some (!b)) hc2327) rfl rfl (v := V.bool (decide (a1_2315.Base < 0))) (.fn rfl) ?_
  refine Q0 E_good rfl (v := V.bool (decide (a1_2315.Base < 0))) (.pickK rfl hc2327 rfl) ?_
  exact SafeOps.drop' 4 rfl rfl rfl K
 refine Qf E_good ?_
 refine SafeOps.bjoin 6 29 (b := ((((((go_ravelref01_Check a0_2314) != 0) || (decide (a1_2315.Cap < 1))) || (decide (a1_2315.Cap > 1024))) || (decide (a1_2315.Base < 0))) || (decide (a1_2315.Base > (a0_2314.length : Int))))) (b1 := true) (b0 := decide (a1_2315.Base > (a0_2314.length : Int))) (fun hc2328 K => ?_) (fun hc2328 K => ?_) bj_or ?_
 ·skip
  refine SafeOps.skip (congrArg (fun b => some (!b)) hc2328) rfl rfl ?_
  refine SafeOps.skip (congrArg (fun b => some (!b)) hc2328) rfl rfl ?_
  refine SafeOps.skip (congrArg (fun b => some (!b)) hc2328) rfl rfl ?_
  refine SafeOps.skip (congrArg (fun b => some (!b)) hc2328) rfl rfl ?_
  refine SafeOps.skip (congrArg (fun b => some (!b)) hc2328) rfl rfl ?_
  refine Q0 E_good rfl (v := V.bool true) (.pickK rfl hc2328 rfl) ?_
  exact SafeOps.drop' 6 rfl rfl rfl K
 ·skip
  refine SafeOps.quiet0 E_good (congrArg (fun b => some (!b)) hc2328) rfl rfl (v := V.ptr [3] 0 0) (.fn rfl) ?_
  refine SafeOps.quiet0 E_good (congrArg (fun b => some (!b)) hc2328) rfl rfl (v := V.int .i64 a1_2315.Base) (.load rfl rfl (.box rfl rfl) rfl) ?_
  refine SafeOps.quiet0 E_good (congrArg (fun b => some (!b)) hc2328) rfl rfl (.fn rfl) ?_
  refine SafeOps.quiet0 E_good (congrArg (fun b => some (!b)) hc2328) rfl rfl (v := V.int .i64 (a0_2314.length : Int)) (.fnE rfl lenE) ?_
  refine SafeOps.quiet0 E_good (congrArg (fun b => some (!b)) hc2328) rfl rfl (v := V.bool (decide (a1_2315.Base > (a0_2314.length : Int)))) (.fn rfl) ?_
  refine Q0 E_good rfl (v := V.bool (decide (a1_2315.Base > (a0_2314.length : Int)))) (.pickK rfl hc2328 rfl) ?_
  exact SafeOps.drop' 6 rfl rfl rfl K
 refine Qf E_good ?_
 refine SafeOps.bjoin 10 40 (b := (((((((go_ravelref01_Check a0_2314) != 0) || (decide (a1_2315.Cap < 1))) || (decide (a1_2315.Cap > 1024))) || (decide (a1_2315.Base < 0))) || (decide (a1_2315.Base > (a0_2314.length : Int)))) || (decide ((IntKind.i64.wrap ((a0_2314.length : Int) - a1_2315.Base)) < (IntKind.i64.wrap (a1_2315.Cap + 2)))))) (b1 := true) (b0 := decide ((IntKind.i64.wrap ((a0_2314.length : Int) - a1_2315.Base)) < (IntKind.i64.wrap (a1_2315.Cap + 2)))) (fun hc2329 K => ?_) (fun hc2329 K => ?_) bj_or ?_
 ·skip
  refine SafeOps.skip (congrArg (fun b => some (!b)) hc2329) rfl rfl ?_
  refine SafeOps.skip (congrArg (fun b => some (!b)) hc2329) rfl rfl ?_
  refine SafeOps.skip (congrArg (fun b => some (!b)) hc2329) rfl rfl ?_
  refine SafeOps.skip (congrArg (fun b => some (!b)) hc2329) rfl rfl ?_
  refine SafeOps.skip (congrArg (fun b => some (!b)) hc2329) rfl rfl ?_
  refine SafeOps.skip (congrArg (fun b => some (!b)) hc2329) rfl rfl ?_
  refine SafeOps.skip (congrArg (fun b => some (!b)) hc2329) rfl rfl ?_
  refine SafeOps.skip (congrArg (fun b => some (!b)) hc2329) rfl rfl ?_
  refine SafeOps.skip (congrArg (fun b => some (!b)) hc2329) rfl rfl ?_
  refine Q0 E_good rfl (v := V.bool true) (.pickK rfl hc2329 rfl) ?_
  exact SafeOps.drop' 10 rfl rfl rfl K
 ·skip
  refine SafeOps.quiet0 E_good (congrArg (fun b => some (!b)) hc2329) rfl rfl (.fn rfl) ?_
  refine SafeOps.quiet0 E_good (congrArg (fun b => some (!b)) hc2329) rfl rfl (v := V.int .i64 (a0_2314.length : Int)) (.fnE rfl lenE) ?_
  refine SafeOps.quiet0 E_good (congrArg (fun b => some (!b)) hc2329) rfl rfl (v := V.ptr [3] 0 0) (.fn rfl) ?_
  refine SafeOps.quiet0 E_good (congrArg (fun b => some (!b)) hc2329) rfl rfl (v := V.int .i64 a1_2315.Base) (.load rfl rfl (.box rfl rfl) rfl) ?_
  refine SafeOps.quiet0 E_good (congrArg (fun b => some (!b)) hc2329) rfl rfl (v := V.int .i64 (IntKind.i64.wrap ((a0_2314.length : Int) - a1_2315.Base))) (.fn rfl) ?_
  refine SafeOps.quiet0 E_good (congrArg (fun b => some (!b)) hc2329) rfl rfl (v := V.ptr [3] 0 1) (.fn rfl) ?_
  refine SafeOps.quiet0 E_good (congrArg (fun b => some (!b)) hc2329) rfl rfl (v := V.int .i64 a1_2315.Cap) (.load rfl rfl (.box rfl rfl) rfl) ?_
  refine SafeOps.quiet0 E_good (congrArg (fun b => some (!b)) hc2329) rfl rfl (v := V.int .i64 (IntKind.i64.wrap (a1_2315.Cap + 2))) (.fn rfl) ?_
  refine SafeOps.quiet0 E_good (congrArg (fun b => some (!b)) hc2329) rfl rfl (v := V.bool (decide ((IntKind.i64.wrap ((a0_2314.length : Int) - a1_2315.Base)) < (IntKind.i64.wrap (a1_2315.Cap + 2))))) (.fn rfl) ?_
  refine Q0 E_good rfl (v := V.bool (decide ((IntKind.i64.wrap ((a0_2314.length : Int) - a1_2315.Base)) < (IntKind.i64.wrap (a1_2315.Cap + 2))))) (.pickK rfl hc2329 rfl) ?_
  exact SafeOps.drop' 10 rfl rfl rfl K
 refine SafeOps.nil ?_
 repeat (first | refine sq ?_ | refine sk ?_ | with_reducible first | refine tn ?_ | refine bn ?_)
 refine ifG h (fun hc2330 h => ?_) (fun hc2330 h => ?_)
 ·skip
  refine Safe.condK rfl hc2330 ?_
  repeat (first | refine sq ?_ | refine sk ?_ | with_reducible first | refine tn ?_ | refine bn ?_)
  refine Safe.region ?_
  refine Qf E_good ?_
  refine SafeOps.nil ?_
  repeat (first | refine sq ?_ | refine sk ?_ | with_reducible first | refine tn ?_ | refine bn ?_)
  refine Safe.ret ?_
  repeat (first | with_reducible refine thenQ.r ?_ | with_reducible refine blockQ.r ?_)
  obtain rfl := h
  exact retQ.gen (vs := [V.int .i64 1]) rfl (.tmp (v := V.int .i64 1) rfl .nil) (.free rfl) (by simp) (.inr rfl)
 ·skip
  refine Safe.condN rfl hc2330 ?_
  repeat (first | refine sq ?_ | refine sk ?_ | with_reducible first | refine tn ?_ | refine bn ?_)
  refine Safe.region ?_
  refine Qf E_good ?_
  refine SafeOps.nil ?_
  repeat (first | refine sq ?_ | refine sk ?_ | with_reducible first | refine tn ?_ | refine bn ?_)
  refine Safe.ret ?_
  repeat (first | with_reducible refine thenQ.r ?_ | with_reducible refine blockQ.r ?_)
  obtain rfl := h
  exact retQ.gen (vs := [V.int .i64 0]) rfl (.tmp (v := V.int .i64 0) rfl .nil) (.free rfl) (by simp) (.inr rfl)

def go_ravelref07_count (a0_2335 : Int) (a1_2336 : Int) : Bool :=
 ((decide (a0_2335 ≥ a1_2336)) && (decide (a0_2335 ≤ 1099511627776)))

theorem go_ravelref07_count_sc (a0_2335 : Int) (a1_2336 : Int) (r : Bool) (h : go_ravelref07_count a0_2335 a1_2336 = r) : SC Try.prog gl 33 [V.int .i64 a0_2335, V.int .i64 a1_2336] (V.bool r) := by
 rw [go_ravelref07_count] at h
 refine SC.of E_good Try.func33 rfl (fun _ _ => Try.call33 _ _) rfl ?_
 repeat (first | refine sq ?_ | refine sk ?_ | with_reducible first | refine tn ?_ | refine bn ?_)
 refine Safe.region ?_
 refine Qf E_good ?_
 refine SafeOps.nil ?_
 repeat (first | refine sq ?_ | refine sk ?_ | with_reducible first | refine tn ?_ | refine bn ?_)
 refine Safe.region ?_
 refine Qf E_good ?_
 refine Qf E_good ?_
 refine Q0 E_good rfl (v := V.bool (decide (a0_2335 ≥ a1_2336))) (.fn rfl) ?_
 refine Qf E_good ?_
 refine SafeOps.bjoin 3 11 (b := ((decide (a0_2335 ≥ a1_2336)) && (decide (a0_2335 ≤ 1099511627776)))) (b1 := decide (a0_2335 ≤ 1099511627776)) (b0 := false) (fun hc2338 K => ?_) (fun hc2338 K => ?_) bj_and ?_
 ·skip
  refine SafeOps.quiet0 E_good (congrArg some hc2338) rfl rfl (.fn rfl) ?_
  refine SafeOps.quiet0 E_good (congrArg some hc2338) rfl rfl (v := V.bool (decide (a0_2335 ≤ 1099511627776))) (.fn rfl) ?_
  refine Q0 E_good rfl (v := V.bool (decide (a0_2335 ≤ 1099511627776))) (.pickK rfl hc2338 rfl) ?_
  exact SafeOps.drop' 3 rfl rfl rfl K
 ·skip
  refine SafeOps.skip (congrArg some hc2338) rfl rfl ?_
  refine SafeOps.skip (congrArg some hc2338) rfl rfl ?_
  refine Q0 E_good rfl (v := V.bool false) (.pickK rfl hc2338 rfl) ?_
  exact SafeOps.drop' 3 rfl rfl rfl K
 refine Qf E_good ?_
 refine SafeOps.nil ?_
 repeat (first | refine sq ?_ | refine sk ?_ | with_reducible first | refine tn ?_ | refine bn ?_)
 refine Safe.ret ?_
 repeat (first | with_reducible refine thenQ.r ?_ | with_reducible refine blockQ.r ?_)
 obtain rfl := h
 exact retQ.gen (vs := [V.bool ((decide (a0_2335 ≥ a1_2336)) && (decide (a0_2335 ≤ 1099511627776)))]) rfl (.tmp (v := V.bool ((decide (a0_2335 ≥ a1_2336)) && (decide (a0_2335 ≤ 1099511627776)))) rfl .nil) (.free rfl) (by simp) (.inr rfl)

noncomputable def go_ravelref07_slot (a0_2344 : api_Deque) (a1_2345 : Int) : Option Int :=
 if a0_2344.Cap ≠ 0 then
  some (IntKind.i64.wrap ((IntKind.i64.wrap (a0_2344.Base + 2)) + (Int.tmod a1_2345 a0_2344.Cap)))
 else none

theorem go_ravelref07_slot_sc (a0_2344 : api_Deque) (a1_2345 : Int) (r : Int) (h : go_ravelref07_slot a0_2344 a1_2345 = some r) : SC Try.prog gl 34 [V.agg [V.int .i64 a0_2344.Base, V.int .i64 a0_2344.Cap], V.int .i64 a1_2345] (V.int .i64 r) := by
 rw [go_ravelref07_slot] at h
 refine SC.of E_good Try.func34 rfl (fun _ _ => Try.call34 _ _) rfl ?_
 repeat (first | refine sq ?_ | refine sk ?_ | with_reducible first | refine tn ?_ | refine bn ?_)
 refine Safe.region ?_
 refine SafeOps.quiet1 E_good rfl rfl rfl (.box rfl rfl) rfl ?_
 refine Qf E_good ?_
 refine SafeOps.nil ?_
 repeat (first | refine sq ?_ | refine sk ?_ | with_reducible first | refine tn ?_ | refine bn ?_)
 refine Safe.regionD (n := 9) [] [] E_good mixed rfl ?_
 refine DT 0 [] rfl rfl (v := V.ptr [2] 0 0) (fun _ hz => (.fn rfl)) ?_
 refine DT 1 [] rfl rfl (v := V.int .i64 a0_2344.Base) (fun _ hz => (.load rfl rfl (.box (hz _ _ rfl rfl) rfl) rfl)) ?_
 refine DT 2 [] rfl rfl (v := V.int .i64 (IntKind.i64.wrap (a0_2344.Base + 2))) (fun _ hz => (.fn rfl)) ?_
 refine DT 3 [] rfl rfl (fun _ hz => (.fn rfl)) ?_
 refine DT 4 [] rfl rfl (v := V.ptr [2] 0 1) (fun _ hz => (.fn rfl)) ?_
 refine DT 5 [] rfl rfl (v := V.int .i64 a0_2344.Cap) (fun _ hz => (.load rfl rfl (.box (hz _ _ rfl rfl) rfl) rfl)) ?_
 refine okG h (fun hb2347 h => ?_)
 refine DT 6 [] rfl rfl (v := V.int .i64 (Int.tmod a1_2345 a0_2344.Cap)) (fun _ hz => (.remV rfl rfl hb2347)) ?_
 refine DT 7 [] rfl rfl (v := V.int .i64 (IntKind.i64.wrap ((IntKind.i64.wrap (a0_2344.Base + 2)) + (Int.tmod a1_2345 a0_2344.Cap)))) (fun _ hz => (.fn rfl)) ?_
 refine DT 8 [] rfl rfl (fun _ hz => (.fn rfl)) ?_
 refine DAny.nil (by kernel_rfl) ?_
 repeat (first | refine sq ?_ | refine sk ?_ | with_reducible first | refine tn ?_ | refine bn ?_)
 refine Safe.ret ?_
 repeat (first | with_reducible refine thenQ.r ?_ | with_reducible refine blockQ.r ?_)
 obtain rfl := Option.some.inj h
 exact retQ.gen (vs := [V.int .i64 (IntKind.i64.wrap ((IntKind.i64.wrap (a0_2344.Base + 2)) + (Int.tmod a1_2345 a0_2344.Cap)))]) rfl (.tmp (v := V.int .i64 (IntKind.i64.wrap ((IntKind.i64.wrap (a0_2344.Base + 2)) + (Int.tmod a1_2345 a0_2344.Cap)))) rfl .nil) (.free rfl) (by simp) (.inr rfl)

noncomputable def go_ravelref01_Same_s1 (a0_2398 : List Int) (a1_2399 : List Int) : (Int) → Option ((Int) ⊕ (Bool))
 | v13_2428 =>
  if (decide (v13_2428 < (a0_2398.length : Int))) = true then
   if 0 ≤ v13_2428 ∧ v13_2428 < (a0_2398.length : Int) then
    if 0 ≤ v13_2428 ∧ v13_2428 < (a1_2399.length : Int) then
     if ((gt a0_2398 v13_2428) != (gt a1_2399 v13_2428)) = true then
      inrO (
       some false)
     else
      nextO (IntKind.i64.wrap (v13_2428 + 1))
    else none
   else none
  else
   inrO (
    some true)

noncomputable def go_ravelref01_Same (a0_2398 : List Int) (a1_2399 : List Int) : Option Bool :=
 if ((a0_2398.length : Int) != (a1_2399.length : Int)) = true then
  some false
 else
  whileO (go_ravelref01_Same_s1 a0_2398 a1_2399) 0

theorem go_ravelref01_Same_sc (a0_2398 : List Int) (a1_2399 : List Int) (r : Bool) (h : go_ravelref01_Same a0_2398 a1_2399 = some r) : SC Try.prog gl 14 [V.sl 1 (rws (fun n => [V.int .i64 n]) a0_2398), V.sl 1 (rws (fun n => [V.int .i64 n]) a1_2399)] (V.bool r) := by
 rw [go_ravelref01_Same] at h
 refine SC.of E_good Try.func14 rfl (fun _ _ => Try.call14 _ _) rfl ?_
 repeat (first | refine sq ?_ | refine sk ?_ | with_reducible first | refine tn ?_ | refine bn ?_)
 refine Safe.region ?_
 refine Qf E_good ?_
 refine SafeOps.nil ?_
 repeat (first | refine sq ?_ | refine sk ?_ | with_reducible first | refine tn ?_ | refine bn ?_)
 refine Safe.region ?_
 refine Qf E_good ?_
 refine Q0 E_good rfl (v := V.int .i64 (a0_2398.length : Int)) (.fnE rfl lenE) ?_
 refine Qf E_good ?_
 refine Q0 E_good rfl (v := V.int .i64 (a1_2399.length : Int)) (.fnE rfl lenE) ?_
 refine Q0 E_good rfl (v := V.bool ((a0_2398.length : Int) != (a1_2399.length : Int))) (.fn rfl) ?_
 refine SafeOps.nil ?_
 repeat (first | refine sq ?_ | refine sk ?_ | with_reducible first | refine tn ?_ | refine bn ?_)
 refine ifG h (fun hc2418 h => ?_) (fun hc2418 h => ?_)
 ·skip
  refine Safe.condK rfl hc2418 ?_
  repeat (first | refine sq ?_ | refine sk ?_ | with_reducible first | refine tn ?_ | refine bn ?_)
  refine Safe.region ?_
  refine Qf E_good ?_
  refine SafeOps.nil ?_
  repeat (first | refine sq ?_ | refine sk ?_ | with_reducible first | refine tn ?_ | refine bn ?_)
  refine Safe.ret ?_
  repeat (first | with_reducible refine thenQ.r ?_ | with_reducible refine blockQ.r ?_)
  obtain rfl := Option.some.inj h
  exact retQ.gen (vs := [V.bool false]) rfl (.tmp (v := V.bool false) rfl .nil) (.free rfl) (by simp) (.inr rfl)
 ·skip
  refine Safe.condN rfl hc2418 ?_
  repeat (first | refine sq ?_ | refine sk ?_ | with_reducible first | refine tn ?_ | refine bn ?_)
  refine Safe.region ?_
  refine Qf E_good ?_
  refine Q0 E_good rfl (v := V.int .i64 (a0_2398.length : Int)) (.fnE rfl lenE) ?_
  refine Qf E_good ?_
  refine SafeOps.nil ?_
  repeat (first | refine sq ?_ | refine sk ?_ | with_reducible first | refine tn ?_ | refine bn ?_)
  refine Safe.block ?_
  repeat (first | refine sq ?_ | refine sk ?_ | with_reducible first | refine tn ?_ | refine bn ?_)
  refine Safe.loopW (fun (v13_2428 : Int) => ⟨Try.f14.ntmps, [(0, V.sl 1 (rws (fun n => [V.int .i64 n]) a0_2398)), (1, V.sl 1 (rws (fun n => [V.int .i64 n]) a1_2399)), (12, V.int .i64 (a0_2398.length : Int)), (13, V.int .i64 v13_2428)], [], [], []⟩) h (.cov ⟨rfl, rfl, (ut (ut (ut (ut upT_nil)))), upOb_nil, upOut_nil, rfl⟩) ?_
  intro v13_2428 ohr2429 h hr2429
  replace h : go_ravelref01_Same_s1 a0_2398 a1_2399 v13_2428 = some ohr2429 := h
  rw [go_ravelref01_Same_s1] at h
  repeat (first | refine sq ?_ | refine sk ?_ | with_reducible first | refine tn ?_ | refine bn ?_)
  refine Safe.region ?_
  refine Q0 E_good rfl (v := V.bool (decide (v13_2428 < (a0_2398.length : Int)))) (.fn rfl) ?_
  refine SafeOps.nil ?_
  repeat (first | refine sq ?_ | refine sk ?_ | with_reducible first | refine tn ?_ | refine bn ?_)
  refine ifG h (fun hc2430 h => ?_) (fun hc2430 h => ?_)
  ·skip
   refine Safe.condK rfl hc2430 ?_
   repeat (first | refine sq ?_ | refine sk ?_ | with_reducible first | refine tn ?_ | refine bn ?_)
   refine Safe.block ?_
   repeat (first | refine sq ?_ | refine sk ?_ | with_reducible first | refine tn ?_ | refine bn ?_)
   refine Safe.region ?_
   refine Qf E_good ?_
   refine Qf E_good ?_
   refine SafeOps.nil ?_
   repeat (first | refine sq ?_ | refine sk ?_ | with_reducible first | refine tn ?_ | refine bn ?_)
   refine Safe.regionD (n := 9) [] [] E_good mixed rfl ?_
   refine DT 0 [] rfl rfl (fun _ hz => (.fn rfl)) ?_
   refine DT 1 [] rfl rfl (fun _ hz => (.fn rfl)) ?_
   refine okG h (fun hb2431 h => ?_)
   refine DT 2 [] rfl rfl (v := V.spt 1 (rws (fun n => [V.int .i64 n]) a0_2398) (Int.toNat v13_2428) 0) (fun _ hz => (.idxSlM (f := (fun n => [V.int .i64 n])) rfl rfl rfl rfl rfl hb2431)) ?_
   refine DT 3 [] rfl rfl (v := V.int .i64 (gt a0_2398 v13_2428)) (fun _ hz => (.load rfl rfl (.sptM (f := (fun n => [V.int .i64 n])) hb2431 rfl) rfl)) ?_
   refine DT 4 [] rfl rfl (fun _ hz => (.fn rfl)) ?_
   refine DT 5 [] rfl rfl (fun _ hz => (.fn rfl)) ?_
   refine okG h (fun hb2432 h => ?_)
   refine DT 6 [] rfl rfl (v := V.spt 1 (rws (fun n => [V.int .i64 n]) a1_2399) (Int.toNat v13_2428) 0) (fun _ hz => (.idxSlM (f := (fun n => [V.int .i64 n])) rfl rfl rfl rfl rfl hb2432)) ?_
   refine DT 7 [] rfl rfl (v := V.int .i64 (gt a1_2399 v13_2428)) (fun _ hz => (.load rfl rfl (.sptM (f := (fun n => [V.int .i64 n])) hb2432 rfl) rfl)) ?_
   refine DT 8 [] rfl rfl (v := V.bool ((gt a0_2398 v13_2428) != (gt a1_2399 v13_2428))) (fun _ hz => (.fn rfl)) ?_
   refine DAny.nil (by kernel_rfl) ?_
   repeat (first | refine sq ?_ | refine sk ?_ | with_reducible first | refine tn ?_ | refine bn ?_)
   refine ifG h (fun hc2433 h => ?_) (fun hc2433 h => ?_)
   ·skip
    refine Safe.condK rfl hc2433 ?_
    repeat (first | refine sq ?_ | refine sk ?_ | with_reducible first | refine tn ?_ | refine bn ?_)
    refine Safe.region ?_
    refine Qf E_good ?_
    refine SafeOps.nil ?_
    repeat (first | refine sq ?_ | refine sk ?_ | with_reducible first | refine tn ?_ | refine bn ?_)
    refine Safe.ret ?_
    repeat (first | with_reducible refine thenQ.r ?_ | with_reducible refine blockQ.r ?_)
    replace h := inr_out h hr2429
    obtain rfl := Option.some.inj h
    exact retQ.gen (vs := [V.bool false]) rfl (.tmp (v := V.bool false) rfl .nil) (.free rfl) (by simp) (.inr rfl)
   ·skip
    refine Safe.condN rfl hc2433 ?_
    repeat (first | refine sq ?_ | refine sk ?_ | with_reducible first | refine tn ?_ | refine bn ?_)
    refine Safe.region ?_
    refine Q0 E_good rfl (v := V.int .i64 (IntKind.i64.wrap (v13_2428 + 1))) (.fn rfl) ?_
    refine Qf E_good ?_
    refine SafeOps.nil ?_
    repeat (first | refine sq ?_ | refine sk ?_ | with_reducible first | refine tn ?_ | refine bn ?_)
    exact ⟨_, next_out h, (.cov ⟨rfl, rfl, (ut (ut (ut (ut upT_nil)))), upOb_nil, upOut_nil, rfl⟩)⟩
  ·skip
   refine Safe.condN rfl hc2430 ?_
   repeat (first | refine sq ?_ | refine sk ?_ | with_reducible first | refine tn ?_ | refine bn ?_)
   refine Safe.exit ?_
   repeat (first | with_reducible refine thenQ.e ?_ | with_reducible refine blockQ.x rfl ?_ | with_reducible refine blockQ.y rfl ?_)
   replace h := inr_out h hr2429
   repeat (first | refine sq ?_ | refine sk ?_ | with_reducible first | refine tn ?_ | refine bn ?_)
   refine Safe.region ?_
   refine Qf E_good ?_
   refine SafeOps.nil ?_
   repeat (first | refine sq ?_ | refine sk ?_ | with_reducible first | refine tn ?_ | refine bn ?_)
   refine Safe.ret ?_
   repeat (first | with_reducible refine thenQ.r ?_ | with_reducible refine blockQ.r ?_)
   obtain rfl := Option.some.inj h
   exact retQ.gen (vs := [V.bool true]) rfl (.tmp (v := V.bool true) rfl .nil) (.free rfl) (by simp) (.inr rfl)

def go_ravelref07_pcs (a0_2473 : Int) : Int :=
 if ((a0_2473 == 1) || (a0_2473 == 3)) = true then
  4
 else
  if (a0_2473 == 2) = true then
   7
  else
   0

theorem go_ravelref07_pcs_sc (a0_2473 : Int) (r : Int) (h : go_ravelref07_pcs a0_2473 = r) : SC Try.prog gl 27 [V.int .i64 a0_2473] (V.int .i64 r) := by
 rw [go_ravelref07_pcs] at h
 refine SC.of E_good Try.func27 rfl (fun _ _ => Try.call27 _ _) rfl ?_
 repeat (first | refine sq ?_ | refine sk ?_ | with_reducible first | refine tn ?_ | refine bn ?_)
 refine Safe.region ?_
 refine Qf E_good ?_
 refine SafeOps.nil ?_
 repeat (first | refine sq ?_ | refine sk ?_ | with_reducible first | refine tn ?_ | refine bn ?_)
 refine Safe.region ?_
 refine Qf E_good ?_
 refine Q0 E_good rfl (v := V.bool (a0_2473 == 1)) (.fn rfl) ?_
 refine Qf E_good ?_
 refine SafeOps.bjoin 3 8 (b := ((a0_2473 == 1) || (a0_2473 == 3))) (b1 := true) (b0 := (a0_2473 == 3)) (fun hc2477 K => ?_) (fun hc2477 K => ?_) bj_or ?_
 ·skip
  refine SafeOps.skip (congrArg (fun b => some (!b)) hc2477) rfl rfl ?_
  refine SafeOps.skip (congrArg (fun b => some (!b)) hc2477) rfl rfl ?_
  refine Q0 E_good rfl (v := V.bool true) (.pickK rfl hc2477 rfl) ?_
  exact SafeOps.drop' 3 rfl rfl rfl K
 ·skip
  refine SafeOps.quiet0 E_good (congrArg (fun b => some (!b)) hc2477) rfl rfl (.fn rfl) ?_
  refine SafeOps.quiet0 E_good (congrArg (fun b => some (!b)) hc2477) rfl rfl (v := V.bool (a0_2473 == 3)) (.fn rfl) ?_
  refine Q0 E_good rfl (v := V.bool (a0_2473 == 3)) (.pickK rfl hc2477 rfl) ?_
  exact SafeOps.drop' 3 rfl rfl rfl K
 refine SafeOps.nil ?_
 repeat (first | refine sq ?_ | refine sk ?_ | with_reducible first | refine tn ?_ | refine bn ?_)
 refine ifG h (fun hc2478 h => ?_) (fun hc2478 h => ?_)
 ·skip
  refine Safe.condK rfl hc2478 ?_
  repeat (first | refine sq ?_ | refine sk ?_ | with_reducible first | refine tn ?_ | refine bn ?_)
  refine Safe.region ?_
  refine Qf E_good ?_
  refine SafeOps.nil ?_
  repeat (first | refine sq ?_ | refine sk ?_ | with_reducible first | refine tn ?_ | refine bn ?_)
  refine Safe.ret ?_
  repeat (first | with_reducible refine thenQ.r ?_ | with_reducible refine blockQ.r ?_)
  obtain rfl := h
  exact retQ.gen (vs := [V.int .i64 4]) rfl (.tmp (v := V.int .i64 4) rfl .nil) (.free rfl) (by simp) (.inr rfl)
 ·skip
  refine Safe.condN rfl hc2478 ?_
  repeat (first | refine sq ?_ | refine sk ?_ | with_reducible first | refine tn ?_ | refine bn ?_)
  refine Safe.region ?_
  refine Qf E_good ?_
  refine Q0 E_good rfl (v := V.bool (a0_2473 == 2)) (.fn rfl) ?_
  refine SafeOps.nil ?_
  repeat (first | refine sq ?_ | refine sk ?_ | with_reducible first | refine tn ?_ | refine bn ?_)
  refine ifG h (fun hc2479 h => ?_) (fun hc2479 h => ?_)
  ·skip
   refine Safe.condK rfl hc2479 ?_
   repeat (first | refine sq ?_ | refine sk ?_ | with_reducible first | refine tn ?_ | refine bn ?_)
   refine Safe.region ?_
   refine Qf E_good ?_
   refine SafeOps.nil ?_
   repeat (first | refine sq ?_ | refine sk ?_ | with_reducible first | refine tn ?_ | refine bn ?_)
   refine Safe.ret ?_
   repeat (first | with_reducible refine thenQ.r ?_ | with_reducible refine blockQ.r ?_)
   obtain rfl := h
   exact retQ.gen (vs := [V.int .i64 7]) rfl (.tmp (v := V.int .i64 7) rfl .nil) (.free rfl) (by simp) (.inr rfl)
  ·skip
   refine Safe.condN rfl hc2479 ?_
   repeat (first | refine sq ?_ | refine sk ?_ | with_reducible first | refine tn ?_ | refine bn ?_)
   refine Safe.region ?_
   refine Qf E_good ?_
   refine SafeOps.nil ?_
   repeat (first | refine sq ?_ | refine sk ?_ | with_reducible first | refine tn ?_ | refine bn ?_)
   refine Safe.ret ?_
   repeat (first | with_reducible refine thenQ.r ?_ | with_reducible refine blockQ.r ?_)
   obtain rfl := h
   exact retQ.gen (vs := [V.int .i64 0]) rfl (.tmp (v := V.int .i64 0) rfl .nil) (.free rfl) (by simp) (.inr rfl)

def go_ravelref07_May (a0_2471 : api_Hand) : Bool :=
 if (decide (a0_2471.Pc ≥ 0)) = true then
  if (decide (a0_2471.Pc < (go_ravelref07_pcs a0_2471.Kind))) = true then
   if (go_ravelref07_count a0_2471.T (-1)) = true then
    if (go_ravelref07_count a0_2471.B (-1)) = true then
     if (decide (a0_2471.State ≥ 0)) = true then
      decide (a0_2471.State ≤ 4)
     else
      false
    else
     false
   else
    false
  else
   false
 else
  false

theorem go_ravelref07_May_sc (a0_2471 : api_Hand) (r : Bool) (h : go_ravelref07_May a0_2471 = r) : SC Try.prog gl 23 [V.agg [V.int .i64 a0_2471.Kind, V.int .i64 a0_2471.Pc, V.int .i64 a0_2471.V, V.int .i64 a0_2471.T, V.int .i64 a0_2471.B, V.bool a0_2471.Won, V.int .i64 a0_2471.State]] (V.bool r) := by
 rw [go_ravelref07_May] at h
 refine SC.of E_good Try.func23 rfl (fun _ _ => Try.call23 _ _) rfl ?_
 repeat (first | refine sq ?_ | refine sk ?_ | with_reducible first | refine tn ?_ | refine bn ?_)
 refine Safe.region ?_
 refine SafeOps.quiet1 E_good rfl rfl rfl (.box rfl rfl) rfl ?_
 refine Qf E_good ?_
 refine SafeOps.nil ?_
 repeat (first | refine sq ?_ | refine sk ?_ | with_reducible first | refine tn ?_ | refine bn ?_)
 refine Safe.regionD (n := 32) [] [] E_good mixed rfl ?_
 refine DT 0 [] rfl rfl (v := V.ptr [1] 0 1) (fun _ hz => (.fn rfl)) ?_
 refine DT 1 [] rfl rfl (v := V.int .i64 a0_2471.Pc) (fun _ hz => (.load rfl rfl (.box (hz _ _ rfl rfl) rfl) rfl)) ?_
 refine DT 2 [] rfl rfl (v := V.bool (decide (a0_2471.Pc ≥ 0))) (fun _ hz => (.fn rfl)) ?_
 refine DT 3 [] rfl rfl (fun _ hz => (.fn rfl)) ?_
 refine ifG h (fun hc2484 h => ?_) (fun hc2484 h => ?_)
 ·skip
  refine DAny.take (i := 4) rfl (by kernel_rfl) [] (by kernel_rfl) (by kernel_rfl) (by kernel_rfl) (congrArg some hc2484) rfl rfl (v := V.ptr [1] 0 1) (fun _ hz => (.fn rfl)) ?_
  refine DAny.take (i := 5) rfl (by kernel_rfl) [] (by kernel_rfl) (by kernel_rfl) (by kernel_rfl) (congrArg some hc2484) rfl rfl (v := V.int .i64 a0_2471.Pc) (fun _ hz => (.load rfl rfl (.box (hz _ _ rfl rfl) rfl) rfl)) ?_
  refine DAny.take (i := 6) rfl (by kernel_rfl) [] (by kernel_rfl) (by kernel_rfl) (by kernel_rfl) (congrArg some hc2484) rfl rfl (v := V.ptr [1] 0 0) (fun _ hz => (.fn rfl)) ?_
  refine DAny.take (i := 7) rfl (by kernel_rfl) [] (by kernel_rfl) (by kernel_rfl) (by kernel_rfl) (congrArg some hc2484) rfl rfl (v := V.int .i64 a0_2471.Kind) (fun _ hz => (.load rfl rfl (.box (hz _ _ rfl rfl) rfl) rfl)) ?_
  refine DAny.take (i := 8) rfl (by kernel_rfl) [] (by kernel_rfl) (by kernel_rfl) (by kernel_rfl) (congrArg some hc2484) rfl rfl (v := V.int .i64 (go_ravelref07_pcs a0_2471.Kind)) (fun _ hz => (.callP rfl rfl (go_ravelref07_pcs_sc a0_2471.Kind _ rfl) rfl)) ?_
  refine DAny.take (i := 9) rfl (by kernel_rfl) [] (by kernel_rfl) (by kernel_rfl) (by kernel_rfl) (congrArg some hc2484) rfl rfl (v := V.bool (decide (a0_2471.Pc < (go_ravelref07_pcs a0_2471.Kind)))) (fun _ hz => (.fn rfl)) ?_
  refine DT 10 [] rfl rfl (v := V.bool (decide (a0_2471.Pc < (go_ravelref07_pcs a0_2471.Kind)))) (fun _ hz => (.pickK rfl hc2484 rfl)) ?_
  refine DT 11 [] rfl rfl (fun _ hz => (.fn rfl)) ?_
  refine ifG h (fun hc2485 h => ?_) (fun hc2485 h => ?_)
  ·skip
   refine DAny.take (i := 12) rfl (by kernel_rfl) [] (by kernel_rfl) (by kernel_rfl) (by kernel_rfl) (congrArg some hc2485) rfl rfl (v := V.ptr [1] 0 3) (fun _ hz => (.fn rfl)) ?_
   refine DAny.take (i := 13) rfl (by kernel_rfl) [] (by kernel_rfl) (by kernel_rfl) (by kernel_rfl) (congrArg some hc2485) rfl rfl (v := V.int .i64 a0_2471.T) (fun _ hz => (.load rfl rfl (.box (hz _ _ rfl rfl) rfl) rfl)) ?_
   refine DAny.take (i := 14) rfl (by kernel_rfl) [] (by kernel_rfl) (by kernel_rfl) (by kernel_rfl) (congrArg some hc2485) rfl rfl (v := V.bool (go_ravelref07_count a0_2471.T (-1))) (fun _ hz => (.callP rfl rfl (go_ravelref07_count_sc a0_2471.T (-1) _ rfl) rfl)) ?_
   refine DT 15 [] rfl rfl (v := V.bool (go_ravelref07_count a0_2471.T (-1))) (fun _ hz => (.pickK rfl hc2485 rfl)) ?_
   refine DT 16 [] rfl rfl (fun _ hz => (.fn rfl)) ?_
   refine ifG h (fun hc2486 h => ?_) (fun hc2486 h => ?_)
   ·skip
    refine DAny.take (i := 17) rfl (by kernel_rfl) [] (by kernel_rfl) (by kernel_rfl) (by kernel_rfl) (congrArg some hc2486) rfl rfl (v := V.ptr [1] 0 4) (fun _ hz => (.fn rfl)) ?_
    refine DAny.take (i := 18) rfl (by kernel_rfl) [] (by kernel_rfl) (by kernel_rfl) (by kernel_rfl) (congrArg some hc2486) rfl rfl (v := V.int .i64 a0_2471.B) (fun _ hz => (.load rfl rfl (.box (hz _ _ rfl rfl) rfl) rfl)) ?_
    refine DAny.take (i := 19) rfl (by kernel_rfl) [] (by kernel_rfl) (by kernel_rfl) (by kernel_rfl) (congrArg some hc2486) rfl rfl (v := V.bool (go_ravelref07_count a0_2471.B (-1))) (fun _ hz => (.callP rfl rfl (go_ravelref07_count_sc a0_2471.B (-1) _ rfl) rfl)) ?_
    refine DT 20 [] rfl rfl (v := V.bool (go_ravelref07_count a0_2471.B (-1))) (fun _ hz => (.pickK rfl hc2486 rfl)) ?_
    refine DT 21 [] rfl rfl (fun _ hz => (.fn rfl)) ?_
    refine ifG h (fun hc2487 h => ?_) (fun hc2487 h => ?_)
    ·skip
     refine DAny.take (i := 22) rfl (by kernel_rfl) [] (by kernel_rfl) (by kernel_rfl) (by kernel_rfl) (congrArg some hc2487) rfl rfl (v := V.ptr [1] 0 6) (fun _ hz => (.fn rfl)) ?_
     refine DAny.take (i := 23) rfl (by kernel_rfl) [] (by kernel_rfl) (by kernel_rfl) (by kernel_rfl) (congrArg some hc2487) rfl rfl (v := V.int .i64 a0_2471.State) (fun _ hz => (.load rfl rfl (.box (hz _ _ rfl rfl) rfl) rfl)) ?_
     refine DAny.take (i := 24) rfl (by kernel_rfl) [] (by kernel_rfl) (by kernel_rfl) (by kernel_rfl) (congrArg some hc2487) rfl rfl (v := V.bool (decide (a0_2471.State ≥ 0))) (fun _ hz => (.fn rfl)) ?_
     refine DT 25 [] rfl rfl (v := V.bool (decide (a0_2471.State ≥ 0))) (fun _ hz => (.pickK rfl hc2487 rfl)) ?_
     refine DT 26 [] rfl rfl (fun _ hz => (.fn rfl)) ?_
     refine ifG h (fun hc2488 h => ?_) (fun hc2488 h => ?_)
     ·skip
      refine DAny.take (i := 27) rfl (by kernel_rfl) [] (by kernel_rfl) (by kernel_rfl) (by kernel_rfl) (congrArg some hc2488) rfl rfl (v := V.ptr [1] 0 6) (fun _ hz => (.fn rfl)) ?_
      refine DAny.take (i := 28) rfl (by kernel_rfl) [] (by kernel_rfl) (by kernel_rfl) (by kernel_rfl) (congrArg some hc2488) rfl rfl (v := V.int .i64 a0_2471.State) (fun _ hz => (.load rfl rfl (.box (hz _ _ rfl rfl) rfl) rfl)) ?_
      refine DAny.take (i := 29) rfl (by kernel_rfl) [] (by kernel_rfl) (by kernel_rfl) (by kernel_rfl) (congrArg some hc2488) rfl rfl (v := V.bool (decide (a0_2471.State ≤ 4))) (fun _ hz => (.fn rfl)) ?_
      refine DT 30 [] rfl rfl (v := V.bool (decide (a0_2471.State ≤ 4))) (fun _ hz => (.pickK rfl hc2488 rfl)) ?_
      refine DT 31 [] rfl rfl (fun _ hz => (.fn rfl)) ?_
      refine DAny.nil (by kernel_rfl) ?_
      repeat (first | refine sq ?_ | refine sk ?_ | with_reducible first | refine tn ?_ | refine bn ?_)
      refine Safe.ret ?_
      repeat (first | with_reducible refine thenQ.r ?_ | with_reducible refine blockQ.r ?_)
      obtain rfl := h
      exact retQ.gen (vs := [V.bool (decide (a0_2471.State ≤ 4))]) rfl (.tmp (v := V.bool (decide (a0_2471.State ≤ 4))) rfl .nil) (.free rfl) (by simp) (.inr rfl)
     ·skip
      refine DAny.takeSkip (i := 27) rfl (by kernel_rfl) [] (by kernel_rfl) (by kernel_rfl) (by kernel_rfl) (congrArg some hc2488) rfl rfl ?_
      refine DAny.takeSkip (i := 28) rfl (by kernel_rfl) [] (by kernel_rfl) (by kernel_rfl) (by kernel_rfl) (congrArg some hc2488) rfl rfl ?_
      refine DAny.takeSkip (i := 29) rfl (by kernel_rfl) [] (by kernel_rfl) (by kernel_rfl) (by kernel_rfl) (congrArg some hc2488) rfl rfl ?_
      refine DT 30 [] rfl rfl (v := V.bool false) (fun _ hz => (.pickK rfl hc2488 rfl)) ?_
      refine DT 31 [] rfl rfl (fun _ hz => (.fn rfl)) ?_
      refine DAny.nil (by kernel_rfl) ?_
      repeat (first | refine sq ?_ | refine sk ?_ | with_reducible first | refine tn ?_ | refine bn ?_)
      refine Safe.ret ?_
      repeat (first | with_reducible refine thenQ.r ?_ | with_reducible refine blockQ.r ?_)
      obtain rfl := h
      exact retQ.gen (vs := [V.bool false]) rfl (.tmp (v := V.bool false) rfl .nil) (.free rfl) (by simp) (.inr rfl)
    ·skip
     refine DAny.takeSkip (i := 22) rfl (by kernel_rfl) [] (by kernel_rfl) (by kernel_rfl) (by kernel_rfl) (congrArg some hc2487) rfl rfl ?_
     refine DAny.takeSkip (i := 23) rfl (by kernel_rfl) [] (by kernel_rfl) (by kernel_rfl) (by kernel_rfl) (congrArg some hc2487) rfl rfl ?_
     refine DAny.takeSkip (i := 24) rfl (by kernel_rfl) [] (by kernel_rfl) (by kernel_rfl) (by kernel_rfl) (congrArg some hc2487) rfl rfl ?_
     refine DT 25 [] rfl rfl (v := V.bool false) (fun _ hz => (.pickK rfl hc2487 rfl)) ?_
     refine DT 26 [] rfl rfl (fun _ hz => (.fn rfl)) ?_
     refine DAny.takeSkip (i := 27) rfl (by kernel_rfl) [] (by kernel_rfl) (by kernel_rfl) (by kernel_rfl) rfl rfl rfl ?_
     refine DAny.takeSkip (i := 28) rfl (by kernel_rfl) [] (by kernel_rfl) (by kernel_rfl) (by kernel_rfl) rfl rfl rfl ?_
     refine DAny.takeSkip (i := 29) rfl (by kernel_rfl) [] (by kernel_rfl) (by kernel_rfl) (by kernel_rfl) rfl rfl rfl ?_
     refine DT 30 [] rfl rfl (v := V.bool false) (fun _ hz => (.pickK rfl rfl rfl)) ?_
     refine DT 31 [] rfl rfl (fun _ hz => (.fn rfl)) ?_
     refine DAny.nil (by kernel_rfl) ?_
     repeat (first | refine sq ?_ | refine sk ?_ | with_reducible first | refine tn ?_ | refine bn ?_)
     refine Safe.ret ?_
     repeat (first | with_reducible refine thenQ.r ?_ | with_reducible refine blockQ.r ?_)
     obtain rfl := h
     exact retQ.gen (vs := [V.bool false]) rfl (.tmp (v := V.bool false) rfl .nil) (.free rfl) (by simp) (.inr rfl)
   ·skip
    refine DAny.takeSkip (i := 17) rfl (by kernel_rfl) [] (by kernel_rfl) (by kernel_rfl) (by kernel_rfl) (congrArg some hc2486) rfl rfl ?_
    refine DAny.takeSkip (i := 18) rfl (by kernel_rfl) [] (by kernel_rfl) (by kernel_rfl) (by kernel_rfl) (congrArg some hc2486) rfl rfl ?_
    refine DAny.takeSkip (i := 19) rfl (by kernel_rfl) [] (by kernel_rfl) (by kernel_rfl) (by kernel_rfl) (congrArg some hc2486) rfl rfl ?_
    refine DT 20 [] rfl rfl (v := V.bool false) (fun _ hz => (.pickK rfl hc2486 rfl)) ?_
    refine DT 21 [] rfl rfl (fun _ hz => (.fn rfl)) ?_
    refine DAny.takeSkip (i := 22) rfl (by kernel_rfl) [] (by kernel_rfl) (by kernel_rfl) (by kernel_rfl) rfl rfl rfl ?_
    refine DAny.takeSkip (i := 23) rfl (by kernel_rfl) [] (by kernel_rfl) (by kernel_rfl) (by kernel_rfl) rfl rfl rfl ?_
    refine DAny.takeSkip (i := 24) rfl (by kernel_rfl) [] (by kernel_rfl) (by kernel_rfl) (by kernel_rfl) rfl rfl rfl ?_
    refine DT 25 [] rfl rfl (v := V.bool false) (fun _ hz => (.pickK rfl rfl rfl)) ?_
    refine DT 26 [] rfl rfl (fun _ hz => (.fn rfl)) ?_
    refine DAny.takeSkip (i := 27) rfl (by kernel_rfl) [] (by kernel_rfl) (by kernel_rfl) (by kernel_rfl) rfl rfl rfl ?_
    refine DAny.takeSkip (i := 28) rfl (by kernel_rfl) [] (by kernel_rfl) (by kernel_rfl) (by kernel_rfl) rfl rfl rfl ?_
    refine DAny.takeSkip (i := 29) rfl (by kernel_rfl) [] (by kernel_rfl) (by kernel_rfl) (by kernel_rfl) rfl rfl rfl ?_
    refine DT 30 [] rfl rfl (v := V.bool false) (fun _ hz => (.pickK rfl rfl rfl)) ?_
    refine DT 31 [] rfl rfl (fun _ hz => (.fn rfl)) ?_
    refine DAny.nil (by kernel_rfl) ?_
    repeat (first | refine sq ?_ | refine sk ?_ | with_reducible first | refine tn ?_ | refine bn ?_)
    refine Safe.ret ?_
    repeat (first | with_reducible refine thenQ.r ?_ | with_reducible refine blockQ.r ?_)
    obtain rfl := h
    exact retQ.gen (vs := [V.bool false]) rfl (.tmp (v := V.bool false) rfl .nil) (.free rfl) (by simp) (.inr rfl)
  ·skip
   refine DAny.takeSkip (i := 12) rfl (by kernel_rfl) [] (by kernel_rfl) (by kernel_rfl) (by kernel_rfl) (congrArg some hc2485) rfl rfl ?_
   refine DAny.takeSkip (i := 13) rfl (by kernel_rfl) [] (by kernel_rfl) (by kernel_rfl) (by kernel_rfl) (congrArg some hc2485) rfl rfl ?_
   refine DAny.takeSkip (i := 14) rfl (by kernel_rfl) [] (by kernel_rfl) (by kernel_rfl) (by kernel_rfl) (congrArg some hc2485) rfl rfl ?_
   refine DT 15 [] rfl rfl (v := V.bool false) (fun _ hz => (.pickK rfl hc2485 rfl)) ?_
   refine DT 16 [] rfl rfl (fun _ hz => (.fn rfl)) ?_
   refine DAny.takeSkip (i := 17) rfl (by kernel_rfl) [] (by kernel_rfl) (by kernel_rfl) (by kernel_rfl) rfl rfl rfl ?_
   refine DAny.takeSkip (i := 18) rfl (by kernel_rfl) [] (by kernel_rfl) (by kernel_rfl) (by kernel_rfl) rfl rfl rfl ?_
   refine DAny.takeSkip (i := 19) rfl (by kernel_rfl) [] (by kernel_rfl) (by kernel_rfl) (by kernel_rfl) rfl rfl rfl ?_
   refine DT 20 [] rfl rfl (v := V.bool false) (fun _ hz => (.pickK rfl rfl rfl)) ?_
   refine DT 21 [] rfl rfl (fun _ hz => (.fn rfl)) ?_
   refine DAny.takeSkip (i := 22) rfl (by kernel_rfl) [] (by kernel_rfl) (by kernel_rfl) (by kernel_rfl) rfl rfl rfl ?_
   refine DAny.takeSkip (i := 23) rfl (by kernel_rfl) [] (by kernel_rfl) (by kernel_rfl) (by kernel_rfl) rfl rfl rfl ?_
   refine DAny.takeSkip (i := 24) rfl (by kernel_rfl) [] (by kernel_rfl) (by kernel_rfl) (by kernel_rfl) rfl rfl rfl ?_
   refine DT 25 [] rfl rfl (v := V.bool false) (fun _ hz => (.pickK rfl rfl rfl)) ?_
   refine DT 26 [] rfl rfl (fun _ hz => (.fn rfl)) ?_
   refine DAny.takeSkip (i := 27) rfl (by kernel_rfl) [] (by kernel_rfl) (by kernel_rfl) (by kernel_rfl) rfl rfl rfl ?_
   refine DAny.takeSkip (i := 28) rfl (by kernel_rfl) [] (by kernel_rfl) (by kernel_rfl) (by kernel_rfl) rfl rfl rfl ?_
   refine DAny.takeSkip (i := 29) rfl (by kernel_rfl) [] (by kernel_rfl) (by kernel_rfl) (by kernel_rfl) rfl rfl rfl ?_
   refine DT 30 [] rfl rfl (v := V.bool false) (fun _ hz => (.pickK rfl rfl rfl)) ?_
   refine DT 31 [] rfl rfl (fun _ hz => (.fn rfl)) ?_
   refine DAny.nil (by kernel_rfl) ?_
   repeat (first | refine sq ?_ | refine sk ?_ | with_reducible first | refine tn ?_ | refine bn ?_)
   refine Safe.ret ?_
   repeat (first | with_reducible refine thenQ.r ?_ | with_reducible refine blockQ.r ?_)
   obtain rfl := h
   exact retQ.gen (vs := [V.bool false]) rfl (.tmp (v := V.bool false) rfl .nil) (.free rfl) (by simp) (.inr rfl)
 ·skip
  refine DAny.takeSkip (i := 4) rfl (by kernel_rfl) [] (by kernel_rfl) (by kernel_rfl) (by kernel_rfl) (congrArg some hc2484) rfl rfl ?_
  refine DAny.takeSkip (i := 5) rfl (by kernel_rfl) [] (by kernel_rfl) (by kernel_rfl) (by kernel_rfl) (congrArg some hc2484) rfl rfl ?_
  refine DAny.takeSkip (i := 6) rfl (by kernel_rfl) [] (by kernel_rfl) (by kernel_rfl) (by kernel_rfl) (congrArg some hc2484) rfl rfl ?_
  refine DAny.takeSkip (i := 7) rfl (by kernel_rfl) [] (by kernel_rfl) (by kernel_rfl) (by kernel_rfl) (congrArg some hc2484) rfl rfl ?_
  refine DAny.takeSkip (i := 8) rfl (by kernel_rfl) [] (by kernel_rfl) (by kernel_rfl) (by kernel_rfl) (congrArg some hc2484) rfl rfl ?_
  refine DAny.takeSkip (i := 9) rfl (by kernel_rfl) [] (by kernel_rfl) (by kernel_rfl) (by kernel_rfl) (congrArg some hc2484) rfl rfl ?_
  refine DT 10 [] rfl rfl (v := V.bool false) (fun _ hz => (.pickK rfl hc2484 rfl)) ?_
  refine DT 11 [] rfl rfl (fun _ hz => (.fn rfl)) ?_
  refine DAny.takeSkip (i := 12) rfl (by kernel_rfl) [] (by kernel_rfl) (by kernel_rfl) (by kernel_rfl) rfl rfl rfl ?_
  refine DAny.takeSkip (i := 13) rfl (by kernel_rfl) [] (by kernel_rfl) (by kernel_rfl) (by kernel_rfl) rfl rfl rfl ?_
  refine DAny.takeSkip (i := 14) rfl (by kernel_rfl) [] (by kernel_rfl) (by kernel_rfl) (by kernel_rfl) rfl rfl rfl ?_
  refine DT 15 [] rfl rfl (v := V.bool false) (fun _ hz => (.pickK rfl rfl rfl)) ?_
  refine DT 16 [] rfl rfl (fun _ hz => (.fn rfl)) ?_
  refine DAny.takeSkip (i := 17) rfl (by kernel_rfl) [] (by kernel_rfl) (by kernel_rfl) (by kernel_rfl) rfl rfl rfl ?_
  refine DAny.takeSkip (i := 18) rfl (by kernel_rfl) [] (by kernel_rfl) (by kernel_rfl) (by kernel_rfl) rfl rfl rfl ?_
  refine DAny.takeSkip (i := 19) rfl (by kernel_rfl) [] (by kernel_rfl) (by kernel_rfl) (by kernel_rfl) rfl rfl rfl ?_
  refine DT 20 [] rfl rfl (v := V.bool false) (fun _ hz => (.pickK rfl rfl rfl)) ?_
  refine DT 21 [] rfl rfl (fun _ hz => (.fn rfl)) ?_
  refine DAny.takeSkip (i := 22) rfl (by kernel_rfl) [] (by kernel_rfl) (by kernel_rfl) (by kernel_rfl) rfl rfl rfl ?_
  refine DAny.takeSkip (i := 23) rfl (by kernel_rfl) [] (by kernel_rfl) (by kernel_rfl) (by kernel_rfl) rfl rfl rfl ?_
  refine DAny.takeSkip (i := 24) rfl (by kernel_rfl) [] (by kernel_rfl) (by kernel_rfl) (by kernel_rfl) rfl rfl rfl ?_
  refine DT 25 [] rfl rfl (v := V.bool false) (fun _ hz => (.pickK rfl rfl rfl)) ?_
  refine DT 26 [] rfl rfl (fun _ hz => (.fn rfl)) ?_
  refine DAny.takeSkip (i := 27) rfl (by kernel_rfl) [] (by kernel_rfl) (by kernel_rfl) (by kernel_rfl) rfl rfl rfl ?_
  refine DAny.takeSkip (i := 28) rfl (by kernel_rfl) [] (by kernel_rfl) (by kernel_rfl) (by kernel_rfl) rfl rfl rfl ?_
  refine DAny.takeSkip (i := 29) rfl (by kernel_rfl) [] (by kernel_rfl) (by kernel_rfl) (by kernel_rfl) rfl rfl rfl ?_
  refine DT 30 [] rfl rfl (v := V.bool false) (fun _ hz => (.pickK rfl rfl rfl)) ?_
  refine DT 31 [] rfl rfl (fun _ hz => (.fn rfl)) ?_
  refine DAny.nil (by kernel_rfl) ?_
  repeat (first | refine sq ?_ | refine sk ?_ | with_reducible first | refine tn ?_ | refine bn ?_)
  refine Safe.ret ?_
  repeat (first | with_reducible refine thenQ.r ?_ | with_reducible refine blockQ.r ?_)
  obtain rfl := h
  exact retQ.gen (vs := [V.bool false]) rfl (.tmp (v := V.bool false) rfl .nil) (.free rfl) (by simp) (.inr rfl)

def go_ravelref07_at (a0_2503 : api_Hand) (a1_2504 : Int) : api_Hand :=
 (api_Hand.mk a0_2503.Kind a1_2504 a0_2503.V a0_2503.T a0_2503.B a0_2503.Won a0_2503.State)

theorem go_ravelref07_at_sc (a0_2503 : api_Hand) (a1_2504 : Int) (r : api_Hand) (h : go_ravelref07_at a0_2503 a1_2504 = r) : SC Try.prog gl 51 [V.agg [V.int .i64 a0_2503.Kind, V.int .i64 a0_2503.Pc, V.int .i64 a0_2503.V, V.int .i64 a0_2503.T, V.int .i64 a0_2503.B, V.bool a0_2503.Won, V.int .i64 a0_2503.State], V.int .i64 a1_2504] (V.agg [V.int .i64 r.Kind, V.int .i64 r.Pc, V.int .i64 r.V, V.int .i64 r.T, V.int .i64 r.B, V.bool r.Won, V.int .i64 r.State]) := by
 rw [go_ravelref07_at] at h
 refine SC.of E_good Try.func51 rfl (fun _ _ => Try.call51 _ _) rfl ?_
 repeat (first | refine sq ?_ | refine sk ?_ | with_reducible first | refine tn ?_ | refine bn ?_)
 refine Safe.region ?_
 refine SafeOps.quiet1 E_good rfl rfl rfl (.box rfl rfl) rfl ?_
 refine SafeOps.quiet1 E_good rfl rfl rfl (.alloc rfl rfl) rfl ?_
 refine SafeOps.nil ?_
 repeat (first | refine sq ?_ | refine sk ?_ | with_reducible first | refine tn ?_ | refine bn ?_)
 refine Safe.region ?_
 refine Qf E_good ?_
 refine Q0 E_good rfl (v := V.ptr [2] 0 1) (.fn rfl) ?_
 refine SafeOps.store (z := Obj.box [V.int .i64 a0_2503.Kind, V.int .i64 a1_2504, V.int .i64 a0_2503.V, V.int .i64 a0_2503.T, V.int .i64 a0_2503.B, V.bool a0_2503.Won, V.int .i64 a0_2503.State]) E_good rfl rfl rfl rfl rfl rfl rfl (.boxM (c := 7) rfl rfl (Nat.le_of_ble_eq_true rfl) rfl) ?_
 refine SafeOps.nil ?_
 repeat (first | refine sq ?_ | refine sk ?_ | with_reducible first | refine tn ?_ | refine bn ?_)
 refine Safe.region ?_
 refine Q0 E_good rfl (v := V.agg [V.int .i64 a0_2503.Kind, V.int .i64 a1_2504, V.int .i64 a0_2503.V, V.int .i64 a0_2503.T, V.int .i64 a0_2503.B, V.bool a0_2503.Won, V.int .i64 a0_2503.State]) (.load rfl rfl (.box rfl rfl) rfl) ?_
 refine SafeOps.store (z := Obj.box [V.int .i64 a0_2503.Kind, V.int .i64 a1_2504, V.int .i64 a0_2503.V, V.int .i64 a0_2503.T, V.int .i64 a0_2503.B, V.bool a0_2503.Won, V.int .i64 a0_2503.State]) E_good rfl rfl rfl rfl rfl rfl rfl (.boxM (c := 7) rfl rfl (Nat.le_of_ble_eq_true rfl) rfl) ?_
 refine SafeOps.nil ?_
 repeat (first | refine sq ?_ | refine sk ?_ | with_reducible first | refine tn ?_ | refine bn ?_)
 refine Safe.ret ?_
 repeat (first | with_reducible refine thenQ.r ?_ | with_reducible refine blockQ.r ?_)
 obtain rfl := h
 exact retQ.gen (vs := [V.agg [V.int .i64 a0_2503.Kind, V.int .i64 a1_2504, V.int .i64 a0_2503.V, V.int .i64 a0_2503.T, V.int .i64 a0_2503.B, V.bool a0_2503.Won, V.int .i64 a0_2503.State]]) rfl (.cell (v := V.agg [V.int .i64 a0_2503.Kind, V.int .i64 a1_2504, V.int .i64 a0_2503.V, V.int .i64 a0_2503.T, V.int .i64 a0_2503.B, V.bool a0_2503.Won, V.int .i64 a0_2503.State]) rfl rfl (.box rfl rfl) rfl .nil) (.free rfl) (by simp) (.inr rfl)

def go_ravelref07_ended (a0_2514 : api_Hand) (a1_2515 : Int) : api_Hand :=
 (api_Hand.mk a0_2514.Kind a0_2514.Pc a0_2514.V a0_2514.T a0_2514.B a0_2514.Won a1_2515)

theorem go_ravelref07_ended_sc (a0_2514 : api_Hand) (a1_2515 : Int) (r : api_Hand) (h : go_ravelref07_ended a0_2514 a1_2515 = r) : SC Try.prog gl 52 [V.agg [V.int .i64 a0_2514.Kind, V.int .i64 a0_2514.Pc, V.int .i64 a0_2514.V, V.int .i64 a0_2514.T, V.int .i64 a0_2514.B, V.bool a0_2514.Won, V.int .i64 a0_2514.State], V.int .i64 a1_2515] (V.agg [V.int .i64 r.Kind, V.int .i64 r.Pc, V.int .i64 r.V, V.int .i64 r.T, V.int .i64 r.B, V.bool r.Won, V.int .i64 r.State]) := by
 rw [go_ravelref07_ended] at h
 refine SC.of E_good Try.func52 rfl (fun _ _ => Try.call52 _ _) rfl ?_
 repeat (first | refine sq ?_ | refine sk ?_ | with_reducible first | refine tn ?_ | refine bn ?_)
 refine Safe.region ?_
 refine SafeOps.quiet1 E_good rfl rfl rfl (.box rfl rfl) rfl ?_
 refine SafeOps.quiet1 E_good rfl rfl rfl (.alloc rfl rfl) rfl ?_
 refine SafeOps.nil ?_
 repeat (first | refine sq ?_ | refine sk ?_ | with_reducible first | refine tn ?_ | refine bn ?_)
 refine Safe.region ?_
 refine Qf E_good ?_
 refine Q0 E_good rfl (v := V.ptr [2] 0 6) (.fn rfl) ?_
 refine SafeOps.store (z := Obj.box [V.int .i64 a0_2514.Kind, V.int .i64 a0_2514.Pc, V.int .i64 a0_2514.V, V.int .i64 a0_2514.T, V.int .i64 a0_2514.B, V.bool a0_2514.Won, V.int .i64 a1_2515]) E_good rfl rfl rfl rfl rfl rfl rfl (.boxM (c := 7) rfl rfl (Nat.le_of_ble_eq_true rfl) rfl) ?_
 refine SafeOps.nil ?_
 repeat (first | refine sq ?_ | refine sk ?_ | with_reducible first | refine tn ?_ | refine bn ?_)
 refine Safe.region ?_
 refine Q0 E_good rfl (v := V.agg [V.int .i64 a0_2514.Kind, V.int .i64 a0_2514.Pc, V.int .i64 a0_2514.V, V.int .i64 a0_2514.T, V.int .i64 a0_2514.B, V.bool a0_2514.Won, V.int .i64 a1_2515]) (.load rfl rfl (.box rfl rfl) rfl) ?_
 refine SafeOps.store (z := Obj.box [V.int .i64 a0_2514.Kind, V.int .i64 a0_2514.Pc, V.int .i64 a0_2514.V, V.int .i64 a0_2514.T, V.int .i64 a0_2514.B, V.bool a0_2514.Won, V.int .i64 a1_2515]) E_good rfl rfl rfl rfl rfl rfl rfl (.boxM (c := 7) rfl rfl (Nat.le_of_ble_eq_true rfl) rfl) ?_
 refine SafeOps.nil ?_
 repeat (first | refine sq ?_ | refine sk ?_ | with_reducible first | refine tn ?_ | refine bn ?_)
 refine Safe.ret ?_
 repeat (first | with_reducible refine thenQ.r ?_ | with_reducible refine blockQ.r ?_)
 obtain rfl := h
 exact retQ.gen (vs := [V.agg [V.int .i64 a0_2514.Kind, V.int .i64 a0_2514.Pc, V.int .i64 a0_2514.V, V.int .i64 a0_2514.T, V.int .i64 a0_2514.B, V.bool a0_2514.Won, V.int .i64 a1_2515]]) rfl (.cell (v := V.agg [V.int .i64 a0_2514.Kind, V.int .i64 a0_2514.Pc, V.int .i64 a0_2514.V, V.int .i64 a0_2514.T, V.int .i64 a0_2514.B, V.bool a0_2514.Won, V.int .i64 a1_2515]) rfl rfl (.box rfl rfl) rfl .nil) (.free rfl) (by simp) (.inr rfl)

noncomputable def go_ravelref01_With (a0_2539 : List Int) (a1_2540 : Int) (a2_2541 : Int) : Option (List Int) :=
 if few ([] ++ a0_2539).length then
  if 0 ≤ a1_2540 ∧ a1_2540 < (([] ++ a0_2539).length : Int) then
   some (st ([] ++ a0_2539) a1_2540 a2_2541)
  else none
 else none

theorem go_ravelref01_With_sc (a0_2539 : List Int) (a1_2540 : Int) (a2_2541 : Int) (r : List Int) (h : go_ravelref01_With a0_2539 a1_2540 a2_2541 = some r) : SC Try.prog gl 53 [V.sl 1 (rws (fun n => [V.int .i64 n]) a0_2539), V.int .i64 a1_2540, V.int .i64 a2_2541] (V.own 1 (rws (fun n => [V.int .i64 n]) r)) := by
 rw [go_ravelref01_With] at h
 refine SC.of E_good Try.func53 rfl (fun _ _ => Try.call53 _ _) rfl ?_
 repeat (first | refine sq ?_ | refine sk ?_ | with_reducible first | refine tn ?_ | refine bn ?_)
 refine Safe.region ?_
 refine Qf E_good ?_
 refine SafeOps.nil ?_
 repeat (first | refine sq ?_ | refine sk ?_ | with_reducible first | refine tn ?_ | refine bn ?_)
 refine Safe.region ?_
 refine Qf E_good ?_
 refine okG h (fun hb2545 h => ?_)
 refine SafeOps.appendM (fun n => [V.int .i64 n]) (xs := []) (ys := a0_2539) E_good rfl rfl rfl rfl rfl rfl rfl rfl rfl .nils (.sl _) (fun _ => rfl) hb2545 ?_
 refine Qf E_good ?_
 refine SafeOps.nil ?_
 repeat (first | refine sq ?_ | refine sk ?_ | with_reducible first | refine tn ?_ | refine bn ?_)
 refine Safe.region ?_
 refine Qf E_good ?_
 refine Qf E_good ?_
 refine Qf E_good ?_
 refine okG h (fun hb2546 h => ?_)
 refine Q0 E_good rfl (v := V.ptr [9] (0 + Int.toNat a1_2540) 0) (.idxRefM (f := (fun n => [V.int .i64 n])) (xs := [] ++ a0_2539) rfl rfl rfl rfl rfl rfl hb2546) ?_
 refine SafeOps.store (z := Obj.rows 1 (rws (fun n => [V.int .i64 n]) (st ([] ++ a0_2539) a1_2540 a2_2541)) false) E_good rfl rfl rfl rfl rfl rfl rfl (.rowsM (f := (fun n => [V.int .i64 n])) (xs := [] ++ a0_2539) (y := a2_2541) hb2546 rfl rfl rfl rfl) ?_
 refine SafeOps.see 9 (u := V.ref [9] 0 (rws (fun n => [V.int .i64 n]) (st ([] ++ a0_2539) a1_2540 a2_2541)).length) rfl (.len (by simp [rws, st])) ?_
 refine SafeOps.see 7 (u := V.ref [9] 0 (rws (fun n => [V.int .i64 n]) (st ([] ++ a0_2539) a1_2540 a2_2541)).length) rfl (.len (by simp [rws, st])) ?_
 refine SafeOps.see 10 (u := V.ref [9] 0 (rws (fun n => [V.int .i64 n]) (st ([] ++ a0_2539) a1_2540 a2_2541)).length) rfl (.len (by simp [rws, st])) ?_
 refine SafeOps.nil ?_
 repeat (first | refine sq ?_ | refine sk ?_ | with_reducible first | refine tn ?_ | refine bn ?_)
 refine Safe.region ?_
 refine Qf E_good ?_
 refine Qf E_good ?_
 refine SafeOps.nil ?_
 repeat (first | refine sq ?_ | refine sk ?_ | with_reducible first | refine tn ?_ | refine bn ?_)
 refine Safe.ret ?_
 repeat (first | with_reducible refine thenQ.r ?_ | with_reducible refine blockQ.r ?_)
 obtain rfl := Option.some.inj h
 exact retQ.gen (vs := [V.ref [9] 0 (rws (fun n => [V.int .i64 n]) (st ([] ++ a0_2539) a1_2540 a2_2541)).length]) rfl (.tmp (v := V.ref [9] 0 (rws (fun n => [V.int .i64 n]) (st ([] ++ a0_2539) a1_2540 a2_2541)).length) rfl .nil) (by exact (.own rfl rfl)) (by simp) (.inr rfl)
end Go.Proofs.Ytoapmmcoaggekaa
