/- Helper lemmas for the claim's theorem: an abstract machine over the model, proved sound; no condition beyond each lemma's own. -/
import Derived.Test.YtoapmmcoaggekaaT1
set_option linter.unusedVariables false
set_option linter.unusedSimpArgs false
set_option linter.unnecessarySimpa false
set_option linter.unusedSectionVars false
namespace Go.Proofs.Ytoapmmcoaggekaa
open Go Go.AM
set_option maxRecDepth 100000
set_option maxHeartbeats 1000000
set_option linter.unusedVariables false
set_option linter.unusedSimpArgs false
variable {gl : List (Nat × List V)}
noncomputable def go_ring_Solo_s2 (a135 : api_Deque) : ((List Int) × Int × Int × Int × Int × Int × Bool × Int) → Option (((List Int) × Int × Int × Int × Int × Int × Bool × Int) ⊕ ((List Int) × api_Hand × Int))
 | (v136, v137, v138, v139, v140, v141, v142, v143) =>
  if (v143 == 0) = true then
   (go_ring_Step v136 a135 (api_Hand.mk v137 v138 v139 v140 v141 v142 v143)).bind fun (x144, x145, x146) =>
   if (x146 != 0) = true then
    inrO (
     some ([], api_Hand.zero, x146))
   else
    nextO (x144, x145.Kind, x145.Pc, x145.V, x145.T, x145.B, x145.Won, x145.State)
  else
   inrO (
    some (v136, (api_Hand.mk v137 v138 v139 v140 v141 v142 v143), 0))

noncomputable def go_ring_Solo (a147 : List Int) (a135 : api_Deque) (a148 : api_Hand) : Option ((List Int) × api_Hand × Int) :=
 if (((go_ring_Check a147 a135) != 0) || (!(go_ring_may a148))) = true then
  some ([], api_Hand.zero, 1)
 else
  if few ([] ++ a147).length then
   whileO (go_ring_Solo_s2 a135) ([] ++ a147, a148.Kind, a148.Pc, a148.V, a148.T, a148.B, a148.Won, a148.State)
  else none

theorem go_ring_Solo_sc (a147 : List Int) (a135 : api_Deque) (a148 : api_Hand) (r : (List Int) × api_Hand × Int) (h : go_ring_Solo a147 a135 a148 = some r) : SC Try.prog gl 10 [V.sl 1 (rws (fun n => [I n]) a147), V.agg [I a135.Base, I a135.Cap], V.agg [I a148.Kind, I a148.Pc, I a148.V, I a148.T, I a148.B, V.bool a148.Won, I a148.State]] (V.tup [V.own 1 (rws (fun n => [I n]) r.1), V.agg [I r.2.1.Kind, I r.2.1.Pc, I r.2.1.V, I r.2.1.T, I r.2.1.B, V.bool r.2.1.Won, I r.2.1.State], I r.2.2]) := by
 rw [go_ring_Solo] at h
 refine SC.of E_good Try.func10 rfl (fun _ _ => Try.call10 _ _) rfl ?_
 repeat first|apply sq|apply sk|with_reducible first|apply tn|apply bn
 refine Safe.region ?_
 refine SafeOps.quiet1 E_good rfl rfl rfl (.box rfl rfl) rfl ?_
 refine SafeOps.quiet1 E_good rfl rfl rfl (.box rfl rfl) rfl ?_
 refine Qf E_good ?_
 refine SafeOps.quiet1 E_good rfl rfl rfl (.alloc rfl rfl) rfl ?_
 refine Qf E_good ?_
 refine SafeOps.nil ?_
 repeat first|apply sq|apply sk|with_reducible first|apply tn|apply bn
 refine Safe.region ?_
 refine Qf E_good ?_
 refine Q0 E_good rfl (v := V.agg [I a135.Base, I a135.Cap]) (.load rfl rfl (.box rfl rfl) rfl) ?_
 refine Q0 E_good rfl (v := I (go_ring_Check a147 a135)) (.callP rfl rfl (go_ring_Check_sc a147 a135 _ rfl) rfl) ?_
 refine Q0 E_good rfl (v := V.bool ((go_ring_Check a147 a135) != 0)) (.fn rfl) ?_
 refine Qf E_good ?_
 refine SafeOps.bjoin 4 20 (b := (((go_ring_Check a147 a135) != 0) || (!(go_ring_may a148)))) (b1 := true) (b0 := (!(go_ring_may a148))) (fun hc1901 K => ?_) (fun hc1901 K => ?_) bj_or ?_
 ·skip
  refine sF hc1901 ?_
  refine sF hc1901 ?_
  refine sF hc1901 ?_
  refine Q0 E_good rfl (v := V.bool true) (.pickK rfl hc1901 rfl) ?_
  exact SafeOps.drop' 4 rfl rfl rfl K
 ·skip
  refine qF E_good hc1901 (v := V.agg [I a148.Kind, I a148.Pc, I a148.V, I a148.T, I a148.B, V.bool a148.Won, I a148.State]) (.load rfl rfl (.box rfl rfl) rfl) ?_
  refine qF E_good hc1901 (v := V.bool (go_ring_may a148)) (.callP rfl rfl (go_ring_may_sc a148 _ rfl) rfl) ?_
  refine qF E_good hc1901 (v := V.bool (!(go_ring_may a148))) (.fn rfl) ?_
  refine Q0 E_good rfl (v := V.bool (!(go_ring_may a148))) (.pickK rfl hc1901 rfl) ?_
  exact SafeOps.drop' 4 rfl rfl rfl K
 refine SafeOps.nil ?_
 repeat first|apply sq|apply sk|with_reducible first|apply tn|apply bn
 refine ifG h (fun hc1902 h => ?_) (fun hc1902 h => ?_)
 ·skip
  refine Safe.condK rfl hc1902 ?_
  repeat first|apply sq|apply sk|with_reducible first|apply tn|apply bn
  refine Safe.region ?_
  refine Q0 E_good rfl (v := V.agg [I 0, I 0, I 0, I 0, I 0, V.bool false, I 0]) (.fn rfl) ?_
  refine Qf E_good ?_
  refine SafeOps.store (z := Obj.box [I 0, I 0, I 0, I 0, I 0, V.bool false, I 0]) E_good rfl rfl rfl rfl rfl rfl rfl (.boxM (c := 7) rfl rfl (Nat.le_of_ble_eq_true rfl) rfl) ?_
  refine Qf E_good ?_
  refine SafeOps.nil ?_
  repeat first|apply sq|apply sk|with_reducible first|apply tn|apply bn
  refine Safe.ret ?_
  repeat (first | with_reducible refine thenQ.r ?_ | with_reducible refine blockQ.r ?_)
  obtain rfl := Option.some.inj h
  exact retQ.gen (vs := [V.nils, V.agg [I 0, I 0, I 0, I 0, I 0, V.bool false, I 0], I 1]) rfl (.tmp rfl (.cell (v := V.agg [I 0, I 0, I 0, I 0, I 0, V.bool false, I 0]) rfl rfl (.box rfl rfl) rfl (.tmp rfl .nil))) (by exact (.tup (.cons (.nils _) (.cons (.free rfl) (.cons (.free rfl) .nil))))) (by simp) (.inr rfl)
 ·skip
  refine Safe.condN rfl hc1902 ?_
  repeat first|apply sq|apply sk|with_reducible first|apply tn|apply bn
  refine Safe.region ?_
  refine Qf E_good ?_
  refine okG h (fun hb1903 h => ?_)
  refine SafeOps.appendM (fun n => [I n]) (xs := []) (ys := a147) E_good rfl rfl rfl rfl rfl rfl rfl rfl rfl .nils (.sl _) (fun _ => rfl) hb1903 ?_
  refine Qf E_good ?_
  refine SafeOps.nil ?_
  repeat first|apply sq|apply sk|with_reducible first|apply tn|apply bn
  refine Safe.block ?_
  repeat first|apply sq|apply sk|with_reducible first|apply tn|apply bn
  refine Safe.loopW (fun ((v136, v137, v138, v139, v140, v141, v142, v143) : (List Int) × Int × Int × Int × Int × Int × Bool × Int) => ⟨Try.f10.ntmps, [(0, V.ref [7000, 118, 0] 0 (rws (fun n => [I n]) v136).length), (4, V.ptr [4] 0 0), (5, V.ptr [5] 0 0), (7, V.ptr [7] 0 0)], [([4], Obj.box [I a135.Base, I a135.Cap]), ([5], Obj.box [I v137, I v138, I v139, I v140, I v141, V.bool v142, I v143]), ([7], Obj.box [I 0, I 0, I 0, I 0, I 0, V.bool false, I 0]), ([7000, 118, 0], Obj.rows 1 (rws (fun n => [I n]) v136) false)], [], []⟩) h (.ren [23] [7000, 118, 0] (.cov ⟨rfl, rfl, (ut (ut (ut (ut upT_nil)))), (uo (uo (uo (uo upOb_nil)))), upOut_nil, rfl⟩)) ?_
  rintro ⟨v136, v137, v138, v139, v140, v141, v142, v143⟩ ohr1967 h hr1967
  replace h : go_ring_Solo_s2 a135 (v136, v137, v138, v139, v140, v141, v142, v143) = some ohr1967 := h
  rw [go_ring_Solo_s2] at h
  repeat first|apply sq|apply sk|with_reducible first|apply tn|apply bn
  refine Safe.region ?_
  refine Q0 E_good rfl (v := V.ptr [5] 0 6) (.fn rfl) ?_
  refine Q0 E_good rfl (v := I v143) (.load rfl rfl (.box rfl rfl) rfl) ?_
  refine Q0 E_good rfl (v := V.bool (v143 == 0)) (.fn rfl) ?_
  refine SafeOps.nil ?_
  repeat first|apply sq|apply sk|with_reducible first|apply tn|apply bn
  refine ifG h (fun hc1968 h => ?_) (fun hc1968 h => ?_)
  ·skip
   refine Safe.condK rfl hc1968 ?_
   repeat first|apply sq|apply sk|with_reducible first|apply tn|apply bn
   refine Safe.block ?_
   repeat first|apply sq|apply sk|with_reducible first|apply tn|apply bn
   refine Safe.region ?_
   refine Qf E_good ?_
   refine Q0 E_good rfl (v := V.agg [I a135.Base, I a135.Cap]) (.load rfl rfl (.box rfl rfl) rfl) ?_
   refine Q0 E_good rfl (v := V.agg [I v137, I v138, I v139, I v140, I v141, V.bool v142, I v143]) (.load rfl rfl (.box rfl rfl) rfl) ?_
   refine bindG h ?_
   rintro ⟨x144, x145, x146⟩ he1972 h
   refine SafeOps.quiet E_good rfl rfl rfl (v := V.tup [V.ref [31, 0] 0 (rws (fun n => [I n]) x144).length, V.agg [I x145.Kind, I x145.Pc, I x145.V, I x145.T, I x145.B, V.bool x145.Won, I x145.State], I x146]) (.callS rfl (.cons (.full rfl rfl) (.cons (.free rfl) (.cons (.free rfl) .nil))) (go_ring_Step_sc v136 a135 (api_Hand.mk v137 v138 v139 v140 v141 v142 v143) _ he1972) (.tupL (.cons (.ownM (fun _ => rfl)) (.cons (.aggL (.cons (.plain rfl) (.cons (.plain rfl) (.cons (.plain rfl) (.cons (.plain rfl) (.cons (.plain rfl) (.cons (.plain rfl) (.cons (.plain rfl) .nil)))))))) (.cons (.plain rfl) .nil)))) rfl) rfl ?_
   refine Qf E_good ?_
   refine Qf E_good ?_
   refine Qf E_good ?_
   refine Qf E_good ?_
   refine SafeOps.quiet1 E_good rfl rfl rfl (.alloc rfl rfl) rfl ?_
   refine Qf E_good ?_
   refine SafeOps.store (z := Obj.box [I x145.Kind, I x145.Pc, I x145.V, I x145.T, I x145.B, V.bool x145.Won, I x145.State]) E_good rfl rfl rfl rfl rfl rfl rfl (.boxM (c := 7) rfl rfl (Nat.le_of_ble_eq_true rfl) rfl) ?_
   refine Qf E_good ?_
   refine SafeOps.nil ?_
   repeat first|apply sq|apply sk|with_reducible first|apply tn|apply bn
   refine Safe.region ?_
   refine Qf E_good ?_
   refine Q0 E_good rfl (v := V.bool (x146 != 0)) (.fn rfl) ?_
   refine SafeOps.nil ?_
   repeat first|apply sq|apply sk|with_reducible first|apply tn|apply bn
   refine ifG h (fun hc1973 h => ?_) (fun hc1973 h => ?_)
   ·skip
    refine Safe.condK rfl hc1973 ?_
    repeat first|apply sq|apply sk|with_reducible first|apply tn|apply bn
    refine Safe.region ?_
    refine Q0 E_good rfl (v := V.agg [I 0, I 0, I 0, I 0, I 0, V.bool false, I 0]) (.fn rfl) ?_
    refine Qf E_good ?_
    refine Qf E_good ?_
    refine SafeOps.store (z := Obj.box [I 0, I 0, I 0, I 0, I 0, V.bool false, I 0]) E_good rfl rfl rfl rfl rfl rfl rfl (.boxM (c := 7) rfl rfl (Nat.le_of_ble_eq_true rfl) rfl) ?_
    refine Qf E_good ?_
    refine SafeOps.nil ?_
    repeat first|apply sq|apply sk|with_reducible first|apply tn|apply bn
    refine Safe.ret ?_
    repeat (first | with_reducible refine thenQ.r ?_ | with_reducible refine blockQ.r ?_)
    replace h := inr_out h hr1967
    obtain rfl := Option.some.inj h
    exact retQ.gen (vs := [V.nils, V.agg [I 0, I 0, I 0, I 0, I 0, V.bool false, I 0], I x146]) rfl (.tmp rfl (.cell (v := V.agg [I 0, I 0, I 0, I 0, I 0, V.bool false, I 0]) rfl rfl (.box rfl rfl) rfl (.tmp rfl .nil))) (by exact (.tup (.cons (.nils _) (.cons (.free rfl) (.cons (.free rfl) .nil))))) (by simp) (.inr rfl)
   ·skip
    refine Safe.condN rfl hc1973 ?_
    repeat first|apply sq|apply sk|with_reducible first|apply tn|apply bn
    refine Safe.regionD (n := 4) [(3, [5])] [] E_good mixed rfl ?_
    refine DT 0 [[5]] rfl rfl (fun _ hz => (.fn rfl)) ?_
    refine DT 1 [[5]] rfl rfl (v := V.agg [I x145.Kind, I x145.Pc, I x145.V, I x145.T, I x145.B, V.bool x145.Won, I x145.State]) (fun _ hz => (.load rfl rfl (.box (hz _ _ rfl rfl) rfl) rfl)) ?_
    refine DT 2 [[5]] rfl rfl (fun _ hz => (.fn rfl)) ?_
    refine DAny.only (i := 3) rfl (by kernel_rfl) (.store (z := Obj.box [I x145.Kind, I x145.Pc, I x145.V, I x145.T, I x145.B, V.bool x145.Won, I x145.State]) rfl rfl rfl rfl rfl rfl rfl (.boxM (c := 7) rfl rfl (Nat.le_of_ble_eq_true rfl) rfl) rfl ?_)
    refine DAny.nil (by kernel_rfl) ?_
    repeat first|apply sq|apply sk|with_reducible first|apply tn|apply bn
    exact ⟨_, next_out h, (.ren [31, 0] [7000, 118, 0] (.cov ⟨rfl, rfl, (ut (ut (ut (ut upT_nil)))), (uo (uo (uo (uo upOb_nil)))), upOut_nil, rfl⟩))⟩
  ·skip
   refine Safe.condN rfl hc1968 ?_
   repeat first|apply sq|apply sk|with_reducible first|apply tn|apply bn
   refine Safe.exit ?_
   repeat (first | with_reducible refine thenQ.e ?_ | with_reducible refine blockQ.x rfl ?_ | with_reducible refine blockQ.y rfl ?_)
   replace h := inr_out h hr1967
   repeat first|apply sq|apply sk|with_reducible first|apply tn|apply bn
   refine Safe.regionD (n := 5) [(3, [7])] [] E_good mixed rfl ?_
   refine DT 0 [[7]] rfl rfl (fun _ hz => (.fn rfl)) ?_
   refine DT 1 [[7]] rfl rfl (v := V.agg [I v137, I v138, I v139, I v140, I v141, V.bool v142, I v143]) (fun _ hz => (.load rfl rfl (.box (hz _ _ rfl rfl) rfl) rfl)) ?_
   refine DT 2 [[7]] rfl rfl (fun _ hz => (.fn rfl)) ?_
   refine DAny.only (i := 3) rfl (by kernel_rfl) (.store (z := Obj.box [I v137, I v138, I v139, I v140, I v141, V.bool v142, I v143]) rfl rfl rfl rfl rfl rfl rfl (.boxM (c := 7) rfl rfl (Nat.le_of_ble_eq_true rfl) rfl) rfl ?_)
   refine DT 4 [[7]] rfl rfl (fun _ hz => (.fn rfl)) ?_
   refine DAny.nil (by kernel_rfl) ?_
   repeat first|apply sq|apply sk|with_reducible first|apply tn|apply bn
   refine Safe.ret ?_
   repeat (first | with_reducible refine thenQ.r ?_ | with_reducible refine blockQ.r ?_)
   obtain rfl := Option.some.inj h
   exact retQ.gen (vs := [V.ref [7000, 118, 0] 0 (rws (fun n => [I n]) v136).length, V.agg [I v137, I v138, I v139, I v140, I v141, V.bool v142, I v143], I 0]) rfl (.tmp rfl (.cell (v := V.agg [I v137, I v138, I v139, I v140, I v141, V.bool v142, I v143]) rfl rfl (.box rfl rfl) rfl (.tmp rfl .nil))) (by exact (.tup (.cons (.own rfl rfl) (.cons (.free rfl) (.cons (.free rfl) .nil))))) (by simp) (.inr rfl)

noncomputable def go_ravellaw07_done (a149 : List Int) (a150 : api_Deque) (a151 : Int) (a152 : Int) : Option ((List Int) × api_Hand × Bool) :=
 letO (go_ring_Start a151 a152) fun (x153, x154) =>
 (go_ring_Solo a149 a150 x153).bind fun (x155, x156, x157) =>
 if (x154 == 0) = true then
  if (x157 == 0) = true then
   some (x155, x156, (x156.State != 0))
  else
   some (x155, x156, false)
 else
  some (x155, x156, false)

theorem go_ravellaw07_done_sc (a149 : List Int) (a150 : api_Deque) (a151 : Int) (a152 : Int) (r : (List Int) × api_Hand × Bool) (h : go_ravellaw07_done a149 a150 a151 a152 = some r) : SC Try.prog gl 19 [V.sl 1 (rws (fun n => [I n]) a149), V.agg [I a150.Base, I a150.Cap], I a151, I a152] (V.tup [V.own 1 (rws (fun n => [I n]) r.1), V.agg [I r.2.1.Kind, I r.2.1.Pc, I r.2.1.V, I r.2.1.T, I r.2.1.B, V.bool r.2.1.Won, I r.2.1.State], V.bool r.2.2]) := by
 rw [go_ravellaw07_done] at h
 refine SC.of E_good Try.func19 rfl (fun _ _ => Try.call19 _ _) rfl ?_
 repeat first|apply sq|apply sk|with_reducible first|apply tn|apply bn
 refine Safe.region ?_
 refine SafeOps.quiet1 E_good rfl rfl rfl (.box rfl rfl) rfl ?_
 refine Qf E_good ?_
 refine SafeOps.quiet1 E_good rfl rfl rfl (.alloc rfl rfl) rfl ?_
 refine Qf E_good ?_
 refine SafeOps.nil ?_
 repeat first|apply sq|apply sk|with_reducible first|apply tn|apply bn
 refine Safe.region ?_
 refine Qf E_good ?_
 refine Qf E_good ?_
 refine letG h ?_
 rintro ⟨x153, x154⟩ he1987 h
 refine Q0 E_good rfl (v := V.tup [V.agg [I x153.Kind, I x153.Pc, I x153.V, I x153.T, I x153.B, V.bool x153.Won, I x153.State], I x154]) (.callP rfl rfl (go_ring_Start_sc a151 a152 _ he1987) rfl) ?_
 refine Qf E_good ?_
 refine Qf E_good ?_
 refine Qf E_good ?_
 refine SafeOps.quiet1 E_good rfl rfl rfl (.alloc rfl rfl) rfl ?_
 refine SafeOps.store (z := Obj.box [I x153.Kind, I x153.Pc, I x153.V, I x153.T, I x153.B, V.bool x153.Won, I x153.State]) E_good rfl rfl rfl rfl rfl rfl rfl (.boxM (c := 7) rfl rfl (Nat.le_of_ble_eq_true rfl) rfl) ?_
 refine Qf E_good ?_
 refine SafeOps.nil ?_
 repeat first|apply sq|apply sk|with_reducible first|apply tn|apply bn
 refine Safe.region ?_
 refine Qf E_good ?_
 refine Q0 E_good rfl (v := V.agg [I a150.Base, I a150.Cap]) (.load rfl rfl (.box rfl rfl) rfl) ?_
 refine Q0 E_good rfl (v := V.agg [I x153.Kind, I x153.Pc, I x153.V, I x153.T, I x153.B, V.bool x153.Won, I x153.State]) (.load rfl rfl (.box rfl rfl) rfl) ?_
 refine bindG h ?_
 rintro ⟨x155, x156, x157⟩ he1991 h
 refine SafeOps.quiet E_good rfl rfl rfl (v := V.tup [V.ref [24, 0] 0 (rws (fun n => [I n]) x155).length, V.agg [I x156.Kind, I x156.Pc, I x156.V, I x156.T, I x156.B, V.bool x156.Won, I x156.State], I x157]) (.callP rfl rfl (go_ring_Solo_sc a149 a150 x153 _ he1991) rfl) rfl ?_
 refine Qf E_good ?_
 refine Qf E_good ?_
 refine Qf E_good ?_
 refine Qf E_good ?_
 refine Qf E_good ?_
 refine SafeOps.store (z := Obj.box [I x156.Kind, I x156.Pc, I x156.V, I x156.T, I x156.B, V.bool x156.Won, I x156.State]) E_good rfl rfl rfl rfl rfl rfl rfl (.boxM (c := 7) rfl rfl (Nat.le_of_ble_eq_true rfl) rfl) ?_
 refine Qf E_good ?_
 refine SafeOps.nil ?_
 repeat first|apply sq|apply sk|with_reducible first|apply tn|apply bn
 refine Safe.regionD (n := 16) [(14, [9])] [] E_good mixed rfl ?_
 refine DT 0 [[9]] rfl rfl (fun _ hz => (.fn rfl)) ?_
 refine DT 1 [[9]] rfl rfl (v := V.agg [I x156.Kind, I x156.Pc, I x156.V, I x156.T, I x156.B, V.bool x156.Won, I x156.State]) (fun _ hz => (.load rfl rfl (.box (hz _ _ rfl rfl) rfl) rfl)) ?_
 refine DT 2 [[9]] rfl rfl (fun _ hz => (.fn rfl)) ?_
 refine DT 3 [[9]] rfl rfl (v := V.bool (x154 == 0)) (fun _ hz => (.fn rfl)) ?_
 refine DT 4 [[9]] rfl rfl (fun _ hz => (.fn rfl)) ?_
 refine ifG h (fun hc1992 h => ?_) (fun hc1992 h => ?_)
 ·skip
  refine DAny.take (i := 5) rfl (by kernel_rfl) [[9]] (by kernel_rfl) (by kernel_rfl) (by kernel_rfl) (congrArg some hc1992) rfl rfl (fun _ hz => (.fn rfl)) ?_
  refine DAny.take (i := 6) rfl (by kernel_rfl) [[9]] (by kernel_rfl) (by kernel_rfl) (by kernel_rfl) (congrArg some hc1992) rfl rfl (v := V.bool (x157 == 0)) (fun _ hz => (.fn rfl)) ?_
  refine DT 7 [[9]] rfl rfl (v := V.bool (x157 == 0)) (fun _ hz => (.pickK rfl hc1992 rfl)) ?_
  refine DT 8 [[9]] rfl rfl (fun _ hz => (.fn rfl)) ?_
  refine ifG h (fun hc1993 h => ?_) (fun hc1993 h => ?_)
  ·skip
   refine DAny.take (i := 9) rfl (by kernel_rfl) [[9]] (by kernel_rfl) (by kernel_rfl) (by kernel_rfl) (congrArg some hc1993) rfl rfl (v := V.ptr [11] 0 6) (fun _ hz => (.fn rfl)) ?_
   refine DAny.take (i := 10) rfl (by kernel_rfl) [[9]] (by kernel_rfl) (by kernel_rfl) (by kernel_rfl) (congrArg some hc1993) rfl rfl (v := I x156.State) (fun _ hz => (.load rfl rfl (.box (hz _ _ rfl rfl) rfl) rfl)) ?_
   refine DAny.take (i := 11) rfl (by kernel_rfl) [[9]] (by kernel_rfl) (by kernel_rfl) (by kernel_rfl) (congrArg some hc1993) rfl rfl (v := V.bool (x156.State != 0)) (fun _ hz => (.fn rfl)) ?_
   refine DT 12 [[9]] rfl rfl (v := V.bool (x156.State != 0)) (fun _ hz => (.pickK rfl hc1993 rfl)) ?_
   refine DT 13 [[9]] rfl rfl (fun _ hz => (.fn rfl)) ?_
   refine DAny.only (i := 14) rfl (by kernel_rfl) (.store (z := Obj.box [I x156.Kind, I x156.Pc, I x156.V, I x156.T, I x156.B, V.bool x156.Won, I x156.State]) rfl rfl rfl rfl rfl rfl rfl (.boxM (c := 7) rfl rfl (Nat.le_of_ble_eq_true rfl) rfl) rfl ?_)
   refine DT 15 [[9]] rfl rfl (fun _ hz => (.fn rfl)) ?_
   refine DAny.nil (by kernel_rfl) ?_
   repeat first|apply sq|apply sk|with_reducible first|apply tn|apply bn
   refine Safe.ret ?_
   repeat (first | with_reducible refine thenQ.r ?_ | with_reducible refine blockQ.r ?_)
   obtain rfl := Option.some.inj h
   exact retQ.gen (vs := [V.ref [24, 0] 0 (rws (fun n => [I n]) x155).length, V.agg [I x156.Kind, I x156.Pc, I x156.V, I x156.T, I x156.B, V.bool x156.Won, I x156.State], V.bool (x156.State != 0)]) rfl (.tmp rfl (.cell (v := V.agg [I x156.Kind, I x156.Pc, I x156.V, I x156.T, I x156.B, V.bool x156.Won, I x156.State]) rfl rfl (.box rfl rfl) rfl (.tmp rfl .nil))) (by exact (.tup (.cons (.own rfl rfl) (.cons (.free rfl) (.cons (.free rfl) .nil))))) (by simp) (.inr rfl)
  ·skip
   refine DAny.takeSkip (i := 9) rfl (by kernel_rfl) [[9]] (by kernel_rfl) (by kernel_rfl) (by kernel_rfl) (congrArg some hc1993) rfl rfl ?_
   refine DAny.takeSkip (i := 10) rfl (by kernel_rfl) [[9]] (by kernel_rfl) (by kernel_rfl) (by kernel_rfl) (congrArg some hc1993) rfl rfl ?_
   refine DAny.takeSkip (i := 11) rfl (by kernel_rfl) [[9]] (by kernel_rfl) (by kernel_rfl) (by kernel_rfl) (congrArg some hc1993) rfl rfl ?_
   refine DT 12 [[9]] rfl rfl (v := V.bool false) (fun _ hz => (.pickK rfl hc1993 rfl)) ?_
   refine DT 13 [[9]] rfl rfl (fun _ hz => (.fn rfl)) ?_
   refine DAny.only (i := 14) rfl (by kernel_rfl) (.store (z := Obj.box [I x156.Kind, I x156.Pc, I x156.V, I x156.T, I x156.B, V.bool x156.Won, I x156.State]) rfl rfl rfl rfl rfl rfl rfl (.boxM (c := 7) rfl rfl (Nat.le_of_ble_eq_true rfl) rfl) rfl ?_)
   refine DT 15 [[9]] rfl rfl (fun _ hz => (.fn rfl)) ?_
   refine DAny.nil (by kernel_rfl) ?_
   repeat first|apply sq|apply sk|with_reducible first|apply tn|apply bn
   refine Safe.ret ?_
   repeat (first | with_reducible refine thenQ.r ?_ | with_reducible refine blockQ.r ?_)
   obtain rfl := Option.some.inj h
   exact retQ.gen (vs := [V.ref [24, 0] 0 (rws (fun n => [I n]) x155).length, V.agg [I x156.Kind, I x156.Pc, I x156.V, I x156.T, I x156.B, V.bool x156.Won, I x156.State], V.bool false]) rfl (.tmp rfl (.cell (v := V.agg [I x156.Kind, I x156.Pc, I x156.V, I x156.T, I x156.B, V.bool x156.Won, I x156.State]) rfl rfl (.box rfl rfl) rfl (.tmp rfl .nil))) (by exact (.tup (.cons (.own rfl rfl) (.cons (.free rfl) (.cons (.free rfl) .nil))))) (by simp) (.inr rfl)
 ·skip
  refine DAny.takeSkip (i := 5) rfl (by kernel_rfl) [[9]] (by kernel_rfl) (by kernel_rfl) (by kernel_rfl) (congrArg some hc1992) rfl rfl ?_
  refine DAny.takeSkip (i := 6) rfl (by kernel_rfl) [[9]] (by kernel_rfl) (by kernel_rfl) (by kernel_rfl) (congrArg some hc1992) rfl rfl ?_
  refine DT 7 [[9]] rfl rfl (v := V.bool false) (fun _ hz => (.pickK rfl hc1992 rfl)) ?_
  refine DT 8 [[9]] rfl rfl (fun _ hz => (.fn rfl)) ?_
  refine DAny.takeSkip (i := 9) rfl (by kernel_rfl) [[9]] (by kernel_rfl) (by kernel_rfl) (by kernel_rfl) rfl rfl rfl ?_
  refine DAny.takeSkip (i := 10) rfl (by kernel_rfl) [[9]] (by kernel_rfl) (by kernel_rfl) (by kernel_rfl) rfl rfl rfl ?_
  refine DAny.takeSkip (i := 11) rfl (by kernel_rfl) [[9]] (by kernel_rfl) (by kernel_rfl) (by kernel_rfl) rfl rfl rfl ?_
  refine DT 12 [[9]] rfl rfl (v := V.bool false) (fun _ hz => (.pickK rfl rfl rfl)) ?_
  refine DT 13 [[9]] rfl rfl (fun _ hz => (.fn rfl)) ?_
  refine DAny.only (i := 14) rfl (by kernel_rfl) (.store (z := Obj.box [I x156.Kind, I x156.Pc, I x156.V, I x156.T, I x156.B, V.bool x156.Won, I x156.State]) rfl rfl rfl rfl rfl rfl rfl (.boxM (c := 7) rfl rfl (Nat.le_of_ble_eq_true rfl) rfl) rfl ?_)
  refine DT 15 [[9]] rfl rfl (fun _ hz => (.fn rfl)) ?_
  refine DAny.nil (by kernel_rfl) ?_
  repeat first|apply sq|apply sk|with_reducible first|apply tn|apply bn
  refine Safe.ret ?_
  repeat (first | with_reducible refine thenQ.r ?_ | with_reducible refine blockQ.r ?_)
  obtain rfl := Option.some.inj h
  exact retQ.gen (vs := [V.ref [24, 0] 0 (rws (fun n => [I n]) x155).length, V.agg [I x156.Kind, I x156.Pc, I x156.V, I x156.T, I x156.B, V.bool x156.Won, I x156.State], V.bool false]) rfl (.tmp rfl (.cell (v := V.agg [I x156.Kind, I x156.Pc, I x156.V, I x156.T, I x156.B, V.bool x156.Won, I x156.State]) rfl rfl (.box rfl rfl) rfl (.tmp rfl .nil))) (by exact (.tup (.cons (.own rfl rfl) (.cons (.free rfl) (.cons (.free rfl) .nil))))) (by simp) (.inr rfl)

noncomputable def go_ravellaw07_live  : Option Bool :=
 if 0 ≤ (6 : Int) ∧ (6 : Int) ≤ (6 : Int) ∧ (6 : Int) ≤ 549755813888 then
  (go_ravellaw07_done (List.replicate (Int.toNat 6) (0 : Int)) (api_Deque.mk 0 4) 1 5).bind fun (x158, x159, x160) =>
  (go_ravellaw07_done x158 (api_Deque.mk 0 4) 1 6).bind fun (x161, x162, x163) =>
  (go_ravellaw07_done x161 (api_Deque.mk 0 4) 2 0).bind fun (x164, x165, x166) =>
  (go_ravellaw07_done x164 (api_Deque.mk 0 4) 3 0).bind fun (x167, x168, x169) =>
  some (((((((x160 && x163) && x166) && x169) && (x165.V == 6)) && (x168.V == 5)) && (x165.State == 1)) && (x168.State == 1))
 else none

theorem go_ravellaw07_live_sc  (r : Bool) (h : go_ravellaw07_live  = some r) : SC Try.prog gl 7 [] (V.bool r) := by
 rw [go_ravellaw07_live] at h
 refine SC.of E_good Try.func7 rfl (fun _ _ => Try.call7 _ _) rfl ?_
 repeat first|apply sq|apply sk|with_reducible first|apply tn|apply bn
 refine Safe.region ?_
 refine Qf E_good ?_
 refine SafeOps.nil ?_
 repeat first|apply sq|apply sk|with_reducible first|apply tn|apply bn
 refine Safe.region ?_
 refine Q0 E_good rfl (v := V.agg [I 0, I 4]) (.fn rfl) ?_
 refine SafeOps.quiet1 E_good rfl rfl rfl (.alloc rfl rfl) rfl ?_
 refine SafeOps.store (z := Obj.box [I 0, I 4]) E_good rfl rfl rfl rfl rfl rfl rfl (.boxM (c := 2) rfl rfl (Nat.le_of_ble_eq_true rfl) rfl) ?_
 refine SafeOps.nil ?_
 repeat first|apply sq|apply sk|with_reducible first|apply tn|apply bn
 refine Safe.regionD (n := 11) [(9, [3])] [] E_good mixed rfl ?_
 refine DT 1 [[3]] rfl rfl (v := V.agg [I 0, I 4]) (fun _ hz => (.load rfl rfl (.box (hz _ _ rfl rfl) rfl) rfl)) ?_
 refine DAny.fork (i := 0) (j := 7) rfl rfl (by kernel_rfl) ?_ ?_
 ·skip
  refine okG h (fun hb2027 h => ?_)
  refine .quiet rfl rfl rfl (.makeM (f := (fun n => [I n])) (d := (0 : Int)) rfl rfl rfl rfl hb2027 rfl rfl rfl) rfl ?_
  refine DAny.fork (i := 2) (j := 7) rfl rfl (by kernel_rfl) ?_ ?_
  ·skip
   refine bindG h ?_
   rintro ⟨x158, x159, x160⟩ he2031 h
   refine .quiet rfl rfl rfl (v := V.tup [V.ref [16, 0] 0 (rws (fun n => [I n]) x158).length, V.agg [I x159.Kind, I x159.Pc, I x159.V, I x159.T, I x159.B, V.bool x159.Won, I x159.State], V.bool x160]) (.callS rfl (.cons (.full rfl rfl) (.cons (.free rfl) (.cons (.free rfl) (.cons (.free rfl) .nil)))) (go_ravellaw07_done_sc (List.replicate (Int.toNat 6) (0 : Int)) (api_Deque.mk 0 4) 1 5 _ he2031) (.tupL (.cons (.ownM (fun _ => rfl)) (.cons (.aggL (.cons (.plain rfl) (.cons (.plain rfl) (.cons (.plain rfl) (.cons (.plain rfl) (.cons (.plain rfl) (.cons (.plain rfl) (.cons (.plain rfl) .nil)))))))) (.cons (.plain rfl) .nil)))) rfl) rfl ?_
   refine DT 3 [[3]] rfl rfl (fun _ hz => (.fn rfl)) ?_
   refine DT 4 [[3]] rfl rfl (fun _ hz => (.fn rfl)) ?_
   refine DT 5 [[3]] rfl rfl (fun _ hz => (.fn rfl)) ?_
   refine DT 6 [[3]] rfl rfl (fun _ hz => (.fn rfl)) ?_
   refine DAny.only (i := 7) rfl (by kernel_rfl) (.quiet rfl rfl rfl (.alloc rfl rfl) rfl ?_)
   refine DT 8 [[3]] rfl rfl (fun _ hz => (.fn rfl)) ?_
   refine DAny.only (i := 9) rfl (by kernel_rfl) (.store (z := Obj.box [I x159.Kind, I x159.Pc, I x159.V, I x159.T, I x159.B, V.bool x159.Won, I x159.State]) rfl rfl rfl rfl rfl rfl rfl (.boxM (c := 7) rfl rfl (Nat.le_of_ble_eq_true rfl) rfl) rfl ?_)
   refine DT 10 [[3]] rfl rfl (fun _ hz => (.fn rfl)) ?_
   refine DAny.nil (by kernel_rfl) ?_
   repeat first|apply sq|apply sk|with_reducible first|apply tn|apply bn
   refine Safe.region ?_
   refine Qf E_good ?_
   refine Q0 E_good rfl (v := V.agg [I 0, I 4]) (.load rfl rfl (.box rfl rfl) rfl) ?_
   refine bindG h ?_
   rintro ⟨x161, x162, x163⟩ he2035 h
   refine SafeOps.quiet E_good rfl rfl rfl (v := V.tup [V.ref [23, 0] 0 (rws (fun n => [I n]) x161).length, V.agg [I x162.Kind, I x162.Pc, I x162.V, I x162.T, I x162.B, V.bool x162.Won, I x162.State], V.bool x163]) (.callS rfl (.cons (.full rfl rfl) (.cons (.free rfl) (.cons (.free rfl) (.cons (.free rfl) .nil)))) (go_ravellaw07_done_sc x158 (api_Deque.mk 0 4) 1 6 _ he2035) (.tupL (.cons (.ownM (fun _ => rfl)) (.cons (.aggL (.cons (.plain rfl) (.cons (.plain rfl) (.cons (.plain rfl) (.cons (.plain rfl) (.cons (.plain rfl) (.cons (.plain rfl) (.cons (.plain rfl) .nil)))))))) (.cons (.plain rfl) .nil)))) rfl) rfl ?_
   refine Qf E_good ?_
   refine Qf E_good ?_
   refine Qf E_good ?_
   refine Qf E_good ?_
   refine SafeOps.quiet1 E_good rfl rfl rfl (.alloc rfl rfl) rfl ?_
   refine Qf E_good ?_
   refine SafeOps.store (z := Obj.box [I x162.Kind, I x162.Pc, I x162.V, I x162.T, I x162.B, V.bool x162.Won, I x162.State]) E_good rfl rfl rfl rfl rfl rfl rfl (.boxM (c := 7) rfl rfl (Nat.le_of_ble_eq_true rfl) rfl) ?_
   refine Qf E_good ?_
   refine SafeOps.nil ?_
   repeat first|apply sq|apply sk|with_reducible first|apply tn|apply bn
   refine Safe.region ?_
   refine Qf E_good ?_
   refine Q0 E_good rfl (v := V.agg [I 0, I 4]) (.load rfl rfl (.box rfl rfl) rfl) ?_
   refine bindG h ?_
   rintro ⟨x164, x165, x166⟩ he2039 h
   refine SafeOps.quiet E_good rfl rfl rfl (v := V.tup [V.ref [30, 0] 0 (rws (fun n => [I n]) x164).length, V.agg [I x165.Kind, I x165.Pc, I x165.V, I x165.T, I x165.B, V.bool x165.Won, I x165.State], V.bool x166]) (.callS rfl (.cons (.full rfl rfl) (.cons (.free rfl) (.cons (.free rfl) (.cons (.free rfl) .nil)))) (go_ravellaw07_done_sc x161 (api_Deque.mk 0 4) 2 0 _ he2039) (.tupL (.cons (.ownM (fun _ => rfl)) (.cons (.aggL (.cons (.plain rfl) (.cons (.plain rfl) (.cons (.plain rfl) (.cons (.plain rfl) (.cons (.plain rfl) (.cons (.plain rfl) (.cons (.plain rfl) .nil)))))))) (.cons (.plain rfl) .nil)))) rfl) rfl ?_
   refine Qf E_good ?_
   refine Qf E_good ?_
   refine Qf E_good ?_
   refine Qf E_good ?_
   refine SafeOps.quiet1 E_good rfl rfl rfl (.alloc rfl rfl) rfl ?_
   refine Qf E_good ?_
   refine SafeOps.store (z := Obj.box [I x165.Kind, I x165.Pc, I x165.V, I x165.T, I x165.B, V.bool x165.Won, I x165.State]) E_good rfl rfl rfl rfl rfl rfl rfl (.boxM (c := 7) rfl rfl (Nat.le_of_ble_eq_true rfl) rfl) ?_
   refine Qf E_good ?_
   refine SafeOps.nil ?_
   repeat first|apply sq|apply sk|with_reducible first|apply tn|apply bn
   refine Safe.region ?_
   refine Qf E_good ?_
   refine Q0 E_good rfl (v := V.agg [I 0, I 4]) (.load rfl rfl (.box rfl rfl) rfl) ?_
   refine bindG h ?_
   rintro ⟨x167, x168, x169⟩ he2043 h
   refine SafeOps.quiet E_good rfl rfl rfl (v := V.tup [V.ref [37, 0] 0 (rws (fun n => [I n]) x167).length, V.agg [I x168.Kind, I x168.Pc, I x168.V, I x168.T, I x168.B, V.bool x168.Won, I x168.State], V.bool x169]) (.callS rfl (.cons (.full rfl rfl) (.cons (.free rfl) (.cons (.free rfl) (.cons (.free rfl) .nil)))) (go_ravellaw07_done_sc x164 (api_Deque.mk 0 4) 3 0 _ he2043) (.tupL (.cons (.ownM (fun _ => rfl)) (.cons (.aggL (.cons (.plain rfl) (.cons (.plain rfl) (.cons (.plain rfl) (.cons (.plain rfl) (.cons (.plain rfl) (.cons (.plain rfl) (.cons (.plain rfl) .nil)))))))) (.cons (.plain rfl) .nil)))) rfl) rfl ?_
   refine Qf E_good ?_
   refine Qf E_good ?_
   refine Qf E_good ?_
   refine Qf E_good ?_
   refine SafeOps.quiet1 E_good rfl rfl rfl (.alloc rfl rfl) rfl ?_
   refine Qf E_good ?_
   refine SafeOps.store (z := Obj.box [I x168.Kind, I x168.Pc, I x168.V, I x168.T, I x168.B, V.bool x168.Won, I x168.State]) E_good rfl rfl rfl rfl rfl rfl rfl (.boxM (c := 7) rfl rfl (Nat.le_of_ble_eq_true rfl) rfl) ?_
   refine Qf E_good ?_
   refine SafeOps.nil ?_
   repeat first|apply sq|apply sk|with_reducible first|apply tn|apply bn
   refine Safe.region ?_
   refine Qf E_good ?_
   refine Qf E_good ?_
   refine SafeOps.bjoin 2 44 (b := (x160 && x163)) (b1 := x163) (b0 := false) (fun hc2044 K => ?_) (fun hc2044 K => ?_) bj_and ?_
   ·skip
    refine qT E_good hc2044 (.fn rfl) ?_
    refine Q0 E_good rfl (v := V.bool x163) (.pickK rfl hc2044 rfl) ?_
    exact SafeOps.drop' 2 rfl rfl rfl K
   ·skip
    refine sT hc2044 ?_
    refine Q0 E_good rfl (v := V.bool false) (.pickK rfl hc2044 rfl) ?_
    exact SafeOps.drop' 2 rfl rfl rfl K
   refine Qf E_good ?_
   refine SafeOps.bjoin 2 47 (b := ((x160 && x163) && x166)) (b1 := x166) (b0 := false) (fun hc2045 K => ?_) (fun hc2045 K => ?_) bj_and ?_
   ·skip
    refine qT E_good hc2045 (.fn rfl) ?_
    refine Q0 E_good rfl (v := V.bool x166) (.pickK rfl hc2045 rfl) ?_
    exact SafeOps.drop' 2 rfl rfl rfl K
   ·skip
    refine sT hc2045 ?_
    refine Q0 E_good rfl (v := V.bool false) (.pickK rfl hc2045 rfl) ?_
    exact SafeOps.drop' 2 rfl rfl rfl K
   refine Qf E_good ?_
   refine SafeOps.bjoin 2 50 (b := (((x160 && x163) && x166) && x169)) (b1 := x169) (b0 := false) (fun hc2046 K => ?_) (fun hc2046 K => ?_) bj_and ?_
   ·skip
    refine qT E_good hc2046 (.fn rfl) ?_
    refine Q0 E_good rfl (v := V.bool x169) (.pickK rfl hc2046 rfl) ?_
    exact SafeOps.drop' 2 rfl rfl rfl K
   ·skip
    refine sT hc2046 ?_
    refine Q0 E_good rfl (v := V.bool false) (.pickK rfl hc2046 rfl) ?_
    exact SafeOps.drop' 2 rfl rfl rfl K
   refine Qf E_good ?_
   refine SafeOps.bjoin 4 55 (b := ((((x160 && x163) && x166) && x169) && (x165.V == 6))) (b1 := (x165.V == 6)) (b0 := false) (fun hc2047 K => ?_) (fun hc2047 K => ?_) bj_and ?_
   ·skip
    refine qT E_good hc2047 (v := V.ptr [7] 0 2) (.fn rfl) ?_
    refine qT E_good hc2047 (v := I x165.V) (.load rfl rfl (.box rfl rfl) rfl) ?_
    refine qT E_good hc2047 (v := V.bool (x165.V == 6)) (.fn rfl) ?_
    refine Q0 E_good rfl (v := V.bool (x165.V == 6)) (.pickK rfl hc2047 rfl) ?_
    exact SafeOps.drop' 4 rfl rfl rfl K
   ·skip
    refine sT hc2047 ?_
    refine sT hc2047 ?_
    refine sT hc2047 ?_
    refine Q0 E_good rfl (v := V.bool false) (.pickK rfl hc2047 rfl) ?_
    exact SafeOps.drop' 4 rfl rfl rfl K
   refine Qf E_good ?_
   refine SafeOps.bjoin 4 60 (b := (((((x160 && x163) && x166) && x169) && (x165.V == 6)) && (x168.V == 5))) (b1 := (x168.V == 5)) (b0 := false) (fun hc2048 K => ?_) (fun hc2048 K => ?_) bj_and ?_
   ·skip
    refine qT E_good hc2048 (v := V.ptr [10] 0 2) (.fn rfl) ?_
    refine qT E_good hc2048 (v := I x168.V) (.load rfl rfl (.box rfl rfl) rfl) ?_
    refine qT E_good hc2048 (v := V.bool (x168.V == 5)) (.fn rfl) ?_
    refine Q0 E_good rfl (v := V.bool (x168.V == 5)) (.pickK rfl hc2048 rfl) ?_
    exact SafeOps.drop' 4 rfl rfl rfl K
   ·skip
    refine sT hc2048 ?_
    refine sT hc2048 ?_
    refine sT hc2048 ?_
    refine Q0 E_good rfl (v := V.bool false) (.pickK rfl hc2048 rfl) ?_
    exact SafeOps.drop' 4 rfl rfl rfl K
   refine Qf E_good ?_
   refine SafeOps.bjoin 4 65 (b := ((((((x160 && x163) && x166) && x169) && (x165.V == 6)) && (x168.V == 5)) && (x165.State == 1))) (b1 := (x165.State == 1)) (b0 := false) (fun hc2049 K => ?_) (fun hc2049 K => ?_) bj_and ?_
   ·skip
    refine qT E_good hc2049 (v := V.ptr [7] 0 6) (.fn rfl) ?_
    refine qT E_good hc2049 (v := I x165.State) (.load rfl rfl (.box rfl rfl) rfl) ?_
    refine qT E_good hc2049 (v := V.bool (x165.State == 1)) (.fn rfl) ?_
    refine Q0 E_good rfl (v := V.bool (x165.State == 1)) (.pickK rfl hc2049 rfl) ?_
    exact SafeOps.drop' 4 rfl rfl rfl K
   ·skip
    refine sT hc2049 ?_
    refine sT hc2049 ?_
    refine sT hc2049 ?_
    refine Q0 E_good rfl (v := V.bool false) (.pickK rfl hc2049 rfl) ?_
    exact SafeOps.drop' 4 rfl rfl rfl K
   refine Qf E_good ?_
   refine SafeOps.bjoin 4 70 (b := (((((((x160 && x163) && x166) && x169) && (x165.V == 6)) && (x168.V == 5)) && (x165.State == 1)) && (x168.State == 1))) (b1 := (x168.State == 1)) (b0 := false) (fun hc2050 K => ?_) (fun hc2050 K => ?_) bj_and ?_
   ·skip
    refine qT E_good hc2050 (v := V.ptr [10] 0 6) (.fn rfl) ?_
    refine qT E_good hc2050 (v := I x168.State) (.load rfl rfl (.box rfl rfl) rfl) ?_
    refine qT E_good hc2050 (v := V.bool (x168.State == 1)) (.fn rfl) ?_
    refine Q0 E_good rfl (v := V.bool (x168.State == 1)) (.pickK rfl hc2050 rfl) ?_
    exact SafeOps.drop' 4 rfl rfl rfl K
   ·skip
    refine sT hc2050 ?_
    refine sT hc2050 ?_
    refine sT hc2050 ?_
    refine Q0 E_good rfl (v := V.bool false) (.pickK rfl hc2050 rfl) ?_
    exact SafeOps.drop' 4 rfl rfl rfl K
   refine Qf E_good ?_
   refine SafeOps.nil ?_
   repeat first|apply sq|apply sk|with_reducible first|apply tn|apply bn
   refine Safe.ret ?_
   repeat (first | with_reducible refine thenQ.r ?_ | with_reducible refine blockQ.r ?_)
   obtain rfl := Option.some.inj h
   exact retQ.gen (vs := [V.bool (((((((x160 && x163) && x166) && x169) && (x165.V == 6)) && (x168.V == 5)) && (x165.State == 1)) && (x168.State == 1))]) rfl (.tmp rfl .nil) (.free rfl) (by simp) (.inr rfl)
  ·skip
   refine .quiet rfl rfl rfl (.alloc rfl rfl) rfl ?_
   refine bindG h ?_
   rintro ⟨x158, x159, x160⟩ he2031 h
   refine DAny.only (i := 2) rfl (by kernel_rfl) (.quiet rfl rfl rfl (v := V.tup [V.ref [16, 0] 0 (rws (fun n => [I n]) x158).length, V.agg [I x159.Kind, I x159.Pc, I x159.V, I x159.T, I x159.B, V.bool x159.Won, I x159.State], V.bool x160]) (.callS rfl (.cons (.full rfl rfl) (.cons (.free rfl) (.cons (.free rfl) (.cons (.free rfl) .nil)))) (go_ravellaw07_done_sc (List.replicate (Int.toNat 6) (0 : Int)) (api_Deque.mk 0 4) 1 5 _ he2031) (.tupL (.cons (.ownM (fun _ => rfl)) (.cons (.aggL (.cons (.plain rfl) (.cons (.plain rfl) (.cons (.plain rfl) (.cons (.plain rfl) (.cons (.plain rfl) (.cons (.plain rfl) (.cons (.plain rfl) .nil)))))))) (.cons (.plain rfl) .nil)))) rfl) rfl ?_)
   refine DT 3 [[3]] rfl rfl (fun _ hz => (.fn rfl)) ?_
   refine DT 4 [[3]] rfl rfl (fun _ hz => (.fn rfl)) ?_
   refine DT 5 [[3]] rfl rfl (fun _ hz => (.fn rfl)) ?_
   refine DT 6 [[3]] rfl rfl (fun _ hz => (.fn rfl)) ?_
   refine DT 8 [[3]] rfl rfl (fun _ hz => (.fn rfl)) ?_
   refine DAny.only (i := 9) rfl (by kernel_rfl) (.store (z := Obj.box [I x159.Kind, I x159.Pc, I x159.V, I x159.T, I x159.B, V.bool x159.Won, I x159.State]) rfl rfl rfl rfl rfl rfl rfl (.boxM (c := 7) rfl rfl (Nat.le_of_ble_eq_true rfl) rfl) rfl ?_)
   refine DT 10 [[3]] rfl rfl (fun _ hz => (.fn rfl)) ?_
   refine DAny.nil (by kernel_rfl) ?_
   repeat first|apply sq|apply sk|with_reducible first|apply tn|apply bn
   refine Safe.region ?_
   refine Qf E_good ?_
   refine Q0 E_good rfl (v := V.agg [I 0, I 4]) (.load rfl rfl (.box rfl rfl) rfl) ?_
   refine bindG h ?_
   rintro ⟨x161, x162, x163⟩ he2035 h
   refine SafeOps.quiet E_good rfl rfl rfl (v := V.tup [V.ref [23, 0] 0 (rws (fun n => [I n]) x161).length, V.agg [I x162.Kind, I x162.Pc, I x162.V, I x162.T, I x162.B, V.bool x162.Won, I x162.State], V.bool x163]) (.callS rfl (.cons (.full rfl rfl) (.cons (.free rfl) (.cons (.free rfl) (.cons (.free rfl) .nil)))) (go_ravellaw07_done_sc x158 (api_Deque.mk 0 4) 1 6 _ he2035) (.tupL (.cons (.ownM (fun _ => rfl)) (.cons (.aggL (.cons (.plain rfl) (.cons (.plain rfl) (.cons (.plain rfl) (.cons (.plain rfl) (.cons (.plain rfl) (.cons (.plain rfl) (.cons (.plain rfl) .nil)))))))) (.cons (.plain rfl) .nil)))) rfl) rfl ?_
   refine Qf E_good ?_
   refine Qf E_good ?_
   refine Qf E_good ?_
   refine Qf E_good ?_
   refine SafeOps.quiet1 E_good rfl rfl rfl (.alloc rfl rfl) rfl ?_
   refine Qf E_good ?_
   refine SafeOps.store (z := Obj.box [I x162.Kind, I x162.Pc, I x162.V, I x162.T, I x162.B, V.bool x162.Won, I x162.State]) E_good rfl rfl rfl rfl rfl rfl rfl (.boxM (c := 7) rfl rfl (Nat.le_of_ble_eq_true rfl) rfl) ?_
   refine Qf E_good ?_
   refine SafeOps.nil ?_
   repeat first|apply sq|apply sk|with_reducible first|apply tn|apply bn
   refine Safe.region ?_
   refine Qf E_good ?_
   refine Q0 E_good rfl (v := V.agg [I 0, I 4]) (.load rfl rfl (.box rfl rfl) rfl) ?_
   refine bindG h ?_
   rintro ⟨x164, x165, x166⟩ he2039 h
   refine SafeOps.quiet E_good rfl rfl rfl (v := V.tup [V.ref [30, 0] 0 (rws (fun n => [I n]) x164).length, V.agg [I x165.Kind, I x165.Pc, I x165.V, I x165.T, I x165.B, V.bool x165.Won, I x165.State], V.bool x166]) (.callS rfl (.cons (.full rfl rfl) (.cons (.free rfl) (.cons (.free rfl) (.cons (.free rfl) .nil)))) (go_ravellaw07_done_sc x161 (api_Deque.mk 0 4) 2 0 _ he2039) (.tupL (.cons (.ownM (fun _ => rfl)) (.cons (.aggL (.cons (.plain rfl) (.cons (.plain rfl) (.cons (.plain rfl) (.cons (.plain rfl) (.cons (.plain rfl) (.cons (.plain rfl) (.cons (.plain rfl) .nil)))))))) (.cons (.plain rfl) .nil)))) rfl) rfl ?_
   refine Qf E_good ?_
   refine Qf E_good ?_
   refine Qf E_good ?_
   refine Qf E_good ?_
   refine SafeOps.quiet1 E_good rfl rfl rfl (.alloc rfl rfl) rfl ?_
   refine Qf E_good ?_
   refine SafeOps.store (z := Obj.box [I x165.Kind, I x165.Pc, I x165.V, I x165.T, I x165.B, V.bool x165.Won, I x165.State]) E_good rfl rfl rfl rfl rfl rfl rfl (.boxM (c := 7) rfl rfl (Nat.le_of_ble_eq_true rfl) rfl) ?_
   refine Qf E_good ?_
   refine SafeOps.nil ?_
   repeat first|apply sq|apply sk|with_reducible first|apply tn|apply bn
   refine Safe.region ?_
   refine Qf E_good ?_
   refine Q0 E_good rfl (v := V.agg [I 0, I 4]) (.load rfl rfl (.box rfl rfl) rfl) ?_
   refine bindG h ?_
   rintro ⟨x167, x168, x169⟩ he2043 h
   refine SafeOps.quiet E_good rfl rfl rfl (v := V.tup [V.ref [37, 0] 0 (rws (fun n => [I n]) x167).length, V.agg [I x168.Kind, I x168.Pc, I x168.V, I x168.T, I x168.B, V.bool x168.Won, I x168.State], V.bool x169]) (.callS rfl (.cons (.full rfl rfl) (.cons (.free rfl) (.cons (.free rfl) (.cons (.free rfl) .nil)))) (go_ravellaw07_done_sc x164 (api_Deque.mk 0 4) 3 0 _ he2043) (.tupL (.cons (.ownM (fun _ => rfl)) (.cons (.aggL (.cons (.plain rfl) (.cons (.plain rfl) (.cons (.plain rfl) (.cons (.plain rfl) (.cons (.plain rfl) (.cons (.plain rfl) (.cons (.plain rfl) .nil)))))))) (.cons (.plain rfl) .nil)))) rfl) rfl ?_
   refine Qf E_good ?_
   refine Qf E_good ?_
   refine Qf E_good ?_
   refine Qf E_good ?_
   refine SafeOps.quiet1 E_good rfl rfl rfl (.alloc rfl rfl) rfl ?_
   refine Qf E_good ?_
   refine SafeOps.store (z := Obj.box [I x168.Kind, I x168.Pc, I x168.V, I x168.T, I x168.B, V.bool x168.Won, I x168.State]) E_good rfl rfl rfl rfl rfl rfl rfl (.boxM (c := 7) rfl rfl (Nat.le_of_ble_eq_true rfl) rfl) ?_
   refine Qf E_good ?_
   refine SafeOps.nil ?_
   repeat first|apply sq|apply sk|with_reducible first|apply tn|apply bn
   refine Safe.region ?_
   refine Qf E_good ?_
   refine Qf E_good ?_
   refine SafeOps.bjoin 2 44 (b := (x160 && x163)) (b1 := x163) (b0 := false) (fun hc2044 K => ?_) (fun hc2044 K => ?_) bj_and ?_
   ·skip
    refine qT E_good hc2044 (.fn rfl) ?_
    refine Q0 E_good rfl (v := V.bool x163) (.pickK rfl hc2044 rfl) ?_
    exact SafeOps.drop' 2 rfl rfl rfl K
   ·skip
    refine sT hc2044 ?_
    refine Q0 E_good rfl (v := V.bool false) (.pickK rfl hc2044 rfl) ?_
    exact SafeOps.drop' 2 rfl rfl rfl K
   refine Qf E_good ?_
   refine SafeOps.bjoin 2 47 (b := ((x160 && x163) && x166)) (b1 := x166) (b0 := false) (fun hc2045 K => ?_) (fun hc2045 K => ?_) bj_and ?_
   ·skip
    refine qT E_good hc2045 (.fn rfl) ?_
    refine Q0 E_good rfl (v := V.bool x166) (.pickK rfl hc2045 rfl) ?_
    exact SafeOps.drop' 2 rfl rfl rfl K
   ·skip
    refine sT hc2045 ?_
    refine Q0 E_good rfl (v := V.bool false) (.pickK rfl hc2045 rfl) ?_
    exact SafeOps.drop' 2 rfl rfl rfl K
   refine Qf E_good ?_
   refine SafeOps.bjoin 2 50 (b := (((x160 && x163) && x166) && x169)) (b1 := x169) (b0 := false) (fun hc2046 K => ?_) (fun hc2046 K => ?_) bj_and ?_
   ·skip
    refine qT E_good hc2046 (.fn rfl) ?_
    refine Q0 E_good rfl (v := V.bool x169) (.pickK rfl hc2046 rfl) ?_
    exact SafeOps.drop' 2 rfl rfl rfl K
   ·skip
    refine sT hc2046 ?_
    refine Q0 E_good rfl (v := V.bool false) (.pickK rfl hc2046 rfl) ?_
    exact SafeOps.drop' 2 rfl rfl rfl K
   refine Qf E_good ?_
   refine SafeOps.bjoin 4 55 (b := ((((x160 && x163) && x166) && x169) && (x165.V == 6))) (b1 := (x165.V == 6)) (b0 := false) (fun hc2047 K => ?_) (fun hc2047 K => ?_) bj_and ?_
   ·skip
    refine qT E_good hc2047 (v := V.ptr [7] 0 2) (.fn rfl) ?_
    refine qT E_good hc2047 (v := I x165.V) (.load rfl rfl (.box rfl rfl) rfl) ?_
    refine qT E_good hc2047 (v := V.bool (x165.V == 6)) (.fn rfl) ?_
    refine Q0 E_good rfl (v := V.bool (x165.V == 6)) (.pickK rfl hc2047 rfl) ?_
    exact SafeOps.drop' 4 rfl rfl rfl K
   ·skip
    refine sT hc2047 ?_
    refine sT hc2047 ?_
    refine sT hc2047 ?_
    refine Q0 E_good rfl (v := V.bool false) (.pickK rfl hc2047 rfl) ?_
    exact SafeOps.drop' 4 rfl rfl rfl K
   refine Qf E_good ?_
   refine SafeOps.bjoin 4 60 (b := (((((x160 && x163) && x166) && x169) && (x165.V == 6)) && (x168.V == 5))) (b1 := (x168.V == 5)) (b0 := false) (fun hc2048 K => ?_) (fun hc2048 K => ?_) bj_and ?_
   ·skip
    refine qT E_good hc2048 (v := V.ptr [10] 0 2) (.fn rfl) ?_
    refine qT E_good hc2048 (v := I x168.V) (.load rfl rfl (.box rfl rfl) rfl) ?_
    refine qT E_good hc2048 (v := V.bool (x168.V == 5)) (.fn rfl) ?_
    refine Q0 E_good rfl (v := V.bool (x168.V == 5)) (.pickK rfl hc2048 rfl) ?_
    exact SafeOps.drop' 4 rfl rfl rfl K
   ·skip
    refine sT hc2048 ?_
    refine sT hc2048 ?_
    refine sT hc2048 ?_
    refine Q0 E_good rfl (v := V.bool false) (.pickK rfl hc2048 rfl) ?_
    exact SafeOps.drop' 4 rfl rfl rfl K
   refine Qf E_good ?_
   refine SafeOps.bjoin 4 65 (b := ((((((x160 && x163) && x166) && x169) && (x165.V == 6)) && (x168.V == 5)) && (x165.State == 1))) (b1 := (x165.State == 1)) (b0 := false) (fun hc2049 K => ?_) (fun hc2049 K => ?_) bj_and ?_
   ·skip
    refine qT E_good hc2049 (v := V.ptr [7] 0 6) (.fn rfl) ?_
    refine qT E_good hc2049 (v := I x165.State) (.load rfl rfl (.box rfl rfl) rfl) ?_
    refine qT E_good hc2049 (v := V.bool (x165.State == 1)) (.fn rfl) ?_
    refine Q0 E_good rfl (v := V.bool (x165.State == 1)) (.pickK rfl hc2049 rfl) ?_
    exact SafeOps.drop' 4 rfl rfl rfl K
   ·skip
    refine sT hc2049 ?_
    refine sT hc2049 ?_
    refine sT hc2049 ?_
    refine Q0 E_good rfl (v := V.bool false) (.pickK rfl hc2049 rfl) ?_
    exact SafeOps.drop' 4 rfl rfl rfl K
   refine Qf E_good ?_
   refine SafeOps.bjoin 4 70 (b := (((((((x160 && x163) && x166) && x169) && (x165.V == 6)) && (x168.V == 5)) && (x165.State == 1)) && (x168.State == 1))) (b1 := (x168.State == 1)) (b0 := false) (fun hc2050 K => ?_) (fun hc2050 K => ?_) bj_and ?_
   ·skip
    refine qT E_good hc2050 (v := V.ptr [10] 0 6) (.fn rfl) ?_
    refine qT E_good hc2050 (v := I x168.State) (.load rfl rfl (.box rfl rfl) rfl) ?_
    refine qT E_good hc2050 (v := V.bool (x168.State == 1)) (.fn rfl) ?_
    refine Q0 E_good rfl (v := V.bool (x168.State == 1)) (.pickK rfl hc2050 rfl) ?_
    exact SafeOps.drop' 4 rfl rfl rfl K
   ·skip
    refine sT hc2050 ?_
    refine sT hc2050 ?_
    refine sT hc2050 ?_
    refine Q0 E_good rfl (v := V.bool false) (.pickK rfl hc2050 rfl) ?_
    exact SafeOps.drop' 4 rfl rfl rfl K
   refine Qf E_good ?_
   refine SafeOps.nil ?_
   repeat first|apply sq|apply sk|with_reducible first|apply tn|apply bn
   refine Safe.ret ?_
   repeat (first | with_reducible refine thenQ.r ?_ | with_reducible refine blockQ.r ?_)
   obtain rfl := Option.some.inj h
   exact retQ.gen (vs := [V.bool (((((((x160 && x163) && x166) && x169) && (x165.V == 6)) && (x168.V == 5)) && (x165.State == 1)) && (x168.State == 1))]) rfl (.tmp rfl .nil) (.free rfl) (by simp) (.inr rfl)
 ·skip
  refine .quiet rfl rfl rfl (.alloc rfl rfl) rfl ?_
  refine okG h (fun hb2027 h => ?_)
  refine DAny.only (i := 0) rfl (by kernel_rfl) (.quiet rfl rfl rfl (.makeM (f := (fun n => [I n])) (d := (0 : Int)) rfl rfl rfl rfl hb2027 rfl rfl rfl) rfl ?_)
  refine bindG h ?_
  rintro ⟨x158, x159, x160⟩ he2031 h
  refine DAny.only (i := 2) rfl (by kernel_rfl) (.quiet rfl rfl rfl (v := V.tup [V.ref [16, 0] 0 (rws (fun n => [I n]) x158).length, V.agg [I x159.Kind, I x159.Pc, I x159.V, I x159.T, I x159.B, V.bool x159.Won, I x159.State], V.bool x160]) (.callS rfl (.cons (.full rfl rfl) (.cons (.free rfl) (.cons (.free rfl) (.cons (.free rfl) .nil)))) (go_ravellaw07_done_sc (List.replicate (Int.toNat 6) (0 : Int)) (api_Deque.mk 0 4) 1 5 _ he2031) (.tupL (.cons (.ownM (fun _ => rfl)) (.cons (.aggL (.cons (.plain rfl) (.cons (.plain rfl) (.cons (.plain rfl) (.cons (.plain rfl) (.cons (.plain rfl) (.cons (.plain rfl) (.cons (.plain rfl) .nil)))))))) (.cons (.plain rfl) .nil)))) rfl) rfl ?_)
  refine DT 3 [[3]] rfl rfl (fun _ hz => (.fn rfl)) ?_
  refine DT 4 [[3]] rfl rfl (fun _ hz => (.fn rfl)) ?_
  refine DT 5 [[3]] rfl rfl (fun _ hz => (.fn rfl)) ?_
  refine DT 6 [[3]] rfl rfl (fun _ hz => (.fn rfl)) ?_
  refine DT 8 [[3]] rfl rfl (fun _ hz => (.fn rfl)) ?_
  refine DAny.only (i := 9) rfl (by kernel_rfl) (.store (z := Obj.box [I x159.Kind, I x159.Pc, I x159.V, I x159.T, I x159.B, V.bool x159.Won, I x159.State]) rfl rfl rfl rfl rfl rfl rfl (.boxM (c := 7) rfl rfl (Nat.le_of_ble_eq_true rfl) rfl) rfl ?_)
  refine DT 10 [[3]] rfl rfl (fun _ hz => (.fn rfl)) ?_
  refine DAny.nil (by kernel_rfl) ?_
  repeat first|apply sq|apply sk|with_reducible first|apply tn|apply bn
  refine Safe.region ?_
  refine Qf E_good ?_
  refine Q0 E_good rfl (v := V.agg [I 0, I 4]) (.load rfl rfl (.box rfl rfl) rfl) ?_
  refine bindG h ?_
  rintro ⟨x161, x162, x163⟩ he2035 h
  refine SafeOps.quiet E_good rfl rfl rfl (v := V.tup [V.ref [23, 0] 0 (rws (fun n => [I n]) x161).length, V.agg [I x162.Kind, I x162.Pc, I x162.V, I x162.T, I x162.B, V.bool x162.Won, I x162.State], V.bool x163]) (.callS rfl (.cons (.full rfl rfl) (.cons (.free rfl) (.cons (.free rfl) (.cons (.free rfl) .nil)))) (go_ravellaw07_done_sc x158 (api_Deque.mk 0 4) 1 6 _ he2035) (.tupL (.cons (.ownM (fun _ => rfl)) (.cons (.aggL (.cons (.plain rfl) (.cons (.plain rfl) (.cons (.plain rfl) (.cons (.plain rfl) (.cons (.plain rfl) (.cons (.plain rfl) (.cons (.plain rfl) .nil)))))))) (.cons (.plain rfl) .nil)))) rfl) rfl ?_
  refine Qf E_good ?_
  refine Qf E_good ?_
  refine Qf E_good ?_
  refine Qf E_good ?_
  refine SafeOps.quiet1 E_good rfl rfl rfl (.alloc rfl rfl) rfl ?_
  refine Qf E_good ?_
  refine SafeOps.store (z := Obj.box [I x162.Kind, I x162.Pc, I x162.V, I x162.T, I x162.B, V.bool x162.Won, I x162.State]) E_good rfl rfl rfl rfl rfl rfl rfl (.boxM (c := 7) rfl rfl (Nat.le_of_ble_eq_true rfl) rfl) ?_
  refine Qf E_good ?_
  refine SafeOps.nil ?_
  repeat first|apply sq|apply sk|with_reducible first|apply tn|apply bn
  refine Safe.region ?_
  refine Qf E_good ?_
  refine Q0 E_good rfl (v := V.agg [I 0, I 4]) (.load rfl rfl (.box rfl rfl) rfl) ?_
  refine bindG h ?_
  rintro ⟨x164, x165, x166⟩ he2039 h
  refine SafeOps.quiet E_good rfl rfl rfl (v := V.tup [V.ref [30, 0] 0 (rws (fun n => [I n]) x164).length, V.agg [I x165.Kind, I x165.Pc, I x165.V, I x165.T, I x165.B, V.bool x165.Won, I x165.State], V.bool x166]) (.callS rfl (.cons (.full rfl rfl) (.cons (.free rfl) (.cons (.free rfl) (.cons (.free rfl) .nil)))) (go_ravellaw07_done_sc x161 (api_Deque.mk 0 4) 2 0 _ he2039) (.tupL (.cons (.ownM (fun _ => rfl)) (.cons (.aggL (.cons (.plain rfl) (.cons (.plain rfl) (.cons (.plain rfl) (.cons (.plain rfl) (.cons (.plain rfl) (.cons (.plain rfl) (.cons (.plain rfl) .nil)))))))) (.cons (.plain rfl) .nil)))) rfl) rfl ?_
  refine Qf E_good ?_
  refine Qf E_good ?_
  refine Qf E_good ?_
  refine Qf E_good ?_
  refine SafeOps.quiet1 E_good rfl rfl rfl (.alloc rfl rfl) rfl ?_
  refine Qf E_good ?_
  refine SafeOps.store (z := Obj.box [I x165.Kind, I x165.Pc, I x165.V, I x165.T, I x165.B, V.bool x165.Won, I x165.State]) E_good rfl rfl rfl rfl rfl rfl rfl (.boxM (c := 7) rfl rfl (Nat.le_of_ble_eq_true rfl) rfl) ?_
  refine Qf E_good ?_
  refine SafeOps.nil ?_
  repeat first|apply sq|apply sk|with_reducible first|apply tn|apply bn
  refine Safe.region ?_
  refine Qf E_good ?_
  refine Q0 E_good rfl (v := V.agg [I 0, I 4]) (.load rfl rfl (.box rfl rfl) rfl) ?_
  refine bindG h ?_
  rintro ⟨x167, x168, x169⟩ he2043 h
  refine SafeOps.quiet E_good rfl rfl rfl (v := V.tup [V.ref [37, 0] 0 (rws (fun n => [I n]) x167).length, V.agg [I x168.Kind, I x168.Pc, I x168.V, I x168.T, I x168.B, V.bool x168.Won, I x168.State], V.bool x169]) (.callS rfl (.cons (.full rfl rfl) (.cons (.free rfl) (.cons (.free rfl) (.cons (.free rfl) .nil)))) (go_ravellaw07_done_sc x164 (api_Deque.mk 0 4) 3 0 _ he2043) (.tupL (.cons (.ownM (fun _ => rfl)) (.cons (.aggL (.cons (.plain rfl) (.cons (.plain rfl) (.cons (.plain rfl) (.cons (.plain rfl) (.cons (.plain rfl) (.cons (.plain rfl) (.cons (.plain rfl) .nil)))))))) (.cons (.plain rfl) .nil)))) rfl) rfl ?_
  refine Qf E_good ?_
  refine Qf E_good ?_
  refine Qf E_good ?_
  refine Qf E_good ?_
  refine SafeOps.quiet1 E_good rfl rfl rfl (.alloc rfl rfl) rfl ?_
  refine Qf E_good ?_
  refine SafeOps.store (z := Obj.box [I x168.Kind, I x168.Pc, I x168.V, I x168.T, I x168.B, V.bool x168.Won, I x168.State]) E_good rfl rfl rfl rfl rfl rfl rfl (.boxM (c := 7) rfl rfl (Nat.le_of_ble_eq_true rfl) rfl) ?_
  refine Qf E_good ?_
  refine SafeOps.nil ?_
  repeat first|apply sq|apply sk|with_reducible first|apply tn|apply bn
  refine Safe.region ?_
  refine Qf E_good ?_
  refine Qf E_good ?_
  refine SafeOps.bjoin 2 44 (b := (x160 && x163)) (b1 := x163) (b0 := false) (fun hc2044 K => ?_) (fun hc2044 K => ?_) bj_and ?_
  ·skip
   refine qT E_good hc2044 (.fn rfl) ?_
   refine Q0 E_good rfl (v := V.bool x163) (.pickK rfl hc2044 rfl) ?_
   exact SafeOps.drop' 2 rfl rfl rfl K
  ·skip
   refine sT hc2044 ?_
   refine Q0 E_good rfl (v := V.bool false) (.pickK rfl hc2044 rfl) ?_
   exact SafeOps.drop' 2 rfl rfl rfl K
  refine Qf E_good ?_
  refine SafeOps.bjoin 2 47 (b := ((x160 && x163) && x166)) (b1 := x166) (b0 := false) (fun hc2045 K => ?_) (fun hc2045 K => ?_) bj_and ?_
  ·skip
   refine qT E_good hc2045 (.fn rfl) ?_
   refine Q0 E_good rfl (v := V.bool x166) (.pickK rfl hc2045 rfl) ?_
   exact SafeOps.drop' 2 rfl rfl rfl K
  ·skip
   refine sT hc2045 ?_
   refine Q0 E_good rfl (v := V.bool false) (.pickK rfl hc2045 rfl) ?_
   exact SafeOps.drop' 2 rfl rfl rfl K
  refine Qf E_good ?_
  refine SafeOps.bjoin 2 50 (b := (((x160 && x163) && x166) && x169)) (b1 := x169) (b0 := false) (fun hc2046 K => ?_) (fun hc2046 K => ?_) bj_and ?_
  ·skip
   refine qT E_good hc2046 (.fn rfl) ?_
   refine Q0 E_good rfl (v := V.bool x169) (.pickK rfl hc2046 rfl) ?_
   exact SafeOps.drop' 2 rfl rfl rfl K
  ·skip
   refine sT hc2046 ?_
   refine Q0 E_good rfl (v := V.bool false) (.pickK rfl hc2046 rfl) ?_
   exact SafeOps.drop' 2 rfl rfl rfl K
  refine Qf E_good ?_
  refine SafeOps.bjoin 4 55 (b := ((((x160 && x163) && x166) && x169) && (x165.V == 6))) (b1 := (x165.V == 6)) (b0 := false) (fun hc2047 K => ?_) (fun hc2047 K => ?_) bj_and ?_
  ·skip
   refine qT E_good hc2047 (v := V.ptr [7] 0 2) (.fn rfl) ?_
   refine qT E_good hc2047 (v := I x165.V) (.load rfl rfl (.box rfl rfl) rfl) ?_
   refine qT E_good hc2047 (v := V.bool (x165.V == 6)) (.fn rfl) ?_
   refine Q0 E_good rfl (v := V.bool (x165.V == 6)) (.pickK rfl hc2047 rfl) ?_
   exact SafeOps.drop' 4 rfl rfl rfl K
  ·skip
   refine sT hc2047 ?_
   refine sT hc2047 ?_
   refine sT hc2047 ?_
   refine Q0 E_good rfl (v := V.bool false) (.pickK rfl hc2047 rfl) ?_
   exact SafeOps.drop' 4 rfl rfl rfl K
  refine Qf E_good ?_
  refine SafeOps.bjoin 4 60 (b := (((((x160 && x163) && x166) && x169) && (x165.V == 6)) && (x168.V == 5))) (b1 := (x168.V == 5)) (b0 := false) (fun hc2048 K => ?_) (fun hc2048 K => ?_) bj_and ?_
  ·skip
   refine qT E_good hc2048 (v := V.ptr [10] 0 2) (.fn rfl) ?_
   refine qT E_good hc2048 (v := I x168.V) (.load rfl rfl (.box rfl rfl) rfl) ?_
   refine qT E_good hc2048 (v := V.bool (x168.V == 5)) (.fn rfl) ?_
   refine Q0 E_good rfl (v := V.bool (x168.V == 5)) (.pickK rfl hc2048 rfl) ?_
   exact SafeOps.drop' 4 rfl rfl rfl K
  ·skip
   refine sT hc2048 ?_
   refine sT hc2048 ?_
   refine sT hc2048 ?_
   refine Q0 E_good rfl (v := V.bool false) (.pickK rfl hc2048 rfl) ?_
   exact SafeOps.drop' 4 rfl rfl rfl K
  refine Qf E_good ?_
  refine SafeOps.bjoin 4 65 (b := ((((((x160 && x163) && x166) && x169) && (x165.V == 6)) && (x168.V == 5)) && (x165.State == 1))) (b1 := (x165.State == 1)) (b0 := false) (fun hc2049 K => ?_) (fun hc2049 K => ?_) bj_and ?_
  ·skip
   refine qT E_good hc2049 (v := V.ptr [7] 0 6) (.fn rfl) ?_
   refine qT E_good hc2049 (v := I x165.State) (.load rfl rfl (.box rfl rfl) rfl) ?_
   refine qT E_good hc2049 (v := V.bool (x165.State == 1)) (.fn rfl) ?_
   refine Q0 E_good rfl (v := V.bool (x165.State == 1)) (.pickK rfl hc2049 rfl) ?_
   exact SafeOps.drop' 4 rfl rfl rfl K
  ·skip
   refine sT hc2049 ?_
   refine sT hc2049 ?_
   refine sT hc2049 ?_
   refine Q0 E_good rfl (v := V.bool false) (.pickK rfl hc2049 rfl) ?_
   exact SafeOps.drop' 4 rfl rfl rfl K
  refine Qf E_good ?_
  refine SafeOps.bjoin 4 70 (b := (((((((x160 && x163) && x166) && x169) && (x165.V == 6)) && (x168.V == 5)) && (x165.State == 1)) && (x168.State == 1))) (b1 := (x168.State == 1)) (b0 := false) (fun hc2050 K => ?_) (fun hc2050 K => ?_) bj_and ?_
  ·skip
   refine qT E_good hc2050 (v := V.ptr [10] 0 6) (.fn rfl) ?_
   refine qT E_good hc2050 (v := I x168.State) (.load rfl rfl (.box rfl rfl) rfl) ?_
   refine qT E_good hc2050 (v := V.bool (x168.State == 1)) (.fn rfl) ?_
   refine Q0 E_good rfl (v := V.bool (x168.State == 1)) (.pickK rfl hc2050 rfl) ?_
   exact SafeOps.drop' 4 rfl rfl rfl K
  ·skip
   refine sT hc2050 ?_
   refine sT hc2050 ?_
   refine sT hc2050 ?_
   refine Q0 E_good rfl (v := V.bool false) (.pickK rfl hc2050 rfl) ?_
   exact SafeOps.drop' 4 rfl rfl rfl K
  refine Qf E_good ?_
  refine SafeOps.nil ?_
  repeat first|apply sq|apply sk|with_reducible first|apply tn|apply bn
  refine Safe.ret ?_
  repeat (first | with_reducible refine thenQ.r ?_ | with_reducible refine blockQ.r ?_)
  obtain rfl := Option.some.inj h
  exact retQ.gen (vs := [V.bool (((((((x160 && x163) && x166) && x169) && (x165.V == 6)) && (x168.V == 5)) && (x165.State == 1)) && (x168.State == 1))]) rfl (.tmp rfl .nil) (.free rfl) (by simp) (.inr rfl)

noncomputable def go_ring_List_j19 (v170 : List Int) (v171 : Int) (x172 : Int) (v173 : Int) : Option (((List Int) × Int × Int) ⊕ ((List Int) × Int)) :=
 if few (v170 ++ [x172]).length then
  nextO (v170 ++ [x172], IntKind.i64.wrap (v171 + 1), v173)
 else none

noncomputable def go_ring_List_s17 (a174 : List Int) (a175 : api_Deque) (x176 : Int) : ((List Int) × Int × Int) → Option (((List Int) × Int × Int) ⊕ ((List Int) × Int))
 | (v170, v171, v177) =>
  if (decide (v171 < x176)) = true then
   (go_pring_actor_slot (ring_actor.mk api_Hand.zero a174 a175 v177) v171).bind fun x178 =>
   (go_cell_Load a174 x178).bind fun (x172, x179) =>
   if (!(x179 == 0)) = true then
    go_ring_List_j19 v170 v171 x172 9
   else
    go_ring_List_j19 v170 v171 x172 v177
  else
   inrO (
    some (v170, 0))

noncomputable def go_ring_List_j12 (a174 : List Int) (a175 : api_Deque) (x180 : Int) (x176 : Int) (v181 : Int) : Option ((List Int) × Int) :=
 if (((v181 != 0) || (decide (x176 < x180))) || (decide ((IntKind.i64.wrap (x176 - x180)) > a175.Cap))) = true then
  some ([], 9)
 else
  whileO (go_ring_List_s17 a174 a175 x176) ([], x180, v181)

noncomputable def go_ring_List_j11 (a174 : List Int) (a175 : api_Deque) (x180 : Int) (x176 : Int) (v182 : Int) : Option ((List Int) × Int) :=
 if (!((decide (x176 ≥ 0)) && (decide (x176 ≤ 1099511627776)))) = true then
  go_ring_List_j12 a174 a175 x180 x176 9
 else
  go_ring_List_j12 a174 a175 x180 x176 v182

noncomputable def go_ring_List_j6 (a174 : List Int) (a175 : api_Deque) (x180 : Int) (v183 : Int) : Option ((List Int) × Int) :=
 (go_cell_Load a174 (go_pring_actor_bottom (ring_actor.mk api_Hand.zero a174 a175 v183))).bind fun (x176, x184) =>
 if (!(x184 == 0)) = true then
  go_ring_List_j11 a174 a175 x180 x176 9
 else
  go_ring_List_j11 a174 a175 x180 x176 v183

noncomputable def go_ring_List_j5 (a174 : List Int) (a175 : api_Deque) (x180 : Int) (v185 : Int) : Option ((List Int) × Int) :=
 if (!((decide (x180 ≥ 0)) && (decide (x180 ≤ 1099511627776)))) = true then
  go_ring_List_j6 a174 a175 x180 9
 else
  go_ring_List_j6 a174 a175 x180 v185

noncomputable def go_ring_List (a174 : List Int) (a175 : api_Deque) : Option ((List Int) × Int) :=
 if ((go_ring_Check a174 a175) != 0) = true then
  some ([], go_ring_Check a174 a175)
 else
  (go_cell_Load a174 (go_pring_actor_top (ring_actor.mk api_Hand.zero a174 a175 0))).bind fun (x180, x186) =>
  if (!(x186 == 0)) = true then
   go_ring_List_j5 a174 a175 x180 9
  else
   go_ring_List_j5 a174 a175 x180 0

theorem go_ring_List_sc (a174 : List Int) (a175 : api_Deque) (r : (List Int) × Int) (h : go_ring_List a174 a175 = some r) : SC Try.prog gl 15 [V.sl 1 (rws (fun n => [I n]) a174), V.agg [I a175.Base, I a175.Cap]] (V.tup [V.own 1 (rws (fun n => [I n]) r.1), I r.2]) := by
 rw [go_ring_List] at h
 refine SC.of E_good Try.func15 rfl (fun _ _ => Try.call15 _ _) rfl ?_
 repeat first|apply sq|apply sk|with_reducible first|apply tn|apply bn
 refine Safe.region ?_
 refine SafeOps.quiet1 E_good rfl rfl rfl (.box rfl rfl) rfl ?_
 refine Qf E_good ?_
 refine Qf E_good ?_
 refine SafeOps.nil ?_
 repeat first|apply sq|apply sk|with_reducible first|apply tn|apply bn
 refine Safe.region ?_
 refine Qf E_good ?_
 refine Q0 E_good rfl (v := V.agg [I a175.Base, I a175.Cap]) (.load rfl rfl (.box rfl rfl) rfl) ?_
 refine Q0 E_good rfl (v := I (go_ring_Check a174 a175)) (.callP rfl rfl (go_ring_Check_sc a174 a175 _ rfl) rfl) ?_
 refine Qf E_good ?_
 refine SafeOps.nil ?_
 repeat first|apply sq|apply sk|with_reducible first|apply tn|apply bn
 refine Safe.region ?_
 refine Qf E_good ?_
 refine Q0 E_good rfl (v := V.bool ((go_ring_Check a174 a175) != 0)) (.fn rfl) ?_
 refine SafeOps.nil ?_
 repeat first|apply sq|apply sk|with_reducible first|apply tn|apply bn
 refine ifG h (fun hc2181 h => ?_) (fun hc2181 h => ?_)
 ·skip
  refine Safe.condK rfl hc2181 ?_
  repeat first|apply sq|apply sk|with_reducible first|apply tn|apply bn
  refine Safe.region ?_
  refine Qf E_good ?_
  refine Qf E_good ?_
  refine Qf E_good ?_
  refine SafeOps.nil ?_
  repeat first|apply sq|apply sk|with_reducible first|apply tn|apply bn
  refine Safe.ret ?_
  repeat (first | with_reducible refine thenQ.r ?_ | with_reducible refine blockQ.r ?_)
  obtain rfl := Option.some.inj h
  exact retQ.gen (vs := [V.nils, I (go_ring_Check a174 a175)]) rfl (.tmp rfl (.tmp rfl .nil)) (by exact (.tup (.cons (.nils _) (.cons (.free rfl) .nil)))) (by simp) (.inr rfl)
 ·skip
  refine Safe.condN rfl hc2181 ?_
  repeat first|apply sq|apply sk|with_reducible first|apply tn|apply bn
  refine Safe.region ?_
  refine Qf E_good ?_
  refine Q0 E_good rfl (v := V.agg [I a175.Base, I a175.Cap]) (.load rfl rfl (.box rfl rfl) rfl) ?_
  refine Q0 E_good rfl (v := V.agg [I 0, I 0, I 0, I 0, I 0, V.bool false, I 0, V.sl 1 (rws (fun n => [I n]) a174), I a175.Base, I a175.Cap, I 0]) (.fn rfl) ?_
  refine SafeOps.quiet1 E_good rfl rfl rfl (.box rfl rfl) rfl ?_
  refine Qf E_good ?_
  refine SafeOps.nil ?_
  repeat first|apply sq|apply sk|with_reducible first|apply tn|apply bn
  refine Safe.region ?_
  refine Qf E_good ?_
  refine Qf E_good ?_
  refine Q0 E_good rfl (v := I (go_pring_actor_top (ring_actor.mk api_Hand.zero a174 a175 0))) (.callS rfl (.cons (.box rfl (.cons (.free rfl) (.cons (.free rfl) (.cons (.free rfl) (.cons (.free rfl) (.cons (.free rfl) (.cons (.free rfl) (.cons (.free rfl) (.cons (.free rfl) (.cons (.free rfl) (.cons (.free rfl) (.cons (.free rfl) .nil)))))))))))) .nil) (go_pring_actor_top_sc (ring_actor.mk api_Hand.zero a174 a175 0) _ rfl) (.plain rfl) rfl) ?_
  refine SafeOps.inline E_good rfl rfl rfl rfl rfl Try.func28 rfl (fun _ _ => Try.call28 _ _) rfl ?_
  repeat first|apply sq|apply sk|with_reducible first|apply tn|apply bn
  refine Safe.region ?_
  refine Qf E_good ?_
  refine SafeOps.nil ?_
  repeat first|apply sq|apply sk|with_reducible first|apply tn|apply bn
  refine Safe.region ?_
  refine Qf E_good ?_
  refine Qf E_good ?_
  refine SafeOps.inline E_good rfl rfl rfl rfl rfl Try.func31 rfl (fun _ _ => Try.call31 _ _) rfl ?_
  repeat first|apply sq|apply sk|with_reducible first|apply tn|apply bn
  refine Safe.region ?_
  refine Qf E_good ?_
  refine SafeOps.nil ?_
  repeat first|apply sq|apply sk|with_reducible first|apply tn|apply bn
  refine Safe.region ?_
  refine Qf E_good ?_
  refine Q0 E_good rfl (v := V.ptr [20] 0 0) (.fn rfl) ?_
  refine Q0 E_good rfl (v := V.ptr [20] 0 7) (.fn rfl) ?_
  refine Q0 E_good rfl (v := V.sl 1 (rws (fun n => [I n]) a174)) (.load rfl rfl (.box rfl rfl) rfl) ?_
  refine Qf E_good ?_
  refine bindG h ?_
  rintro ⟨x180, x186⟩ he2206 h
  refine Q0 E_good rfl (v := V.tup [I x180, I x186]) (.callP rfl rfl (go_cell_Load_sc a174 (go_pring_actor_top (ring_actor.mk api_Hand.zero a174 a175 0)) _ he2206) rfl) ?_
  refine Qf E_good ?_
  refine Qf E_good ?_
  refine Qf E_good ?_
  refine Qf E_good ?_
  refine Qf E_good ?_
  refine SafeOps.nil ?_
  repeat first|apply sq|apply sk|with_reducible first|apply tn|apply bn
  refine Safe.region ?_
  refine Qf E_good ?_
  refine Qf E_good ?_
  refine Q0 E_good rfl (v := V.bool (x186 == 0)) (.fn rfl) ?_
  refine SafeOps.joinT 1 (fun (v185 : Int) => go_ring_List_j5 a174 a175 x180 v185 = some r) (fun (v185 : Int) => ⟨Try.f31.ntmps, [(5, I x180)], [([3], Obj.box [I a175.Base, I a175.Cap]), ([20], Obj.box [I 0, I 0, I 0, I 0, I 0, V.bool false, I 0, V.sl 1 (rws (fun n => [I n]) a174), I a175.Base, I a175.Cap, I v185])], [(Try.f28.ntmps, [(0, V.ptr [20] 0 0), (2, I 0)]), (Try.f15.ntmps, [(3, V.ptr [3] 0 0), (4, V.nils), (7, V.ptr [20] 0 0)])], [24, 10]⟩) ?_ (fun HJ2209 => ?_)
  ·intro v185 h
   replace h : go_ring_List_j5 a174 a175 x180 v185 = some r := h
   rw [go_ring_List_j5] at h
   refine SafeOps.nil ?_
   repeat first|apply sq|apply sk|with_reducible first|apply tn|apply bn
   refine Safe.region ?_
   refine Qf E_good ?_
   refine Qf E_good ?_
   refine SafeOps.nil ?_
   repeat first|apply sq|apply sk|with_reducible first|apply tn|apply bn
   refine Safe.ret ?_
   repeat (first | with_reducible refine thenQ.r ?_ | with_reducible refine blockQ.r ?_)
   refine inQ.gen (vs := [I x180]) (v := I x180) (.inr rfl) rfl (.tmp (v := I x180) rfl .nil) rfl ?_
   refine Qf E_good ?_
   refine SafeOps.nil ?_
   repeat first|apply sq|apply sk|with_reducible first|apply tn|apply bn
   refine Safe.region ?_
   refine Qf E_good ?_
   refine Qf E_good ?_
   refine Qf E_good ?_
   refine Q0 E_good rfl (v := V.bool (decide (x180 ≥ 0))) (.fn rfl) ?_
   refine Qf E_good ?_
   refine SafeOps.bjoin 3 18 (b := ((decide (x180 ≥ 0)) && (decide (x180 ≤ 1099511627776)))) (b1 := decide (x180 ≤ 1099511627776)) (b0 := false) (fun hc2210 K => ?_) (fun hc2210 K => ?_) bj_and ?_
   ·skip
    refine qT E_good hc2210 (.fn rfl) ?_
    refine qT E_good hc2210 (v := V.bool (decide (x180 ≤ 1099511627776))) (.fn rfl) ?_
    refine Q0 E_good rfl (v := V.bool (decide (x180 ≤ 1099511627776))) (.pickK rfl hc2210 rfl) ?_
    exact SafeOps.drop' 3 rfl rfl rfl K
   ·skip
    refine sT hc2210 ?_
    refine sT hc2210 ?_
    refine Q0 E_good rfl (v := V.bool false) (.pickK rfl hc2210 rfl) ?_
    exact SafeOps.drop' 3 rfl rfl rfl K
   refine SafeOps.joinT 1 (fun (v183 : Int) => go_ring_List_j6 a174 a175 x180 v183 = some r) (fun (v183 : Int) => ⟨Try.f28.ntmps, [(7, I x180)], [([3], Obj.box [I a175.Base, I a175.Cap]), ([20], Obj.box [I 0, I 0, I 0, I 0, I 0, V.bool false, I 0, V.sl 1 (rws (fun n => [I n]) a174), I a175.Base, I a175.Cap, I v183])], [(Try.f15.ntmps, [(3, V.ptr [3] 0 0), (4, V.nils), (7, V.ptr [20] 0 0)])], [24]⟩) ?_ (fun HJ2213 => ?_)
   ·intro v183 h
    replace h : go_ring_List_j6 a174 a175 x180 v183 = some r := h
    rw [go_ring_List_j6] at h
    refine SafeOps.nil ?_
    repeat first|apply sq|apply sk|with_reducible first|apply tn|apply bn
    refine Safe.region ?_
    refine Qf E_good ?_
    refine Qf E_good ?_
    refine SafeOps.nil ?_
    repeat first|apply sq|apply sk|with_reducible first|apply tn|apply bn
    refine Safe.ret ?_
    repeat (first | with_reducible refine thenQ.r ?_ | with_reducible refine blockQ.r ?_)
    refine inQ.gen (vs := [I x180]) (v := I x180) (.inr rfl) rfl (.tmp (v := I x180) rfl .nil) rfl ?_
    refine Qf E_good ?_
    refine Qf E_good ?_
    refine Q0 E_good rfl (v := I (go_pring_actor_bottom (ring_actor.mk api_Hand.zero a174 a175 v183))) (.callS rfl (.cons (.box rfl (.cons (.free rfl) (.cons (.free rfl) (.cons (.free rfl) (.cons (.free rfl) (.cons (.free rfl) (.cons (.free rfl) (.cons (.free rfl) (.cons (.free rfl) (.cons (.free rfl) (.cons (.free rfl) (.cons (.free rfl) .nil)))))))))))) .nil) (go_pring_actor_bottom_sc (ring_actor.mk api_Hand.zero a174 a175 v183) _ rfl) (.plain rfl) rfl) ?_
    refine SafeOps.inline E_good rfl rfl rfl rfl rfl Try.func28 rfl (fun _ _ => Try.call28 _ _) rfl ?_
    repeat first|apply sq|apply sk|with_reducible first|apply tn|apply bn
    refine Safe.region ?_
    refine Qf E_good ?_
    refine SafeOps.nil ?_
    repeat first|apply sq|apply sk|with_reducible first|apply tn|apply bn
    refine Safe.region ?_
    refine Qf E_good ?_
    refine Qf E_good ?_
    refine SafeOps.inline E_good rfl rfl rfl rfl rfl Try.func31 rfl (fun _ _ => Try.call31 _ _) rfl ?_
    repeat first|apply sq|apply sk|with_reducible first|apply tn|apply bn
    refine Safe.region ?_
    refine Qf E_good ?_
    refine SafeOps.nil ?_
    repeat first|apply sq|apply sk|with_reducible first|apply tn|apply bn
    refine Safe.region ?_
    refine Qf E_good ?_
    refine Q0 E_good rfl (v := V.ptr [20] 0 0) (.fn rfl) ?_
    refine Q0 E_good rfl (v := V.ptr [20] 0 7) (.fn rfl) ?_
    refine Q0 E_good rfl (v := V.sl 1 (rws (fun n => [I n]) a174)) (.load rfl rfl (.box rfl rfl) rfl) ?_
    refine Qf E_good ?_
    refine bindG h ?_
    rintro ⟨x176, x184⟩ he2238 h
    refine Q0 E_good rfl (v := V.tup [I x176, I x184]) (.callP rfl rfl (go_cell_Load_sc a174 (go_pring_actor_bottom (ring_actor.mk api_Hand.zero a174 a175 v183)) _ he2238) rfl) ?_
    refine Qf E_good ?_
    refine Qf E_good ?_
    refine Qf E_good ?_
    refine Qf E_good ?_
    refine Qf E_good ?_
    refine SafeOps.nil ?_
    repeat first|apply sq|apply sk|with_reducible first|apply tn|apply bn
    refine Safe.region ?_
    refine Qf E_good ?_
    refine Qf E_good ?_
    refine Q0 E_good rfl (v := V.bool (x184 == 0)) (.fn rfl) ?_
    refine SafeOps.joinT 1 (fun (v182 : Int) => go_ring_List_j11 a174 a175 x180 x176 v182 = some r) (fun (v182 : Int) => ⟨Try.f31.ntmps, [(5, I x176)], [([3], Obj.box [I a175.Base, I a175.Cap]), ([20], Obj.box [I 0, I 0, I 0, I 0, I 0, V.bool false, I 0, V.sl 1 (rws (fun n => [I n]) a174), I a175.Base, I a175.Cap, I v182])], [(Try.f28.ntmps, [(0, V.ptr [20] 0 0), (2, I 0)]), (Try.f15.ntmps, [(3, V.ptr [3] 0 0), (4, V.nils), (7, V.ptr [20] 0 0), (24, I x180)])], [28, 10]⟩) ?_ (fun HJ2241 => ?_)
    ·intro v182 h
     replace h : go_ring_List_j11 a174 a175 x180 x176 v182 = some r := h
     rw [go_ring_List_j11] at h
     refine SafeOps.nil ?_
     repeat first|apply sq|apply sk|with_reducible first|apply tn|apply bn
     refine Safe.region ?_
     refine Qf E_good ?_
     refine Qf E_good ?_
     refine SafeOps.nil ?_
     repeat first|apply sq|apply sk|with_reducible first|apply tn|apply bn
     refine Safe.ret ?_
     repeat (first | with_reducible refine thenQ.r ?_ | with_reducible refine blockQ.r ?_)
     refine inQ.gen (vs := [I x176]) (v := I x176) (.inr rfl) rfl (.tmp (v := I x176) rfl .nil) rfl ?_
     refine Qf E_good ?_
     refine SafeOps.nil ?_
     repeat first|apply sq|apply sk|with_reducible first|apply tn|apply bn
     refine Safe.region ?_
     refine Qf E_good ?_
     refine Qf E_good ?_
     refine Qf E_good ?_
     refine Q0 E_good rfl (v := V.bool (decide (x176 ≥ 0))) (.fn rfl) ?_
     refine Qf E_good ?_
     refine SafeOps.bjoin 3 18 (b := ((decide (x176 ≥ 0)) && (decide (x176 ≤ 1099511627776)))) (b1 := decide (x176 ≤ 1099511627776)) (b0 := false) (fun hc2242 K => ?_) (fun hc2242 K => ?_) bj_and ?_
     ·skip
      refine qT E_good hc2242 (.fn rfl) ?_
      refine qT E_good hc2242 (v := V.bool (decide (x176 ≤ 1099511627776))) (.fn rfl) ?_
      refine Q0 E_good rfl (v := V.bool (decide (x176 ≤ 1099511627776))) (.pickK rfl hc2242 rfl) ?_
      exact SafeOps.drop' 3 rfl rfl rfl K
     ·skip
      refine sT hc2242 ?_
      refine sT hc2242 ?_
      refine Q0 E_good rfl (v := V.bool false) (.pickK rfl hc2242 rfl) ?_
      exact SafeOps.drop' 3 rfl rfl rfl K
     refine SafeOps.joinT 1 (fun (v181 : Int) => go_ring_List_j12 a174 a175 x180 x176 v181 = some r) (fun (v181 : Int) => ⟨Try.f28.ntmps, [(7, I x176)], [([3], Obj.box [I a175.Base, I a175.Cap]), ([20], Obj.box [I 0, I 0, I 0, I 0, I 0, V.bool false, I 0, V.sl 1 (rws (fun n => [I n]) a174), I a175.Base, I a175.Cap, I v181])], [(Try.f15.ntmps, [(3, V.ptr [3] 0 0), (4, V.nils), (7, V.ptr [20] 0 0), (24, I x180)])], [28]⟩) ?_ (fun HJ2245 => ?_)
     ·intro v181 h
      replace h : go_ring_List_j12 a174 a175 x180 x176 v181 = some r := h
      rw [go_ring_List_j12] at h
      refine SafeOps.nil ?_
      repeat first|apply sq|apply sk|with_reducible first|apply tn|apply bn
      refine Safe.region ?_
      refine Qf E_good ?_
      refine Qf E_good ?_
      refine SafeOps.nil ?_
      repeat first|apply sq|apply sk|with_reducible first|apply tn|apply bn
      refine Safe.ret ?_
      repeat (first | with_reducible refine thenQ.r ?_ | with_reducible refine blockQ.r ?_)
      refine inQ.gen (vs := [I x176]) (v := I x176) (.inr rfl) rfl (.tmp (v := I x176) rfl .nil) rfl ?_
      refine Qf E_good ?_
      refine Qf E_good ?_
      refine SafeOps.nil ?_
      repeat first|apply sq|apply sk|with_reducible first|apply tn|apply bn
      refine Safe.region ?_
      refine Qf E_good ?_
      refine Q0 E_good rfl (v := V.ptr [20] 0 0) (.fn rfl) ?_
      refine Q0 E_good rfl (v := V.ptr [20] 0 10) (.fn rfl) ?_
      refine Q0 E_good rfl (v := I v181) (.load rfl rfl (.box rfl rfl) rfl) ?_
      refine Q0 E_good rfl (v := V.bool (v181 != 0)) (.fn rfl) ?_
      refine Qf E_good ?_
      refine SafeOps.bjoin 4 38 (b := ((v181 != 0) || (decide (x176 < x180)))) (b1 := true) (b0 := decide (x176 < x180)) (fun hc2246 K => ?_) (fun hc2246 K => ?_) bj_or ?_
      ·skip
       refine sF hc2246 ?_
       refine sF hc2246 ?_
       refine sF hc2246 ?_
       refine Q0 E_good rfl (v := V.bool true) (.pickK rfl hc2246 rfl) ?_
       exact SafeOps.drop' 4 rfl rfl rfl K
      ·skip
       refine qF E_good hc2246 (.fn rfl) ?_
       refine qF E_good hc2246 (.fn rfl) ?_
       refine qF E_good hc2246 (v := V.bool (decide (x176 < x180))) (.fn rfl) ?_
       refine Q0 E_good rfl (v := V.bool (decide (x176 < x180))) (.pickK rfl hc2246 rfl) ?_
       exact SafeOps.drop' 4 rfl rfl rfl K
      refine Qf E_good ?_
      refine SafeOps.bjoin 7 46 (b := (((v181 != 0) || (decide (x176 < x180))) || (decide ((IntKind.i64.wrap (x176 - x180)) > a175.Cap)))) (b1 := true) (b0 := decide ((IntKind.i64.wrap (x176 - x180)) > a175.Cap)) (fun hc2247 K => ?_) (fun hc2247 K => ?_) bj_or ?_
      ·skip
       refine sF hc2247 ?_
       refine sF hc2247 ?_
       refine sF hc2247 ?_
       refine sF hc2247 ?_
       refine sF hc2247 ?_
       refine sF hc2247 ?_
       refine Q0 E_good rfl (v := V.bool true) (.pickK rfl hc2247 rfl) ?_
       exact SafeOps.drop' 7 rfl rfl rfl K
      ·skip
       refine qF E_good hc2247 (.fn rfl) ?_
       refine qF E_good hc2247 (.fn rfl) ?_
       refine qF E_good hc2247 (v := I (IntKind.i64.wrap (x176 - x180))) (.fn rfl) ?_
       refine qF E_good hc2247 (v := V.ptr [3] 0 1) (.fn rfl) ?_
       refine qF E_good hc2247 (v := I a175.Cap) (.load rfl rfl (.box rfl rfl) rfl) ?_
       refine qF E_good hc2247 (v := V.bool (decide ((IntKind.i64.wrap (x176 - x180)) > a175.Cap))) (.fn rfl) ?_
       refine Q0 E_good rfl (v := V.bool (decide ((IntKind.i64.wrap (x176 - x180)) > a175.Cap))) (.pickK rfl hc2247 rfl) ?_
       exact SafeOps.drop' 7 rfl rfl rfl K
      refine SafeOps.nil ?_
      repeat first|apply sq|apply sk|with_reducible first|apply tn|apply bn
      refine ifG h (fun hc2248 h => ?_) (fun hc2248 h => ?_)
      ·skip
       refine Safe.condK rfl hc2248 ?_
       repeat first|apply sq|apply sk|with_reducible first|apply tn|apply bn
       refine Safe.region ?_
       refine Qf E_good ?_
       refine Qf E_good ?_
       refine SafeOps.nil ?_
       repeat first|apply sq|apply sk|with_reducible first|apply tn|apply bn
       refine Safe.ret ?_
       repeat (first | with_reducible refine thenQ.r ?_ | with_reducible refine blockQ.r ?_)
       obtain rfl := Option.some.inj h
       exact retQ.gen (vs := [V.nils, I 9]) rfl (.tmp rfl (.tmp rfl .nil)) (by exact (.tup (.cons (.nils _) (.cons (.free rfl) .nil)))) (by simp) (.inr rfl)
      ·skip
       refine Safe.condN rfl hc2248 ?_
       repeat first|apply sq|apply sk|with_reducible first|apply tn|apply bn
       refine Safe.region ?_
       refine Qf E_good ?_
       refine Qf E_good ?_
       refine SafeOps.nil ?_
       repeat first|apply sq|apply sk|with_reducible first|apply tn|apply bn
       refine Safe.block ?_
       repeat first|apply sq|apply sk|with_reducible first|apply tn|apply bn
       refine Safe.loopW (fun ((v170, v171, v177) : (List Int) × Int × Int) => ⟨Try.f15.ntmps, [(4, V.ref [7000, 118, 4] 0 (rws (fun n => [I n]) v170).length), (7, V.ptr [20] 0 0), (9, I x176), (10, I v171)], [([20], Obj.box [I 0, I 0, I 0, I 0, I 0, V.bool false, I 0, V.sl 1 (rws (fun n => [I n]) a174), I a175.Base, I a175.Cap, I v177]), ([7000, 118, 4], Obj.rows 1 (rws (fun n => [I n]) v170) false)], [], []⟩) h (.empty [7000, 118, 4] 1 rfl (.cov ⟨rfl, rfl, (upT_cons (.nilref _) (ut (ut (ut upT_nil)))), (uo (uo upOb_nil)), upOut_nil, rfl⟩)) ?_
       rintro ⟨v170, v171, v177⟩ ohr2287 h hr2287
       replace h : go_ring_List_s17 a174 a175 x176 (v170, v171, v177) = some ohr2287 := h
       rw [go_ring_List_s17] at h
       repeat first|apply sq|apply sk|with_reducible first|apply tn|apply bn
       refine Safe.region ?_
       refine Qf E_good ?_
       refine Qf E_good ?_
       refine Q0 E_good rfl (v := V.bool (decide (v171 < x176))) (.fn rfl) ?_
       refine SafeOps.nil ?_
       repeat first|apply sq|apply sk|with_reducible first|apply tn|apply bn
       refine ifG h (fun hc2288 h => ?_) (fun hc2288 h => ?_)
       ·skip
        refine Safe.condK rfl hc2288 ?_
        repeat first|apply sq|apply sk|with_reducible first|apply tn|apply bn
        refine Safe.block ?_
        repeat first|apply sq|apply sk|with_reducible first|apply tn|apply bn
        refine Safe.region ?_
        refine Qf E_good ?_
        refine Qf E_good ?_
        refine Qf E_good ?_
        refine Qf E_good ?_
        refine bindG h ?_
        intro x178 he2290 h
        refine Q0 E_good rfl (v := I x178) (.callS rfl (.cons (.box rfl (.cons (.free rfl) (.cons (.free rfl) (.cons (.free rfl) (.cons (.free rfl) (.cons (.free rfl) (.cons (.free rfl) (.cons (.free rfl) (.cons (.free rfl) (.cons (.free rfl) (.cons (.free rfl) (.cons (.free rfl) .nil)))))))))))) (.cons (.free rfl) .nil)) (go_pring_actor_slot_sc (ring_actor.mk api_Hand.zero a174 a175 v177) v171 _ he2290) (.plain rfl) rfl) ?_
        refine SafeOps.inline E_good rfl rfl rfl rfl rfl Try.func31 rfl (fun _ _ => Try.call31 _ _) rfl ?_
        repeat first|apply sq|apply sk|with_reducible first|apply tn|apply bn
        refine Safe.region ?_
        refine Qf E_good ?_
        refine SafeOps.nil ?_
        repeat first|apply sq|apply sk|with_reducible first|apply tn|apply bn
        refine Safe.region ?_
        refine Qf E_good ?_
        refine Q0 E_good rfl (v := V.ptr [20] 0 0) (.fn rfl) ?_
        refine Q0 E_good rfl (v := V.ptr [20] 0 7) (.fn rfl) ?_
        refine Q0 E_good rfl (v := V.sl 1 (rws (fun n => [I n]) a174)) (.load rfl rfl (.box rfl rfl) rfl) ?_
        refine Qf E_good ?_
        refine bindG h ?_
        rintro ⟨x172, x179⟩ he2299 h
        refine Q0 E_good rfl (v := V.tup [I x172, I x179]) (.callP rfl rfl (go_cell_Load_sc a174 x178 _ he2299) rfl) ?_
        refine Qf E_good ?_
        refine Qf E_good ?_
        refine Qf E_good ?_
        refine Qf E_good ?_
        refine Qf E_good ?_
        refine SafeOps.nil ?_
        repeat first|apply sq|apply sk|with_reducible first|apply tn|apply bn
        refine Safe.region ?_
        refine Qf E_good ?_
        refine Qf E_good ?_
        refine Q0 E_good rfl (v := V.bool (x179 == 0)) (.fn rfl) ?_
        refine SafeOps.joinT 1 (fun (v173 : Int) => go_ring_List_j19 v170 v171 x172 v173 = some ohr2287) (fun (v173 : Int) => ⟨Try.f31.ntmps, [(5, I x172)], [([20], Obj.box [I 0, I 0, I 0, I 0, I 0, V.bool false, I 0, V.sl 1 (rws (fun n => [I n]) a174), I a175.Base, I a175.Cap, I v173]), ([7000, 118, 4], Obj.rows 1 (rws (fun n => [I n]) v170) false)], [(Try.f15.ntmps, [(7, V.ptr [20] 0 0), (9, I x176), (10, I v171), (53, V.ref [7000, 118, 4] 0 (rws (fun n => [I n]) v170).length)])], [58]⟩) ?_ (fun HJ2302 => ?_)
        ·intro v173 h
         replace h : go_ring_List_j19 v170 v171 x172 v173 = some ohr2287 := h
         rw [go_ring_List_j19] at h
         refine SafeOps.nil ?_
         repeat first|apply sq|apply sk|with_reducible first|apply tn|apply bn
         refine Safe.region ?_
         refine Qf E_good ?_
         refine Qf E_good ?_
         refine SafeOps.nil ?_
         repeat first|apply sq|apply sk|with_reducible first|apply tn|apply bn
         refine Safe.ret ?_
         repeat (first | with_reducible refine thenQ.r ?_ | with_reducible refine blockQ.r ?_)
         refine inQ.gen (vs := [I x172]) (v := I x172) (.inr rfl) rfl (.tmp (v := I x172) rfl .nil) rfl ?_
         refine SafeOps.quiet1 E_good rfl rfl rfl (.litM (f := (fun n => [I n])) (xs := [x172]) rfl rfl (by decide) rfl rfl rfl rfl rfl) rfl ?_
         refine okG h (fun hb2303 h => ?_)
         refine SafeOps.appendM (fun n => [I n]) (xs := v170) (ys := [x172]) E_good rfl rfl rfl rfl rfl rfl rfl rfl rfl (.own rfl) (.own rfl) (fun _ => rfl) hb2303 ?_
         refine Qf E_good ?_
         refine SafeOps.nil ?_
         repeat first|apply sq|apply sk|with_reducible first|apply tn|apply bn
         refine Safe.region ?_
         refine Qf E_good ?_
         refine Q0 E_good rfl (v := I (IntKind.i64.wrap (v171 + 1))) (.fn rfl) ?_
         refine Qf E_good ?_
         refine SafeOps.nil ?_
         repeat first|apply sq|apply sk|with_reducible first|apply tn|apply bn
         exact ⟨_, next_out h, (.ren [60] [7000, 118, 4] (.cov ⟨rfl, rfl, (ut (ut (ut (ut upT_nil)))), (uo (uo upOb_nil)), upOut_nil, rfl⟩))⟩
        ·skip
         refine SafeOps.inline E_good rfl rfl rfl rfl rfl Try.func54 rfl (fun _ _ => Try.call54 _ _) rfl ?_
         repeat first|apply sq|apply sk|with_reducible first|apply tn|apply bn
         refine Safe.region ?_
         refine Qf E_good ?_
         refine SafeOps.nil ?_
         repeat first|apply sq|apply sk|with_reducible first|apply tn|apply bn
         refine Safe.region ?_
         refine Qf E_good ?_
         refine Q0 E_good rfl (v := V.bool (!(x179 == 0))) (.fn rfl) ?_
         refine SafeOps.nil ?_
         repeat first|apply sq|apply sk|with_reducible first|apply tn|apply bn
         refine ifG h (fun hc2304 h => ?_) (fun hc2304 h => ?_)
         ·skip
          refine Safe.condK rfl hc2304 ?_
          repeat first|apply sq|apply sk|with_reducible first|apply tn|apply bn
          refine Safe.region ?_
          refine Qf E_good ?_
          refine Q0 E_good rfl (v := V.ptr [20] 0 0) (.fn rfl) ?_
          refine Q0 E_good rfl (v := V.ptr [20] 0 10) (.fn rfl) ?_
          refine SafeOps.store (z := Obj.box [I 0, I 0, I 0, I 0, I 0, V.bool false, I 0, V.sl 1 (rws (fun n => [I n]) a174), I a175.Base, I a175.Cap, I 9]) E_good rfl rfl rfl rfl rfl rfl rfl (.boxM (c := 11) rfl rfl (Nat.le_of_ble_eq_true rfl) rfl) ?_
          refine SafeOps.nil ?_
          repeat first|apply sq|apply sk|with_reducible first|apply tn|apply bn
          refine Safe.region ?_
          refine Qf E_good ?_
          refine Qf E_good ?_
          refine SafeOps.nil ?_
          repeat first|apply sq|apply sk|with_reducible first|apply tn|apply bn
          refine Safe.ret ?_
          repeat (first | with_reducible refine thenQ.r ?_ | with_reducible refine blockQ.r ?_)
          refine inQ.gen (vs := [V.bool (x179 == 0)]) (v := V.bool (x179 == 0)) (.inr rfl) rfl (.tmp (v := V.bool (x179 == 0)) rfl .nil) rfl ?_
          exact SafeOps.got (HJ2302 (9) h) (.cov ⟨rfl, rfl, (ut upT_nil), (uo (uo upOb_nil)), (upOut_cons rfl (ut (ut (ut (ut upT_nil)))) upOut_nil), rfl⟩)
         ·skip
          refine Safe.condN rfl hc2304 ?_
          repeat first|apply sq|apply sk|with_reducible first|apply tn|apply bn
          refine Safe.region ?_
          refine Qf E_good ?_
          refine Qf E_good ?_
          refine SafeOps.nil ?_
          repeat first|apply sq|apply sk|with_reducible first|apply tn|apply bn
          refine Safe.ret ?_
          repeat (first | with_reducible refine thenQ.r ?_ | with_reducible refine blockQ.r ?_)
          refine inQ.gen (vs := [V.bool (x179 == 0)]) (v := V.bool (x179 == 0)) (.inr rfl) rfl (.tmp (v := V.bool (x179 == 0)) rfl .nil) rfl ?_
          exact SafeOps.got (HJ2302 (v177) h) (.cov ⟨rfl, rfl, (ut upT_nil), (uo (uo upOb_nil)), (upOut_cons rfl (ut (ut (ut (ut upT_nil)))) upOut_nil), rfl⟩)
       ·skip
        refine Safe.condN rfl hc2288 ?_
        repeat first|apply sq|apply sk|with_reducible first|apply tn|apply bn
        refine Safe.exit ?_
        repeat (first | with_reducible refine thenQ.e ?_ | with_reducible refine blockQ.x rfl ?_ | with_reducible refine blockQ.y rfl ?_)
        replace h := inr_out h hr2287
        repeat first|apply sq|apply sk|with_reducible first|apply tn|apply bn
        refine Safe.region ?_
        refine Qf E_good ?_
        refine Qf E_good ?_
        refine Qf E_good ?_
        refine SafeOps.nil ?_
        repeat first|apply sq|apply sk|with_reducible first|apply tn|apply bn
        refine Safe.ret ?_
        repeat (first | with_reducible refine thenQ.r ?_ | with_reducible refine blockQ.r ?_)
        obtain rfl := Option.some.inj h
        exact retQ.gen (vs := [V.ref [7000, 118, 4] 0 (rws (fun n => [I n]) v170).length, I 0]) rfl (.tmp rfl (.tmp rfl .nil)) (by exact (.tup (.cons (.own rfl rfl) (.cons (.free rfl) .nil)))) (by simp) (.inr rfl)
     ·skip
      refine SafeOps.inline E_good rfl rfl rfl rfl rfl Try.func54 rfl (fun _ _ => Try.call54 _ _) rfl ?_
      repeat first|apply sq|apply sk|with_reducible first|apply tn|apply bn
      refine Safe.region ?_
      refine Qf E_good ?_
      refine SafeOps.nil ?_
      repeat first|apply sq|apply sk|with_reducible first|apply tn|apply bn
      refine Safe.region ?_
      refine Qf E_good ?_
      refine Q0 E_good rfl (v := V.bool (!((decide (x176 ≥ 0)) && (decide (x176 ≤ 1099511627776))))) (.fn rfl) ?_
      refine SafeOps.nil ?_
      repeat first|apply sq|apply sk|with_reducible first|apply tn|apply bn
      refine ifG h (fun hc2305 h => ?_) (fun hc2305 h => ?_)
      ·skip
       refine Safe.condK rfl hc2305 ?_
       repeat first|apply sq|apply sk|with_reducible first|apply tn|apply bn
       refine Safe.region ?_
       refine Qf E_good ?_
       refine Q0 E_good rfl (v := V.ptr [20] 0 0) (.fn rfl) ?_
       refine Q0 E_good rfl (v := V.ptr [20] 0 10) (.fn rfl) ?_
       refine SafeOps.store (z := Obj.box [I 0, I 0, I 0, I 0, I 0, V.bool false, I 0, V.sl 1 (rws (fun n => [I n]) a174), I a175.Base, I a175.Cap, I 9]) E_good rfl rfl rfl rfl rfl rfl rfl (.boxM (c := 11) rfl rfl (Nat.le_of_ble_eq_true rfl) rfl) ?_
       refine SafeOps.nil ?_
       repeat first|apply sq|apply sk|with_reducible first|apply tn|apply bn
       refine Safe.region ?_
       refine Qf E_good ?_
       refine Qf E_good ?_
       refine SafeOps.nil ?_
       repeat first|apply sq|apply sk|with_reducible first|apply tn|apply bn
       refine Safe.ret ?_
       repeat (first | with_reducible refine thenQ.r ?_ | with_reducible refine blockQ.r ?_)
       refine inQ.gen (vs := [V.bool ((decide (x176 ≥ 0)) && (decide (x176 ≤ 1099511627776)))]) (v := V.bool ((decide (x176 ≥ 0)) && (decide (x176 ≤ 1099511627776)))) (.inr rfl) rfl (.tmp (v := V.bool ((decide (x176 ≥ 0)) && (decide (x176 ≤ 1099511627776)))) rfl .nil) rfl ?_
       exact SafeOps.got (HJ2245 (9) h) (.cov ⟨rfl, rfl, (ut upT_nil), (uo (uo upOb_nil)), (upOut_cons rfl (ut (ut (ut (ut upT_nil)))) upOut_nil), rfl⟩)
      ·skip
       refine Safe.condN rfl hc2305 ?_
       repeat first|apply sq|apply sk|with_reducible first|apply tn|apply bn
       refine Safe.region ?_
       refine Qf E_good ?_
       refine Qf E_good ?_
       refine SafeOps.nil ?_
       repeat first|apply sq|apply sk|with_reducible first|apply tn|apply bn
       refine Safe.ret ?_
       repeat (first | with_reducible refine thenQ.r ?_ | with_reducible refine blockQ.r ?_)
       refine inQ.gen (vs := [V.bool ((decide (x176 ≥ 0)) && (decide (x176 ≤ 1099511627776)))]) (v := V.bool ((decide (x176 ≥ 0)) && (decide (x176 ≤ 1099511627776)))) (.inr rfl) rfl (.tmp (v := V.bool ((decide (x176 ≥ 0)) && (decide (x176 ≤ 1099511627776)))) rfl .nil) rfl ?_
       exact SafeOps.got (HJ2245 (v182) h) (.cov ⟨rfl, rfl, (ut upT_nil), (uo (uo upOb_nil)), (upOut_cons rfl (ut (ut (ut (ut upT_nil)))) upOut_nil), rfl⟩)
    ·skip
     refine SafeOps.inline E_good rfl rfl rfl rfl rfl Try.func54 rfl (fun _ _ => Try.call54 _ _) rfl ?_
     repeat first|apply sq|apply sk|with_reducible first|apply tn|apply bn
     refine Safe.region ?_
     refine Qf E_good ?_
     refine SafeOps.nil ?_
     repeat first|apply sq|apply sk|with_reducible first|apply tn|apply bn
     refine Safe.region ?_
     refine Qf E_good ?_
     refine Q0 E_good rfl (v := V.bool (!(x184 == 0))) (.fn rfl) ?_
     refine SafeOps.nil ?_
     repeat first|apply sq|apply sk|with_reducible first|apply tn|apply bn
     refine ifG h (fun hc2306 h => ?_) (fun hc2306 h => ?_)
     ·skip
      refine Safe.condK rfl hc2306 ?_
      repeat first|apply sq|apply sk|with_reducible first|apply tn|apply bn
      refine Safe.region ?_
      refine Qf E_good ?_
      refine Q0 E_good rfl (v := V.ptr [20] 0 0) (.fn rfl) ?_
      refine Q0 E_good rfl (v := V.ptr [20] 0 10) (.fn rfl) ?_
      refine SafeOps.store (z := Obj.box [I 0, I 0, I 0, I 0, I 0, V.bool false, I 0, V.sl 1 (rws (fun n => [I n]) a174), I a175.Base, I a175.Cap, I 9]) E_good rfl rfl rfl rfl rfl rfl rfl (.boxM (c := 11) rfl rfl (Nat.le_of_ble_eq_true rfl) rfl) ?_
      refine SafeOps.nil ?_
      repeat first|apply sq|apply sk|with_reducible first|apply tn|apply bn
      refine Safe.region ?_
      refine Qf E_good ?_
      refine Qf E_good ?_
      refine SafeOps.nil ?_
      repeat first|apply sq|apply sk|with_reducible first|apply tn|apply bn
      refine Safe.ret ?_
      repeat (first | with_reducible refine thenQ.r ?_ | with_reducible refine blockQ.r ?_)
      refine inQ.gen (vs := [V.bool (x184 == 0)]) (v := V.bool (x184 == 0)) (.inr rfl) rfl (.tmp (v := V.bool (x184 == 0)) rfl .nil) rfl ?_
      exact SafeOps.got (HJ2241 (9) h) (.cov ⟨rfl, rfl, (ut upT_nil), (uo (uo upOb_nil)), (upOut_cons rfl (ut (ut upT_nil)) (upOut_cons rfl (ut (ut (ut (ut upT_nil)))) upOut_nil)), rfl⟩)
     ·skip
      refine Safe.condN rfl hc2306 ?_
      repeat first|apply sq|apply sk|with_reducible first|apply tn|apply bn
      refine Safe.region ?_
      refine Qf E_good ?_
      refine Qf E_good ?_
      refine SafeOps.nil ?_
      repeat first|apply sq|apply sk|with_reducible first|apply tn|apply bn
      refine Safe.ret ?_
      repeat (first | with_reducible refine thenQ.r ?_ | with_reducible refine blockQ.r ?_)
      refine inQ.gen (vs := [V.bool (x184 == 0)]) (v := V.bool (x184 == 0)) (.inr rfl) rfl (.tmp (v := V.bool (x184 == 0)) rfl .nil) rfl ?_
      exact SafeOps.got (HJ2241 (v183) h) (.cov ⟨rfl, rfl, (ut upT_nil), (uo (uo upOb_nil)), (upOut_cons rfl (ut (ut upT_nil)) (upOut_cons rfl (ut (ut (ut (ut upT_nil)))) upOut_nil)), rfl⟩)
   ·skip
    refine SafeOps.inline E_good rfl rfl rfl rfl rfl Try.func54 rfl (fun _ _ => Try.call54 _ _) rfl ?_
    repeat first|apply sq|apply sk|with_reducible first|apply tn|apply bn
    refine Safe.region ?_
    refine Qf E_good ?_
    refine SafeOps.nil ?_
    repeat first|apply sq|apply sk|with_reducible first|apply tn|apply bn
    refine Safe.region ?_
    refine Qf E_good ?_
    refine Q0 E_good rfl (v := V.bool (!((decide (x180 ≥ 0)) && (decide (x180 ≤ 1099511627776))))) (.fn rfl) ?_
    refine SafeOps.nil ?_
    repeat first|apply sq|apply sk|with_reducible first|apply tn|apply bn
    refine ifG h (fun hc2307 h => ?_) (fun hc2307 h => ?_)
    ·skip
     refine Safe.condK rfl hc2307 ?_
     repeat first|apply sq|apply sk|with_reducible first|apply tn|apply bn
     refine Safe.region ?_
     refine Qf E_good ?_
     refine Q0 E_good rfl (v := V.ptr [20] 0 0) (.fn rfl) ?_
     refine Q0 E_good rfl (v := V.ptr [20] 0 10) (.fn rfl) ?_
     refine SafeOps.store (z := Obj.box [I 0, I 0, I 0, I 0, I 0, V.bool false, I 0, V.sl 1 (rws (fun n => [I n]) a174), I a175.Base, I a175.Cap, I 9]) E_good rfl rfl rfl rfl rfl rfl rfl (.boxM (c := 11) rfl rfl (Nat.le_of_ble_eq_true rfl) rfl) ?_
     refine SafeOps.nil ?_
     repeat first|apply sq|apply sk|with_reducible first|apply tn|apply bn
     refine Safe.region ?_
     refine Qf E_good ?_
     refine Qf E_good ?_
     refine SafeOps.nil ?_
     repeat first|apply sq|apply sk|with_reducible first|apply tn|apply bn
     refine Safe.ret ?_
     repeat (first | with_reducible refine thenQ.r ?_ | with_reducible refine blockQ.r ?_)
     refine inQ.gen (vs := [V.bool ((decide (x180 ≥ 0)) && (decide (x180 ≤ 1099511627776)))]) (v := V.bool ((decide (x180 ≥ 0)) && (decide (x180 ≤ 1099511627776)))) (.inr rfl) rfl (.tmp (v := V.bool ((decide (x180 ≥ 0)) && (decide (x180 ≤ 1099511627776)))) rfl .nil) rfl ?_
     exact SafeOps.got (HJ2213 (9) h) (.cov ⟨rfl, rfl, (ut upT_nil), (uo (uo upOb_nil)), (upOut_cons rfl (ut (ut (ut upT_nil))) upOut_nil), rfl⟩)
    ·skip
     refine Safe.condN rfl hc2307 ?_
     repeat first|apply sq|apply sk|with_reducible first|apply tn|apply bn
     refine Safe.region ?_
     refine Qf E_good ?_
     refine Qf E_good ?_
     refine SafeOps.nil ?_
     repeat first|apply sq|apply sk|with_reducible first|apply tn|apply bn
     refine Safe.ret ?_
     repeat (first | with_reducible refine thenQ.r ?_ | with_reducible refine blockQ.r ?_)
     refine inQ.gen (vs := [V.bool ((decide (x180 ≥ 0)) && (decide (x180 ≤ 1099511627776)))]) (v := V.bool ((decide (x180 ≥ 0)) && (decide (x180 ≤ 1099511627776)))) (.inr rfl) rfl (.tmp (v := V.bool ((decide (x180 ≥ 0)) && (decide (x180 ≤ 1099511627776)))) rfl .nil) rfl ?_
     exact SafeOps.got (HJ2213 (v185) h) (.cov ⟨rfl, rfl, (ut upT_nil), (uo (uo upOb_nil)), (upOut_cons rfl (ut (ut (ut upT_nil))) upOut_nil), rfl⟩)
  ·skip
   refine SafeOps.inline E_good rfl rfl rfl rfl rfl Try.func54 rfl (fun _ _ => Try.call54 _ _) rfl ?_
   repeat first|apply sq|apply sk|with_reducible first|apply tn|apply bn
   refine Safe.region ?_
   refine Qf E_good ?_
   refine SafeOps.nil ?_
   repeat first|apply sq|apply sk|with_reducible first|apply tn|apply bn
   refine Safe.region ?_
   refine Qf E_good ?_
   refine Q0 E_good rfl (v := V.bool (!(x186 == 0))) (.fn rfl) ?_
   refine SafeOps.nil ?_
   repeat first|apply sq|apply sk|with_reducible first|apply tn|apply bn
   refine ifG h (fun hc2308 h => ?_) (fun hc2308 h => ?_)
   ·skip
    refine Safe.condK rfl hc2308 ?_
    repeat first|apply sq|apply sk|with_reducible first|apply tn|apply bn
    refine Safe.region ?_
    refine Qf E_good ?_
    refine Q0 E_good rfl (v := V.ptr [20] 0 0) (.fn rfl) ?_
    refine Q0 E_good rfl (v := V.ptr [20] 0 10) (.fn rfl) ?_
    refine SafeOps.store (z := Obj.box [I 0, I 0, I 0, I 0, I 0, V.bool false, I 0, V.sl 1 (rws (fun n => [I n]) a174), I a175.Base, I a175.Cap, I 9]) E_good rfl rfl rfl rfl rfl rfl rfl (.boxM (c := 11) rfl rfl (Nat.le_of_ble_eq_true rfl) rfl) ?_
    refine SafeOps.nil ?_
    repeat first|apply sq|apply sk|with_reducible first|apply tn|apply bn
    refine Safe.region ?_
    refine Qf E_good ?_
    refine Qf E_good ?_
    refine SafeOps.nil ?_
    repeat first|apply sq|apply sk|with_reducible first|apply tn|apply bn
    refine Safe.ret ?_
    repeat (first | with_reducible refine thenQ.r ?_ | with_reducible refine blockQ.r ?_)
    refine inQ.gen (vs := [V.bool (x186 == 0)]) (v := V.bool (x186 == 0)) (.inr rfl) rfl (.tmp (v := V.bool (x186 == 0)) rfl .nil) rfl ?_
    exact SafeOps.got (HJ2209 (9) h) (.cov ⟨rfl, rfl, (ut upT_nil), (uo (uo upOb_nil)), (upOut_cons rfl (ut (ut upT_nil)) (upOut_cons rfl (ut (ut (ut upT_nil))) upOut_nil)), rfl⟩)
   ·skip
    refine Safe.condN rfl hc2308 ?_
    repeat first|apply sq|apply sk|with_reducible first|apply tn|apply bn
    refine Safe.region ?_
    refine Qf E_good ?_
    refine Qf E_good ?_
    refine SafeOps.nil ?_
    repeat first|apply sq|apply sk|with_reducible first|apply tn|apply bn
    refine Safe.ret ?_
    repeat (first | with_reducible refine thenQ.r ?_ | with_reducible refine blockQ.r ?_)
    refine inQ.gen (vs := [V.bool (x186 == 0)]) (v := V.bool (x186 == 0)) (.inr rfl) rfl (.tmp (v := V.bool (x186 == 0)) rfl .nil) rfl ?_
    exact SafeOps.got (HJ2209 (0) h) (.cov ⟨rfl, rfl, (ut upT_nil), (uo (uo upOb_nil)), (upOut_cons rfl (ut (ut upT_nil)) (upOut_cons rfl (ut (ut (ut upT_nil))) upOut_nil)), rfl⟩)

def go_ravelref01_Check (a187 : List Int) : Int :=
 if (decide ((a187.length : Int) > 65536)) = true then
  1
 else
  0

def go_ravelref07_Check (a188 : List Int) (a189 : api_Deque) : Int :=
 if (((((((go_ravelref01_Check a188) != 0) || (decide (a189.Cap < 1))) || (decide (a189.Cap > 1024))) || (decide (a189.Base < 0))) || (decide (a189.Base > (a188.length : Int)))) || (decide ((IntKind.i64.wrap ((a188.length : Int) - a189.Base)) < (IntKind.i64.wrap (a189.Cap + 2))))) = true then
  1
 else
  0

def go_ravelref07_count (a190 : Int) (a191 : Int) : Bool :=
 ((decide (a190 ≥ a191)) && (decide (a190 ≤ 1099511627776)))

noncomputable def go_ravelref07_slot (a192 : api_Deque) (a193 : Int) : Option Int :=
 if a192.Cap ≠ 0 then
  some (IntKind.i64.wrap ((IntKind.i64.wrap (a192.Base + 2)) + (Int.tmod a193 a192.Cap)))
 else none

noncomputable def go_ravelref07_List_s1 (a194 : List Int) (a195 : api_Deque) : ((List Int) × Int) → Option (((List Int) × Int) ⊕ ((List Int) × Int))
 | (v196, v197) =>
  if (decide (v197 < (gt a194 (IntKind.i64.wrap (a195.Base + 1))))) = true then
   (go_ravelref07_slot a195 v197).bind fun x198 =>
   if 0 ≤ x198 ∧ x198 < (a194.length : Int) then
    if few (v196 ++ [(gt a194 x198)]).length then
     nextO (v196 ++ [(gt a194 x198)], IntKind.i64.wrap (v197 + 1))
    else none
   else none
  else
   inrO (
    some (v196, 0))

noncomputable def go_ravelref07_List (a194 : List Int) (a195 : api_Deque) : Option ((List Int) × Int) :=
 if ((go_ravelref07_Check a194 a195) != 0) = true then
  some ([], 1)
 else
  if 0 ≤ a195.Base ∧ a195.Base < (a194.length : Int) then
   if 0 ≤ (IntKind.i64.wrap (a195.Base + 1)) ∧ (IntKind.i64.wrap (a195.Base + 1)) < (a194.length : Int) then
    if ((((!(go_ravelref07_count (gt a194 a195.Base) 0)) || (!(go_ravelref07_count (gt a194 (IntKind.i64.wrap (a195.Base + 1))) 0))) || (decide ((gt a194 (IntKind.i64.wrap (a195.Base + 1))) < (gt a194 a195.Base)))) || (decide ((IntKind.i64.wrap ((gt a194 (IntKind.i64.wrap (a195.Base + 1))) - (gt a194 a195.Base))) > a195.Cap))) = true then
     some ([], 9)
    else
     whileO (go_ravelref07_List_s1 a194 a195) ([], (gt a194 a195.Base))
   else none
  else none

def go_ravelref07_pcs (a210 : Int) : Int :=
 if ((a210 == 1) || (a210 == 3)) = true then
  4
 else
  if (a210 == 2) = true then
   7
  else
   0

def go_ravelref07_May (a211 : api_Hand) : Bool :=
 if (decide (a211.Pc ≥ 0)) = true then
  if (decide (a211.Pc < (go_ravelref07_pcs a211.Kind))) = true then
   if (go_ravelref07_count a211.T (-1)) = true then
    if (go_ravelref07_count a211.B (-1)) = true then
     if (decide (a211.State ≥ 0)) = true then
      decide (a211.State ≤ 4)
     else
      false
    else
     false
   else
    false
  else
   false
 else
  false

def go_ravelref07_at (a212 : api_Hand) (a213 : Int) : api_Hand :=
 (api_Hand.mk a212.Kind a213 a212.V a212.T a212.B a212.Won a212.State)

def go_ravelref07_ended (a214 : api_Hand) (a215 : Int) : api_Hand :=
 (api_Hand.mk a214.Kind a214.Pc a214.V a214.T a214.B a214.Won a215)

noncomputable def go_ravelref01_With (a216 : List Int) (a217 : Int) (a218 : Int) : Option (List Int) :=
 if few ([] ++ a216).length then
  if 0 ≤ a217 ∧ a217 < (([] ++ a216).length : Int) then
   some (st ([] ++ a216) a217 a218)
  else none
 else none

noncomputable def go_ravelref07_push (a219 : List Int) (a220 : api_Deque) (a221 : api_Hand) : Option ((List Int) × api_Hand × Bool) :=
 if (a221.Pc == 0) = true then
  if 0 ≤ a220.Base ∧ a220.Base < (a219.length : Int) then
   letO (go_ravelref07_at (api_Hand.mk a221.Kind a221.Pc a221.V (gt a219 a220.Base) a221.B a221.Won a221.State) 1) fun x222 =>
   some (a219, x222, go_ravelref07_count (gt a219 a220.Base) 0)
  else none
 else
  if (a221.Pc == 1) = true then
   if 0 ≤ (IntKind.i64.wrap (a220.Base + 1)) ∧ (IntKind.i64.wrap (a220.Base + 1)) < (a219.length : Int) then
    if (decide ((IntKind.i64.wrap ((gt a219 (IntKind.i64.wrap (a220.Base + 1))) - a221.T)) ≥ a220.Cap)) = true then
     letO (go_ravelref07_ended (api_Hand.mk a221.Kind a221.Pc a221.V a221.T (gt a219 (IntKind.i64.wrap (a220.Base + 1))) a221.Won a221.State) 3) fun x223 =>
     some (a219, x223, go_ravelref07_count (gt a219 (IntKind.i64.wrap (a220.Base + 1))) 0)
    else
     letO (go_ravelref07_at (api_Hand.mk a221.Kind a221.Pc a221.V a221.T (gt a219 (IntKind.i64.wrap (a220.Base + 1))) a221.Won a221.State) 2) fun x224 =>
     some (a219, x224, go_ravelref07_count (gt a219 (IntKind.i64.wrap (a220.Base + 1))) 0)
   else none
  else
   if (decide (a221.B < 0)) = true then
    some ([], a221, false)
   else
    if (a221.Pc == 2) = true then
     (go_ravelref07_slot a220 a221.B).bind fun x225 =>
     (go_ravelref01_With a219 x225 a221.V).bind fun x226 =>
     letO (go_ravelref07_at a221 3) fun x227 =>
     some (x226, x227, true)
    else
     (go_ravelref01_With a219 (IntKind.i64.wrap (a220.Base + 1)) (IntKind.i64.wrap (a221.B + 1))).bind fun x228 =>
     letO (go_ravelref07_ended a221 1) fun x229 =>
     some (x228, x229, true)

end Go.Proofs.Ytoapmmcoaggekaa
