/- Helper lemmas for the claim's theorem: an abstract machine over the model, proved sound; no condition beyond each lemma's own. -/
import Derived.Test.YtoapmmcoaggekaaT0
set_option linter.unusedVariables false
set_option linter.unusedSimpArgs false
set_option linter.unnecessarySimpa false
set_option linter.unusedSectionVars false
namespace Go.Proofs.Ytoapmmcoaggekaa
open Go Go.AM
set_option maxRecDepth 100000
set_option maxHeartbeats 1000000
set_option linter.unusedVariables false
set_option linter.unusedSimpArgs false
variable {gl : List (Nat × List V)}
theorem go_ring_Step_sc (a0_62 : List Int) (a1_63 : api_Deque) (a2_64 : api_Hand) (r : (List Int) × api_Hand × Int) (h : go_ring_Step a0_62 a1_63 a2_64 = some r) : SC Try.prog gl 8 [V.sl 1 (rws (fun n => [V.int .i64 n]) a0_62), V.agg [V.int .i64 a1_63.Base, V.int .i64 a1_63.Cap], V.agg [V.int .i64 a2_64.Kind, V.int .i64 a2_64.Pc, V.int .i64 a2_64.V, V.int .i64 a2_64.T, V.int .i64 a2_64.B, V.bool a2_64.Won, V.int .i64 a2_64.State]] (V.tup [V.own 1 (rws (fun n => [V.int .i64 n]) r.1), V.agg [V.int .i64 r.2.1.Kind, V.int .i64 r.2.1.Pc, V.int .i64 r.2.1.V, V.int .i64 r.2.1.T, V.int .i64 r.2.1.B, V.bool r.2.1.Won, V.int .i64 r.2.1.State], V.int .i64 r.2.2]) := by
 rw [go_ring_Step] at h
 refine SC.of E_good Try.func8 rfl (fun _ _ => Try.call8 _ _) rfl ?_
 repeat (first | refine sq ?_ | refine sk ?_ | with_reducible first | refine tn ?_ | refine bn ?_)
 refine Safe.region ?_
 refine SafeOps.quiet1 E_good rfl rfl rfl (.box rfl rfl) rfl ?_
 refine SafeOps.quiet1 E_good rfl rfl rfl (.box rfl rfl) rfl ?_
 refine Qf E_good ?_
 refine SafeOps.quiet1 E_good rfl rfl rfl (.alloc rfl rfl) rfl ?_
 refine Qf E_good ?_
 refine SafeOps.nil ?_
 repeat (first | refine sq ?_ | refine sk ?_ | with_reducible first | refine tn ?_ | refine bn ?_)
 refine Safe.block ?_
 repeat (first | refine sq ?_ | refine sk ?_ | with_reducible first | refine tn ?_ | refine bn ?_)
 refine Safe.region ?_
 refine Qf E_good ?_
 refine Q0 E_good rfl (v := V.agg [V.int .i64 a1_63.Base, V.int .i64 a1_63.Cap]) (.load rfl rfl (.box rfl rfl) rfl) ?_
 refine Q0 E_good rfl (v := V.int .i64 (go_ring_Check a0_62 a1_63)) (.callP rfl rfl (go_ring_Check_sc a0_62 a1_63 _ rfl) rfl) ?_
 refine Q0 E_good rfl (v := V.bool ((go_ring_Check a0_62 a1_63) != 0)) (.fn rfl) ?_
 refine Qf E_good ?_
 refine SafeOps.bjoin 4 19 (b := (((go_ring_Check a0_62 a1_63) != 0) || (!(go_ring_may a2_64)))) (b1 := true) (b0 := (!(go_ring_may a2_64))) (fun hc747 K => ?_) (fun hc747 K => ?_) bj_or ?_
 ·skip
  refine SafeOps.skip (congrArg (fun b => some (!b)) hc747) rfl rfl ?_
  refine SafeOps.skip (congrArg (fun b => some (!b)) hc747) rfl rfl ?_
  refine SafeOps.skip (congrArg (fun b => some (!b)) hc747) rfl rfl ?_
  refine Q0 E_good rfl (v := V.bool true) (.pickK rfl hc747 rfl) ?_
  exact SafeOps.drop' 4 rfl rfl rfl K
 ·skip
  refine SafeOps.quiet0 E_good (congrArg (fun b => some (!b)) hc747) rfl rfl (v := V.agg [V.int .i64 a2_64.Kind, V.int .i64 a2_64.Pc, V.int .i64 a2_64.V, V.int .i64 a2_64.T, V.int .i64 a2_64.B, V.bool a2_64.Won, V.int .i64 a2_64.State]) (.load rfl rfl (.box rfl rfl) rfl) ?_
  refine SafeOps.quiet0 E_good (congrArg (fun b => some (!b)) hc747) rfl rfl (v := V.bool (go_ring_may a2_64)) (.callP rfl rfl (go_ring_may_sc a2_64 _ rfl) rfl) ?_
  refine SafeOps.quiet0 E_good (congrArg (fun b => some (!b)) hc747) rfl rfl (v := V.bool (!(go_ring_may a2_64))) (.fn rfl) ?_
  refine Q0 E_good rfl (v := V.bool (!(go_ring_may a2_64))) (.pickK rfl hc747 rfl) ?_
  exact SafeOps.drop' 4 rfl rfl rfl K
 refine Qf E_good ?_
 refine SafeOps.nil ?_
 repeat (first | refine sq ?_ | refine sk ?_ | with_reducible first | refine tn ?_ | refine bn ?_)
 refine ifG h (fun hc748 h => ?_) (fun hc748 h => ?_)
 ·skip
  refine Safe.condK rfl hc748 ?_
  repeat (first | refine sq ?_ | refine sk ?_ | with_reducible first | refine tn ?_ | refine bn ?_)
  refine Safe.region ?_
  refine Q0 E_good rfl (v := V.agg [V.int .i64 0, V.int .i64 0, V.int .i64 0, V.int .i64 0, V.int .i64 0, V.bool false, V.int .i64 0]) (.fn rfl) ?_
  refine Qf E_good ?_
  refine SafeOps.store (z := Obj.box [V.int .i64 0, V.int .i64 0, V.int .i64 0, V.int .i64 0, V.int .i64 0, V.bool false, V.int .i64 0]) E_good rfl rfl rfl rfl rfl rfl rfl (.boxM (c := 7) rfl rfl (Nat.le_of_ble_eq_true rfl) rfl) ?_
  refine Qf E_good ?_
  refine SafeOps.nil ?_
  repeat (first | refine sq ?_ | refine sk ?_ | with_reducible first | refine tn ?_ | refine bn ?_)
  refine Safe.ret ?_
  repeat (first | with_reducible refine thenQ.r ?_ | with_reducible refine blockQ.r ?_)
  obtain rfl := Option.some.inj h
  exact retQ.gen (vs := [V.nils, V.agg [V.int .i64 0, V.int .i64 0, V.int .i64 0, V.int .i64 0, V.int .i64 0, V.bool false, V.int .i64 0], V.int .i64 1]) rfl (.tmp (v := V.nils) rfl (.cell (v := V.agg [V.int .i64 0, V.int .i64 0, V.int .i64 0, V.int .i64 0, V.int .i64 0, V.bool false, V.int .i64 0]) rfl rfl (.box rfl rfl) rfl (.tmp (v := V.int .i64 1) rfl .nil))) (by exact (.tup (.cons (.nils _) (.cons (.free rfl) (.cons (.free rfl) .nil))))) (by simp) (.inr rfl)
 ·skip
  refine Safe.condN rfl hc748 ?_
  repeat (first | refine sq ?_ | refine sk ?_ | with_reducible first | refine tn ?_ | refine bn ?_)
  refine Safe.region ?_
  refine Q0 E_good rfl (v := V.ptr [5] 0 6) (.fn rfl) ?_
  refine Q0 E_good rfl (v := V.int .i64 a2_64.State) (.load rfl rfl (.box rfl rfl) rfl) ?_
  refine Q0 E_good rfl (v := V.bool (a2_64.State != 0)) (.fn rfl) ?_
  refine Qf E_good ?_
  refine SafeOps.nil ?_
  repeat (first | refine sq ?_ | refine sk ?_ | with_reducible first | refine tn ?_ | refine bn ?_)
  refine ifG h (fun hc749 h => ?_) (fun hc749 h => ?_)
  ·skip
   refine Safe.condK rfl hc749 ?_
   repeat (first | refine sq ?_ | refine sk ?_ | with_reducible first | refine tn ?_ | refine bn ?_)
   refine Safe.region ?_
   refine Q0 E_good rfl (v := V.agg [V.int .i64 0, V.int .i64 0, V.int .i64 0, V.int .i64 0, V.int .i64 0, V.bool false, V.int .i64 0]) (.fn rfl) ?_
   refine Qf E_good ?_
   refine SafeOps.store (z := Obj.box [V.int .i64 0, V.int .i64 0, V.int .i64 0, V.int .i64 0, V.int .i64 0, V.bool false, V.int .i64 0]) E_good rfl rfl rfl rfl rfl rfl rfl (.boxM (c := 7) rfl rfl (Nat.le_of_ble_eq_true rfl) rfl) ?_
   refine Qf E_good ?_
   refine SafeOps.nil ?_
   repeat (first | refine sq ?_ | refine sk ?_ | with_reducible first | refine tn ?_ | refine bn ?_)
   refine Safe.ret ?_
   repeat (first | with_reducible refine thenQ.r ?_ | with_reducible refine blockQ.r ?_)
   obtain rfl := Option.some.inj h
   exact retQ.gen (vs := [V.nils, V.agg [V.int .i64 0, V.int .i64 0, V.int .i64 0, V.int .i64 0, V.int .i64 0, V.bool false, V.int .i64 0], V.int .i64 9]) rfl (.tmp (v := V.nils) rfl (.cell (v := V.agg [V.int .i64 0, V.int .i64 0, V.int .i64 0, V.int .i64 0, V.int .i64 0, V.bool false, V.int .i64 0]) rfl rfl (.box rfl rfl) rfl (.tmp (v := V.int .i64 9) rfl .nil))) (by exact (.tup (.cons (.nils _) (.cons (.free rfl) (.cons (.free rfl) .nil))))) (by simp) (.inr rfl)
  ·skip
   refine Safe.condN rfl hc749 ?_
   repeat (first | refine sq ?_ | refine sk ?_ | with_reducible first | refine tn ?_ | refine bn ?_)
   refine Safe.regionD (n := 7) [] [] E_good mixed rfl ?_
   refine DT 0 [] rfl rfl (v := V.agg [V.int .i64 a2_64.Kind, V.int .i64 a2_64.Pc, V.int .i64 a2_64.V, V.int .i64 a2_64.T, V.int .i64 a2_64.B, V.bool a2_64.Won, V.int .i64 a2_64.State]) (fun _ hz => (.load rfl rfl (.box (hz _ _ rfl rfl) rfl) rfl)) ?_
   refine DT 1 [] rfl rfl (fun _ hz => (.fn rfl)) ?_
   refine DT 3 [] rfl rfl (v := V.agg [V.int .i64 a1_63.Base, V.int .i64 a1_63.Cap]) (fun _ hz => (.load rfl rfl (.box (hz _ _ rfl rfl) rfl) rfl)) ?_
   refine okG h (fun hb750 h => ?_)
   refine DAny.only (i := 2) rfl (by kernel_rfl) (.appendM (fun n => [V.int .i64 n]) (xs := []) (ys := a0_62) rfl rfl rfl rfl rfl rfl rfl rfl rfl .nils (.sl _) (fun _ => rfl) hb750 rfl ?_)
   refine DT 4 [] rfl rfl (v := V.agg [V.int .i64 a2_64.Kind, V.int .i64 a2_64.Pc, V.int .i64 a2_64.V, V.int .i64 a2_64.T, V.int .i64 a2_64.B, V.bool a2_64.Won, V.int .i64 a2_64.State, V.ref [28] 0 (rws (fun n => [V.int .i64 n]) ([] ++ a0_62)).length, V.int .i64 a1_63.Base, V.int .i64 a1_63.Cap, V.int .i64 0]) (fun _ hz => (.fn rfl)) ?_
   refine DAny.only (i := 5) rfl (by kernel_rfl) (.quiet rfl rfl rfl (.box rfl rfl) rfl ?_)
   refine DT 6 [] rfl rfl (fun _ hz => (.fn rfl)) ?_
   refine DAny.nil (by kernel_rfl) ?_
   repeat (first | refine sq ?_ | refine sk ?_ | with_reducible first | refine tn ?_ | refine bn ?_)
   refine Safe.regionD (n := 9) [] [8] E_good mixed rfl ?_
   refine DT 0 [] rfl rfl (v := V.ptr [5] 0 0) (fun _ hz => (.fn rfl)) ?_
   refine DT 1 [] rfl rfl (v := V.int .i64 a2_64.Kind) (fun _ hz => (.load rfl rfl (.box (hz _ _ rfl rfl) rfl) rfl)) ?_
   refine letG h ?_
   intro x_751 he752 h
   refine DT 2 [] rfl rfl (v := V.sl 1 (rws (fun f : Nat => [V.fn f []]) x_751)) (fun _ hz => (.callP rfl rfl (go_ring_accesses_sc a2_64.Kind _ he752) rfl)) ?_
   refine DT 3 [] rfl rfl (v := V.ptr [5] 0 1) (fun _ hz => (.fn rfl)) ?_
   refine DT 4 [] rfl rfl (v := V.int .i64 a2_64.Pc) (fun _ hz => (.load rfl rfl (.box (hz _ _ rfl rfl) rfl) rfl)) ?_
   refine okG h (fun hb753 h => ?_)
   refine DT 5 [] rfl rfl (v := V.spt 1 (rws (fun f : Nat => [V.fn f []]) x_751) (Int.toNat a2_64.Pc) 0) (fun _ hz => (.idxSlM (f := (fun f : Nat => [V.fn f []])) rfl rfl rfl rfl rfl hb753)) ?_
   refine DT 6 [] rfl rfl (v := V.fn (gt x_751 a2_64.Pc) []) (fun _ hz => (.load rfl rfl (.sptM (f := (fun f : Nat => [V.fn f []])) hb753 rfl) rfl)) ?_
   refine DT 7 [] rfl rfl (fun _ hz => (.fn rfl)) ?_
   refine DAny.onlyS (i := 8) rfl (by kernel_rfl) rfl ?_
   refine SafeOps.joinT 1 (fun ((v311_1238, v312_1239, v313_1240, v314_1241, v315_1242, v316_1243, v317_1244, v3110_1245) : Int × Int × Int × Int × Bool × Int × (List Int) × Int) => go_ring_Step_j81 a2_64 v311_1238 v312_1239 v313_1240 v314_1241 v315_1242 v316_1243 v317_1244 v3110_1245 = some r) (fun ((v311_1238, v312_1239, v313_1240, v314_1241, v315_1242, v316_1243, v317_1244, v3110_1245) : Int × Int × Int × Int × Bool × Int × (List Int) × Int) => ⟨Try.f8.ntmps, [(7, V.ptr [7] 0 0), (9, V.ptr [31] 0 0)], [([7], Obj.box [V.int .i64 0, V.int .i64 0, V.int .i64 0, V.int .i64 0, V.int .i64 0, V.bool false, V.int .i64 0]), ([31], Obj.box [V.int .i64 a2_64.Kind, V.int .i64 v311_1238, V.int .i64 v312_1239, V.int .i64 v313_1240, V.int .i64 v314_1241, V.bool v315_1242, V.int .i64 v316_1243, V.ref [7000, 114, 31, 7] 0 (rws (fun n => [V.int .i64 n]) v317_1244).length, V.int .i64 a1_63.Base, V.int .i64 a1_63.Cap, V.int .i64 v3110_1245]), ([7000, 114, 31, 7], Obj.rows 1 (rws (fun n => [V.int .i64 n]) v317_1244) false)], [], []⟩) ?_ (fun HJ1246 => ?_)
   ·rintro ⟨v311_1238, v312_1239, v313_1240, v314_1241, v315_1242, v316_1243, v317_1244, v3110_1245⟩ h
    replace h : go_ring_Step_j81 a2_64 v311_1238 v312_1239 v313_1240 v314_1241 v315_1242 v316_1243 v317_1244 v3110_1245 = some r := h
    rw [go_ring_Step_j81] at h
    refine SafeOps.nil ⟨rfl, ?_⟩
    refine DAny.nil (by kernel_rfl) ?_
    repeat (first | refine sq ?_ | refine sk ?_ | with_reducible first | refine tn ?_ | refine bn ?_)
    refine Safe.region ?_
    refine Qf E_good ?_
    refine Q0 E_good rfl (v := V.ptr [31] 0 0) (.fn rfl) ?_
    refine Q0 E_good rfl (v := V.ptr [31] 0 10) (.fn rfl) ?_
    refine Q0 E_good rfl (v := V.int .i64 v3110_1245) (.load rfl rfl (.box rfl rfl) rfl) ?_
    refine Q0 E_good rfl (v := V.bool (v3110_1245 != 0)) (.fn rfl) ?_
    refine SafeOps.nil ?_
    repeat (first | refine sq ?_ | refine sk ?_ | with_reducible first | refine tn ?_ | refine bn ?_)
    refine ifG h (fun hc1247 h => ?_) (fun hc1247 h => ?_)
    ·skip
     refine Safe.condK rfl hc1247 ?_
     repeat (first | refine sq ?_ | refine sk ?_ | with_reducible first | refine tn ?_ | refine bn ?_)
     refine Safe.regionD (n := 8) [(6, [7])] [] E_good mixed rfl ?_
     refine DT 0 [[7]] rfl rfl (v := V.agg [V.int .i64 0, V.int .i64 0, V.int .i64 0, V.int .i64 0, V.int .i64 0, V.bool false, V.int .i64 0]) (fun _ hz => (.fn rfl)) ?_
     refine DT 1 [[7]] rfl rfl (fun _ hz => (.fn rfl)) ?_
     refine DT 2 [[7]] rfl rfl (v := V.ptr [31] 0 0) (fun _ hz => (.fn rfl)) ?_
     refine DT 3 [[7]] rfl rfl (v := V.ptr [31] 0 10) (fun _ hz => (.fn rfl)) ?_
     refine DT 4 [[7]] rfl rfl (v := V.int .i64 v3110_1245) (fun _ hz => (.load rfl rfl (.box (hz _ _ rfl rfl) rfl) rfl)) ?_
     refine DT 5 [[7]] rfl rfl (fun _ hz => (.fn rfl)) ?_
     refine DAny.only (i := 6) rfl (by kernel_rfl) (.store (z := Obj.box [V.int .i64 0, V.int .i64 0, V.int .i64 0, V.int .i64 0, V.int .i64 0, V.bool false, V.int .i64 0]) rfl rfl rfl rfl rfl rfl rfl (.boxM (c := 7) rfl rfl (Nat.le_of_ble_eq_true rfl) rfl) rfl ?_)
     refine DT 7 [[7]] rfl rfl (fun _ hz => (.fn rfl)) ?_
     refine DAny.nil (by kernel_rfl) ?_
     repeat (first | refine sq ?_ | refine sk ?_ | with_reducible first | refine tn ?_ | refine bn ?_)
     refine Safe.ret ?_
     repeat (first | with_reducible refine thenQ.r ?_ | with_reducible refine blockQ.r ?_)
     obtain rfl := Option.some.inj h
     exact retQ.gen (vs := [V.nils, V.agg [V.int .i64 0, V.int .i64 0, V.int .i64 0, V.int .i64 0, V.int .i64 0, V.bool false, V.int .i64 0], V.int .i64 v3110_1245]) rfl (.tmp (v := V.nils) rfl (.cell (v := V.agg [V.int .i64 0, V.int .i64 0, V.int .i64 0, V.int .i64 0, V.int .i64 0, V.bool false, V.int .i64 0]) rfl rfl (.box rfl rfl) rfl (.tmp (v := V.int .i64 v3110_1245) rfl .nil))) (by exact (.tup (.cons (.nils _) (.cons (.free rfl) (.cons (.free rfl) .nil))))) (by simp) (.inr rfl)
    ·skip
     refine Safe.condN rfl hc1247 ?_
     repeat (first | refine sq ?_ | refine sk ?_ | with_reducible first | refine tn ?_ | refine bn ?_)
     refine Safe.regionD (n := 11) [(9, [7])] [] E_good mixed rfl ?_
     refine DT 0 [[7]] rfl rfl (fun _ hz => (.fn rfl)) ?_
     refine DT 1 [[7]] rfl rfl (v := V.ptr [31] 0 0) (fun _ hz => (.fn rfl)) ?_
     refine DT 2 [[7]] rfl rfl (v := V.ptr [31] 0 7) (fun _ hz => (.fn rfl)) ?_
     refine DT 3 [[7]] rfl rfl (v := V.ref [7000, 114, 31, 7] 0 (rws (fun n => [V.int .i64 n]) v317_1244).length) (fun _ hz => (.load rfl rfl (.box (hz _ _ rfl rfl) rfl) rfl)) ?_
     refine DT 4 [[7]] rfl rfl (fun _ hz => (.fn rfl)) ?_
     refine DT 5 [[7]] rfl rfl (v := V.ptr [31] 0 0) (fun _ hz => (.fn rfl)) ?_
     refine DT 6 [[7]] rfl rfl (v := V.ptr [31] 0 0) (fun _ hz => (.fn rfl)) ?_
     refine DT 7 [[7]] rfl rfl (v := V.agg [V.int .i64 a2_64.Kind, V.int .i64 v311_1238, V.int .i64 v312_1239, V.int .i64 v313_1240, V.int .i64 v314_1241, V.bool v315_1242, V.int .i64 v316_1243]) (fun _ hz => (.load rfl rfl (.box (hz _ _ rfl rfl) rfl) rfl)) ?_
     refine DT 8 [[7]] rfl rfl (fun _ hz => (.fn rfl)) ?_
     refine DAny.only (i := 9) rfl (by kernel_rfl) (.store (z := Obj.box [V.int .i64 a2_64.Kind, V.int .i64 v311_1238, V.int .i64 v312_1239, V.int .i64 v313_1240, V.int .i64 v314_1241, V.bool v315_1242, V.int .i64 v316_1243]) rfl rfl rfl rfl rfl rfl rfl (.boxM (c := 7) rfl rfl (Nat.le_of_ble_eq_true rfl) rfl) rfl ?_)
     refine DT 10 [[7]] rfl rfl (fun _ hz => (.fn rfl)) ?_
     refine DAny.nil (by kernel_rfl) ?_
     repeat (first | refine sq ?_ | refine sk ?_ | with_reducible first | refine tn ?_ | refine bn ?_)
     refine Safe.ret ?_
     repeat (first | with_reducible refine thenQ.r ?_ | with_reducible refine blockQ.r ?_)
     obtain rfl := Option.some.inj h
     exact retQ.gen (vs := [V.ref [7000, 114, 31, 7] 0 (rws (fun n => [V.int .i64 n]) v317_1244).length, V.agg [V.int .i64 a2_64.Kind, V.int .i64 v311_1238, V.int .i64 v312_1239, V.int .i64 v313_1240, V.int .i64 v314_1241, V.bool v315_1242, V.int .i64 v316_1243], V.int .i64 0]) rfl (.tmp (v := V.ref [7000, 114, 31, 7] 0 (rws (fun n => [V.int .i64 n]) v317_1244).length) rfl (.cell (v := V.agg [V.int .i64 a2_64.Kind, V.int .i64 v311_1238, V.int .i64 v312_1239, V.int .i64 v313_1240, V.int .i64 v314_1241, V.bool v315_1242, V.int .i64 v316_1243]) rfl rfl (.box rfl rfl) rfl (.tmp (v := V.int .i64 0) rfl .nil))) (by exact (.tup (.cons (.own rfl rfl) (.cons (.free rfl) (.cons (.free rfl) .nil))))) (by simp) (.inr rfl)
   ·skip
    refine ifP_G h (fun hq1248 h => ?_) (fun _ h => ?_)
    ·skip
     refine SafeOps.see 38 (u := V.fn 37 []) rfl (up_fn hq1248) ?_
     refine SafeOps.inline E_good rfl rfl rfl rfl rfl Try.func37 rfl (fun _ _ => Try.call37 _ _) rfl ?_
     repeat (first | refine sq ?_ | refine sk ?_ | with_reducible first | refine tn ?_ | refine bn ?_)
     refine Safe.region ?_
     refine Qf E_good ?_
     refine Qf E_good ?_
     refine Qf E_good ?_
     refine Q0 E_good rfl (v := V.int .i64 (go_pring_actor_top (ring_actor.mk a2_64 ([] ++ a0_62) a1_63 0))) (.callS rfl (.cons (.box rfl (.cons (.free rfl) (.cons (.free rfl) (.cons (.free rfl) (.cons (.free rfl) (.cons (.free rfl) (.cons (.free rfl) (.cons (.free rfl) (.cons (.full rfl rfl) (.cons (.free rfl) (.cons (.free rfl) (.cons (.free rfl) .nil)))))))))))) .nil) (go_pring_actor_top_sc (ring_actor.mk a2_64 ([] ++ a0_62) a1_63 0) _ rfl) (.plain rfl) rfl) ?_
     refine SafeOps.inline E_good rfl rfl rfl rfl rfl Try.func28 rfl (fun _ _ => Try.call28 _ _) rfl ?_
     repeat (first | refine sq ?_ | refine sk ?_ | with_reducible first | refine tn ?_ | refine bn ?_)
     refine Safe.region ?_
     refine Qf E_good ?_
     refine SafeOps.nil ?_
     repeat (first | refine sq ?_ | refine sk ?_ | with_reducible first | refine tn ?_ | refine bn ?_)
     refine Safe.region ?_
     refine Qf E_good ?_
     refine Qf E_good ?_
     refine SafeOps.inline E_good rfl rfl rfl rfl rfl Try.func31 rfl (fun _ _ => Try.call31 _ _) rfl ?_
     repeat (first | refine sq ?_ | refine sk ?_ | with_reducible first | refine tn ?_ | refine bn ?_)
     refine Safe.region ?_
     refine Qf E_good ?_
     refine SafeOps.nil ?_
     repeat (first | refine sq ?_ | refine sk ?_ | with_reducible first | refine tn ?_ | refine bn ?_)
     refine Safe.region ?_
     refine Qf E_good ?_
     refine Q0 E_good rfl (v := V.ptr [31] 0 0) (.fn rfl) ?_
     refine Q0 E_good rfl (v := V.ptr [31] 0 7) (.fn rfl) ?_
     refine Q0 E_good rfl (v := V.ref [28] 0 (rws (fun n => [V.int .i64 n]) ([] ++ a0_62)).length) (.load rfl rfl (.box rfl rfl) rfl) ?_
     refine Qf E_good ?_
     refine bindG h ?_
     rintro ⟨x_1271, x_1272⟩ he1273 h
     refine Q0 E_good rfl (v := V.tup [V.int .i64 x_1271, V.int .i64 x_1272]) (.callS rfl (.cons (.full rfl rfl) (.cons (.free rfl) .nil)) (go_cell_Load_sc ([] ++ a0_62) (go_pring_actor_top (ring_actor.mk a2_64 ([] ++ a0_62) a1_63 0)) _ he1273) (.tupL (.cons (.plain rfl) (.cons (.plain rfl) .nil))) rfl) ?_
     refine Qf E_good ?_
     refine Qf E_good ?_
     refine Qf E_good ?_
     refine Qf E_good ?_
     refine Qf E_good ?_
     refine SafeOps.nil ?_
     repeat (first | refine sq ?_ | refine sk ?_ | with_reducible first | refine tn ?_ | refine bn ?_)
     refine Safe.region ?_
     refine Qf E_good ?_
     refine Qf E_good ?_
     refine Q0 E_good rfl (v := V.bool (x_1272 == 0)) (.fn rfl) ?_
     refine SafeOps.joinT 1 (fun (v3110_1275 : Int) => go_ring_Step_j86 a0_62 a2_64 x_1271 v3110_1275 = some r) (fun (v3110_1275 : Int) => ⟨Try.f31.ntmps, [(5, V.int .i64 x_1271)], [([7], Obj.box [V.int .i64 0, V.int .i64 0, V.int .i64 0, V.int .i64 0, V.int .i64 0, V.bool false, V.int .i64 0]), ([28], Obj.rows 1 (rws (fun n => [V.int .i64 n]) ([] ++ a0_62)) false), ([31], Obj.box [V.int .i64 a2_64.Kind, V.int .i64 a2_64.Pc, V.int .i64 a2_64.V, V.int .i64 a2_64.T, V.int .i64 a2_64.B, V.bool a2_64.Won, V.int .i64 a2_64.State, V.ref [28] 0 (rws (fun n => [V.int .i64 n]) ([] ++ a0_62)).length, V.int .i64 a1_63.Base, V.int .i64 a1_63.Cap, V.int .i64 v3110_1275])], [(Try.f28.ntmps, [(0, V.ptr [31] 0 0), (2, V.int .i64 0)]), (Try.f37.ntmps, [(0, V.ptr [31] 0 0), (2, V.ptr [31] 0 0)]), (Try.f8.ntmps, [(7, V.ptr [7] 0 0), (9, V.ptr [31] 0 0)])], [40, 6, 10]⟩) ?_ (fun HJ1276 => ?_)
     ·intro v3110_1275 h
      replace h : go_ring_Step_j86 a0_62 a2_64 x_1271 v3110_1275 = some r := h
      rw [go_ring_Step_j86] at h
      refine SafeOps.nil ?_
      repeat (first | refine sq ?_ | refine sk ?_ | with_reducible first | refine tn ?_ | refine bn ?_)
      refine Safe.region ?_
      refine Qf E_good ?_
      refine Qf E_good ?_
      refine SafeOps.nil ?_
      repeat (first | refine sq ?_ | refine sk ?_ | with_reducible first | refine tn ?_ | refine bn ?_)
      refine Safe.ret ?_
      repeat (first | with_reducible refine thenQ.r ?_ | with_reducible refine blockQ.r ?_)
      refine inQ.gen (vs := [V.int .i64 x_1271]) (v := V.int .i64 x_1271) (.inr rfl) rfl (.tmp (v := V.int .i64 x_1271) rfl .nil) rfl ?_
      refine Qf E_good ?_
      refine SafeOps.nil ?_
      repeat (first | refine sq ?_ | refine sk ?_ | with_reducible first | refine tn ?_ | refine bn ?_)
      refine Safe.region ?_
      refine Qf E_good ?_
      refine Qf E_good ?_
      refine Qf E_good ?_
      refine Q0 E_good rfl (v := V.bool (decide (x_1271 ≥ 0))) (.fn rfl) ?_
      refine Qf E_good ?_
      refine SafeOps.bjoin 3 18 (b := ((decide (x_1271 ≥ 0)) && (decide (x_1271 ≤ 1099511627776)))) (b1 := decide (x_1271 ≤ 1099511627776)) (b0 := false) (fun hc1277 K => ?_) (fun hc1277 K => ?_) bj_and ?_
      ·skip
       refine SafeOps.quiet0 E_good (congrArg some hc1277) rfl rfl (.fn rfl) ?_
       refine SafeOps.quiet0 E_good (congrArg some hc1277) rfl rfl (v := V.bool (decide (x_1271 ≤ 1099511627776))) (.fn rfl) ?_
       refine Q0 E_good rfl (v := V.bool (decide (x_1271 ≤ 1099511627776))) (.pickK rfl hc1277 rfl) ?_
       exact SafeOps.drop' 3 rfl rfl rfl K
      ·skip
       refine SafeOps.skip (congrArg some hc1277) rfl rfl ?_
       refine SafeOps.skip (congrArg some hc1277) rfl rfl ?_
       refine Q0 E_good rfl (v := V.bool false) (.pickK rfl hc1277 rfl) ?_
       exact SafeOps.drop' 3 rfl rfl rfl K
      refine SafeOps.joinT 1 (fun (v3110_1279 : Int) => go_ring_Step_j87 a0_62 a2_64 x_1271 v3110_1279 = some r) (fun (v3110_1279 : Int) => ⟨Try.f28.ntmps, [(7, V.int .i64 x_1271)], [([7], Obj.box [V.int .i64 0, V.int .i64 0, V.int .i64 0, V.int .i64 0, V.int .i64 0, V.bool false, V.int .i64 0]), ([28], Obj.rows 1 (rws (fun n => [V.int .i64 n]) ([] ++ a0_62)) false), ([31], Obj.box [V.int .i64 a2_64.Kind, V.int .i64 a2_64.Pc, V.int .i64 a2_64.V, V.int .i64 a2_64.T, V.int .i64 a2_64.B, V.bool a2_64.Won, V.int .i64 a2_64.State, V.ref [28] 0 (rws (fun n => [V.int .i64 n]) ([] ++ a0_62)).length, V.int .i64 a1_63.Base, V.int .i64 a1_63.Cap, V.int .i64 v3110_1279])], [(Try.f37.ntmps, [(0, V.ptr [31] 0 0), (2, V.ptr [31] 0 0)]), (Try.f8.ntmps, [(7, V.ptr [7] 0 0), (9, V.ptr [31] 0 0)])], [40, 6]⟩) ?_ (fun HJ1280 => ?_)
      ·intro v3110_1279 h
       replace h : go_ring_Step_j87 a0_62 a2_64 x_1271 v3110_1279 = some r := h
       rw [go_ring_Step_j87] at h
       refine SafeOps.nil ?_
       repeat (first | refine sq ?_ | refine sk ?_ | with_reducible first | refine tn ?_ | refine bn ?_)
       refine Safe.region ?_
       refine Qf E_good ?_
       refine Qf E_good ?_
       refine SafeOps.nil ?_
       repeat (first | refine sq ?_ | refine sk ?_ | with_reducible first | refine tn ?_ | refine bn ?_)
       refine Safe.ret ?_
       repeat (first | with_reducible refine thenQ.r ?_ | with_reducible refine blockQ.r ?_)
       refine inQ.gen (vs := [V.int .i64 x_1271]) (v := V.int .i64 x_1271) (.inr rfl) rfl (.tmp (v := V.int .i64 x_1271) rfl .nil) rfl ?_
       refine Q0 E_good rfl (v := V.ptr [31] 0 0) (.fn rfl) ?_
       refine Q0 E_good rfl (v := V.ptr [31] 0 0) (.fn rfl) ?_
       refine Q0 E_good rfl (v := V.ptr [31] 0 3) (.fn rfl) ?_
       refine SafeOps.store (z := Obj.box [V.int .i64 a2_64.Kind, V.int .i64 a2_64.Pc, V.int .i64 a2_64.V, V.int .i64 x_1271, V.int .i64 a2_64.B, V.bool a2_64.Won, V.int .i64 a2_64.State, V.ref [28] 0 (rws (fun n => [V.int .i64 n]) ([] ++ a0_62)).length, V.int .i64 a1_63.Base, V.int .i64 a1_63.Cap, V.int .i64 v3110_1279]) E_good rfl rfl rfl rfl rfl rfl rfl (.boxM (c := 11) rfl rfl (Nat.le_of_ble_eq_true rfl) rfl) ?_
       refine SafeOps.nil ?_
       repeat (first | refine sq ?_ | refine sk ?_ | with_reducible first | refine tn ?_ | refine bn ?_)
       refine Safe.region ?_
       refine Qf E_good ?_
       refine Q0 E_good rfl (v := V.ptr [31] 0 0) (.fn rfl) ?_
       refine Q0 E_good rfl (v := V.ptr [31] 0 0) (.fn rfl) ?_
       refine Q0 E_good rfl (v := V.ptr [31] 0 1) (.fn rfl) ?_
       refine Q0 E_good rfl (v := V.int .i64 a2_64.Pc) (.load rfl rfl (.box rfl rfl) rfl) ?_
       refine Q0 E_good rfl (v := V.int .i64 (IntKind.i64.wrap (a2_64.Pc + 1))) (.fn rfl) ?_
       refine Q0 E_good rfl (v := V.ptr [31] 0 0) (.fn rfl) ?_
       refine Q0 E_good rfl (v := V.ptr [31] 0 0) (.fn rfl) ?_
       refine Q0 E_good rfl (v := V.ptr [31] 0 1) (.fn rfl) ?_
       refine SafeOps.store (z := Obj.box [V.int .i64 a2_64.Kind, V.int .i64 (IntKind.i64.wrap (a2_64.Pc + 1)), V.int .i64 a2_64.V, V.int .i64 x_1271, V.int .i64 a2_64.B, V.bool a2_64.Won, V.int .i64 a2_64.State, V.ref [28] 0 (rws (fun n => [V.int .i64 n]) ([] ++ a0_62)).length, V.int .i64 a1_63.Base, V.int .i64 a1_63.Cap, V.int .i64 v3110_1279]) E_good rfl rfl rfl rfl rfl rfl rfl (.boxM (c := 11) rfl rfl (Nat.le_of_ble_eq_true rfl) rfl) ?_
       refine SafeOps.nil ?_
       repeat (first | refine sq ?_ | refine sk ?_ | with_reducible first | refine tn ?_ | refine bn ?_)
       repeat (first | with_reducible refine thenQ.r ?_ | with_reducible refine blockQ.r ?_)
       refine inQ.gen (vs := []) (v := V.tup []) (.inl rfl) rfl .nil rfl ?_
       exact SafeOps.got (HJ1246 (IntKind.i64.wrap (a2_64.Pc + 1), a2_64.V, x_1271, a2_64.B, a2_64.Won, a2_64.State, [] ++ a0_62, v3110_1279) h) (.ren [28] [7000, 114, 31, 7] (.cov ⟨rfl, rfl, (ut (ut upT_nil)), (uo (uo (uo upOb_nil))), upOut_nil, rfl⟩))
      ·skip
       refine SafeOps.inline E_good rfl rfl rfl rfl rfl Try.func54 rfl (fun _ _ => Try.call54 _ _) rfl ?_
       repeat (first | refine sq ?_ | refine sk ?_ | with_reducible first | refine tn ?_ | refine bn ?_)
       refine Safe.region ?_
       refine Qf E_good ?_
       refine SafeOps.nil ?_
       repeat (first | refine sq ?_ | refine sk ?_ | with_reducible first | refine tn ?_ | refine bn ?_)
       refine Safe.region ?_
       refine Qf E_good ?_
       refine Q0 E_good rfl (v := V.bool (!((decide (x_1271 ≥ 0)) && (decide (x_1271 ≤ 1099511627776))))) (.fn rfl) ?_
       refine SafeOps.nil ?_
       repeat (first | refine sq ?_ | refine sk ?_ | with_reducible first | refine tn ?_ | refine bn ?_)
       refine ifG h (fun hc1281 h => ?_) (fun hc1281 h => ?_)
       ·skip
        refine Safe.condK rfl hc1281 ?_
        repeat (first | refine sq ?_ | refine sk ?_ | with_reducible first | refine tn ?_ | refine bn ?_)
        refine Safe.region ?_
        refine Qf E_good ?_
        refine Q0 E_good rfl (v := V.ptr [31] 0 0) (.fn rfl) ?_
        refine Q0 E_good rfl (v := V.ptr [31] 0 10) (.fn rfl) ?_
        refine SafeOps.store (z := Obj.box [V.int .i64 a2_64.Kind, V.int .i64 a2_64.Pc, V.int .i64 a2_64.V, V.int .i64 a2_64.T, V.int .i64 a2_64.B, V.bool a2_64.Won, V.int .i64 a2_64.State, V.ref [28] 0 (rws (fun n => [V.int .i64 n]) ([] ++ a0_62)).length, V.int .i64 a1_63.Base, V.int .i64 a1_63.Cap, V.int .i64 9]) E_good rfl rfl rfl rfl rfl rfl rfl (.boxM (c := 11) rfl rfl (Nat.le_of_ble_eq_true rfl) rfl) ?_
        refine SafeOps.nil ?_
        repeat (first | refine sq ?_ | refine sk ?_ | with_reducible first | refine tn ?_ | refine bn ?_)
        refine Safe.region ?_
        refine Qf E_good ?_
        refine Qf E_good ?_
        refine SafeOps.nil ?_
        repeat (first | refine sq ?_ | refine sk ?_ | with_reducible first | refine tn ?_ | refine bn ?_)
        refine Safe.ret ?_
        repeat (first | with_reducible refine thenQ.r ?_ | with_reducible refine blockQ.r ?_)
        refine inQ.gen (vs := [V.bool ((decide (x_1271 ≥ 0)) && (decide (x_1271 ≤ 1099511627776)))]) (v := V.bool ((decide (x_1271 ≥ 0)) && (decide (x_1271 ≤ 1099511627776)))) (.inr rfl) rfl (.tmp (v := V.bool ((decide (x_1271 ≥ 0)) && (decide (x_1271 ≤ 1099511627776)))) rfl .nil) rfl ?_
        exact SafeOps.got (HJ1280 (9) h) (.cov ⟨rfl, rfl, (ut upT_nil), (uo (uo (uo upOb_nil))), (upOut_cons rfl (ut (ut upT_nil)) (upOut_cons rfl (ut (ut upT_nil)) upOut_nil)), rfl⟩)
       ·skip
        refine Safe.condN rfl hc1281 ?_
        repeat (first | refine sq ?_ | refine sk ?_ | with_reducible first | refine tn ?_ | refine bn ?_)
        refine Safe.region ?_
        refine Qf E_good ?_
        refine Qf E_good ?_
        refine SafeOps.nil ?_
        repeat (first | refine sq ?_ | refine sk ?_ | with_reducible first | refine tn ?_ | refine bn ?_)
        refine Safe.ret ?_
        repeat (first | with_reducible refine thenQ.r ?_ | with_reducible refine blockQ.r ?_)
        refine inQ.gen (vs := [V.bool ((decide (x_1271 ≥ 0)) && (decide (x_1271 ≤ 1099511627776)))]) (v := V.bool ((decide (x_1271 ≥ 0)) && (decide (x_1271 ≤ 1099511627776)))) (.inr rfl) rfl (.tmp (v := V.bool ((decide (x_1271 ≥ 0)) && (decide (x_1271 ≤ 1099511627776)))) rfl .nil) rfl ?_
        exact SafeOps.got (HJ1280 (v3110_1275) h) (.cov ⟨rfl, rfl, (ut upT_nil), (uo (uo (uo upOb_nil))), (upOut_cons rfl (ut (ut upT_nil)) (upOut_cons rfl (ut (ut upT_nil)) upOut_nil)), rfl⟩)
     ·skip
      refine SafeOps.inline E_good rfl rfl rfl rfl rfl Try.func54 rfl (fun _ _ => Try.call54 _ _) rfl ?_
      repeat (first | refine sq ?_ | refine sk ?_ | with_reducible first | refine tn ?_ | refine bn ?_)
      refine Safe.region ?_
      refine Qf E_good ?_
      refine SafeOps.nil ?_
      repeat (first | refine sq ?_ | refine sk ?_ | with_reducible first | refine tn ?_ | refine bn ?_)
      refine Safe.region ?_
      refine Qf E_good ?_
      refine Q0 E_good rfl (v := V.bool (!(x_1272 == 0))) (.fn rfl) ?_
      refine SafeOps.nil ?_
      repeat (first | refine sq ?_ | refine sk ?_ | with_reducible first | refine tn ?_ | refine bn ?_)
      refine ifG h (fun hc1282 h => ?_) (fun hc1282 h => ?_)
      ·skip
       refine Safe.condK rfl hc1282 ?_
       repeat (first | refine sq ?_ | refine sk ?_ | with_reducible first | refine tn ?_ | refine bn ?_)
       refine Safe.region ?_
       refine Qf E_good ?_
       refine Q0 E_good rfl (v := V.ptr [31] 0 0) (.fn rfl) ?_
       refine Q0 E_good rfl (v := V.ptr [31] 0 10) (.fn rfl) ?_
       refine SafeOps.store (z := Obj.box [V.int .i64 a2_64.Kind, V.int .i64 a2_64.Pc, V.int .i64 a2_64.V, V.int .i64 a2_64.T, V.int .i64 a2_64.B, V.bool a2_64.Won, V.int .i64 a2_64.State, V.ref [28] 0 (rws (fun n => [V.int .i64 n]) ([] ++ a0_62)).length, V.int .i64 a1_63.Base, V.int .i64 a1_63.Cap, V.int .i64 9]) E_good rfl rfl rfl rfl rfl rfl rfl (.boxM (c := 11) rfl rfl (Nat.le_of_ble_eq_true rfl) rfl) ?_
       refine SafeOps.nil ?_
       repeat (first | refine sq ?_ | refine sk ?_ | with_reducible first | refine tn ?_ | refine bn ?_)
       refine Safe.region ?_
       refine Qf E_good ?_
       refine Qf E_good ?_
       refine SafeOps.nil ?_
       repeat (first | refine sq ?_ | refine sk ?_ | with_reducible first | refine tn ?_ | refine bn ?_)
       refine Safe.ret ?_
       repeat (first | with_reducible refine thenQ.r ?_ | with_reducible refine blockQ.r ?_)
       refine inQ.gen (vs := [V.bool (x_1272 == 0)]) (v := V.bool (x_1272 == 0)) (.inr rfl) rfl (.tmp (v := V.bool (x_1272 == 0)) rfl .nil) rfl ?_
       exact SafeOps.got (HJ1276 (9) h) (.cov ⟨rfl, rfl, (ut upT_nil), (uo (uo (uo upOb_nil))), (upOut_cons rfl (ut (ut upT_nil)) (upOut_cons rfl (ut (ut upT_nil)) (upOut_cons rfl (ut (ut upT_nil)) upOut_nil))), rfl⟩)
      ·skip
       refine Safe.condN rfl hc1282 ?_
       repeat (first | refine sq ?_ | refine sk ?_ | with_reducible first | refine tn ?_ | refine bn ?_)
       refine Safe.region ?_
       refine Qf E_good ?_
       refine Qf E_good ?_
       refine SafeOps.nil ?_
       repeat (first | refine sq ?_ | refine sk ?_ | with_reducible first | refine tn ?_ | refine bn ?_)
       refine Safe.ret ?_
       repeat (first | with_reducible refine thenQ.r ?_ | with_reducible refine blockQ.r ?_)
       refine inQ.gen (vs := [V.bool (x_1272 == 0)]) (v := V.bool (x_1272 == 0)) (.inr rfl) rfl (.tmp (v := V.bool (x_1272 == 0)) rfl .nil) rfl ?_
       exact SafeOps.got (HJ1276 (0) h) (.cov ⟨rfl, rfl, (ut upT_nil), (uo (uo (uo upOb_nil))), (upOut_cons rfl (ut (ut upT_nil)) (upOut_cons rfl (ut (ut upT_nil)) (upOut_cons rfl (ut (ut upT_nil)) upOut_nil))), rfl⟩)
    refine ifP_G h (fun hq1283 h => ?_) (fun _ h => ?_)
    ·skip
     refine SafeOps.see 38 (u := V.fn 38 []) rfl (up_fn hq1283) ?_
     refine SafeOps.inline E_good rfl rfl rfl rfl rfl Try.func38 rfl (fun _ _ => Try.call38 _ _) rfl ?_
     repeat (first | refine sq ?_ | refine sk ?_ | with_reducible first | refine tn ?_ | refine bn ?_)
     refine Safe.region ?_
     refine Qf E_good ?_
     refine Qf E_good ?_
     refine Qf E_good ?_
     refine Q0 E_good rfl (v := V.int .i64 (go_pring_actor_bottom (ring_actor.mk a2_64 ([] ++ a0_62) a1_63 0))) (.callS rfl (.cons (.box rfl (.cons (.free rfl) (.cons (.free rfl) (.cons (.free rfl) (.cons (.free rfl) (.cons (.free rfl) (.cons (.free rfl) (.cons (.free rfl) (.cons (.full rfl rfl) (.cons (.free rfl) (.cons (.free rfl) (.cons (.free rfl) .nil)))))))))))) .nil) (go_pring_actor_bottom_sc (ring_actor.mk a2_64 ([] ++ a0_62) a1_63 0) _ rfl) (.plain rfl) rfl) ?_
     refine SafeOps.inline E_good rfl rfl rfl rfl rfl Try.func28 rfl (fun _ _ => Try.call28 _ _) rfl ?_
     repeat (first | refine sq ?_ | refine sk ?_ | with_reducible first | refine tn ?_ | refine bn ?_)
     refine Safe.region ?_
     refine Qf E_good ?_
     refine SafeOps.nil ?_
     repeat (first | refine sq ?_ | refine sk ?_ | with_reducible first | refine tn ?_ | refine bn ?_)
     refine Safe.region ?_
     refine Qf E_good ?_
     refine Qf E_good ?_
     refine SafeOps.inline E_good rfl rfl rfl rfl rfl Try.func31 rfl (fun _ _ => Try.call31 _ _) rfl ?_
     repeat (first | refine sq ?_ | refine sk ?_ | with_reducible first | refine tn ?_ | refine bn ?_)
     refine Safe.region ?_
     refine Qf E_good ?_
     refine SafeOps.nil ?_
     repeat (first | refine sq ?_ | refine sk ?_ | with_reducible first | refine tn ?_ | refine bn ?_)
     refine Safe.region ?_
     refine Qf E_good ?_
     refine Q0 E_good rfl (v := V.ptr [31] 0 0) (.fn rfl) ?_
     refine Q0 E_good rfl (v := V.ptr [31] 0 7) (.fn rfl) ?_
     refine Q0 E_good rfl (v := V.ref [28] 0 (rws (fun n => [V.int .i64 n]) ([] ++ a0_62)).length) (.load rfl rfl (.box rfl rfl) rfl) ?_
     refine Qf E_good ?_
     refine bindG h ?_
     rintro ⟨x_1306, x_1307⟩ he1308 h
     refine Q0 E_good rfl (v := V.tup [V.int .i64 x_1306, V.int .i64 x_1307]) (.callS rfl (.cons (.full rfl rfl) (.cons (.free rfl) .nil)) (go_cell_Load_sc ([] ++ a0_62) (go_pring_actor_bottom (ring_actor.mk a2_64 ([] ++ a0_62) a1_63 0)) _ he1308) (.tupL (.cons (.plain rfl) (.cons (.plain rfl) .nil))) rfl) ?_
     refine Qf E_good ?_
     refine Qf E_good ?_
     refine Qf E_good ?_
     refine Qf E_good ?_
     refine Qf E_good ?_
     refine SafeOps.nil ?_
     repeat (first | refine sq ?_ | refine sk ?_ | with_reducible first | refine tn ?_ | refine bn ?_)
     refine Safe.region ?_
     refine Qf E_good ?_
     refine Qf E_good ?_
     refine Q0 E_good rfl (v := V.bool (x_1307 == 0)) (.fn rfl) ?_
     refine SafeOps.joinT 1 (fun (v3110_1310 : Int) => go_ring_Step_j92 a0_62 a1_63 a2_64 x_1306 v3110_1310 = some r) (fun (v3110_1310 : Int) => ⟨Try.f31.ntmps, [(5, V.int .i64 x_1306)], [([7], Obj.box [V.int .i64 0, V.int .i64 0, V.int .i64 0, V.int .i64 0, V.int .i64 0, V.bool false, V.int .i64 0]), ([28], Obj.rows 1 (rws (fun n => [V.int .i64 n]) ([] ++ a0_62)) false), ([31], Obj.box [V.int .i64 a2_64.Kind, V.int .i64 a2_64.Pc, V.int .i64 a2_64.V, V.int .i64 a2_64.T, V.int .i64 a2_64.B, V.bool a2_64.Won, V.int .i64 a2_64.State, V.ref [28] 0 (rws (fun n => [V.int .i64 n]) ([] ++ a0_62)).length, V.int .i64 a1_63.Base, V.int .i64 a1_63.Cap, V.int .i64 v3110_1310])], [(Try.f28.ntmps, [(0, V.ptr [31] 0 0), (2, V.int .i64 0)]), (Try.f38.ntmps, [(0, V.ptr [31] 0 0), (2, V.ptr [31] 0 0)]), (Try.f8.ntmps, [(7, V.ptr [7] 0 0), (9, V.ptr [31] 0 0)])], [40, 6, 10]⟩) ?_ (fun HJ1311 => ?_)
     ·intro v3110_1310 h
      replace h : go_ring_Step_j92 a0_62 a1_63 a2_64 x_1306 v3110_1310 = some r := h
      rw [go_ring_Step_j92] at h
      refine SafeOps.nil ?_
      repeat (first | refine sq ?_ | refine sk ?_ | with_reducible first | refine tn ?_ | refine bn ?_)
      refine Safe.region ?_
      refine Qf E_good ?_
      refine Qf E_good ?_
      refine SafeOps.nil ?_
      repeat (first | refine sq ?_ | refine sk ?_ | with_reducible first | refine tn ?_ | refine bn ?_)
      refine Safe.ret ?_
      repeat (first | with_reducible refine thenQ.r ?_ | with_reducible refine blockQ.r ?_)
      refine inQ.gen (vs := [V.int .i64 x_1306]) (v := V.int .i64 x_1306) (.inr rfl) rfl (.tmp (v := V.int .i64 x_1306) rfl .nil) rfl ?_
      refine Qf E_good ?_
      refine SafeOps.nil ?_
      repeat (first | refine sq ?_ | refine sk ?_ | with_reducible first | refine tn ?_ | refine bn ?_)
      refine Safe.region ?_
      refine Qf E_good ?_
      refine Qf E_good ?_
      refine Qf E_good ?_
      refine Q0 E_good rfl (v := V.bool (decide (x_1306 ≥ 0))) (.fn rfl) ?_
      refine Qf E_good ?_
      refine SafeOps.bjoin 3 18 (b := ((decide (x_1306 ≥ 0)) && (decide (x_1306 ≤ 1099511627776)))) (b1 := decide (x_1306 ≤ 1099511627776)) (b0 := false) (fun hc1312 K => ?_) (fun hc1312 K => ?_) bj_and ?_
      ·skip
       refine SafeOps.quiet0 E_good (congrArg some hc1312) rfl rfl (.fn rfl) ?_
       refine SafeOps.quiet0 E_good (congrArg some hc1312) rfl rfl (v := V.bool (decide (x_1306 ≤ 1099511627776))) (.fn rfl) ?_
       refine Q0 E_good rfl (v := V.bool (decide (x_1306 ≤ 1099511627776))) (.pickK rfl hc1312 rfl) ?_
       exact SafeOps.drop' 3 rfl rfl rfl K
      ·skip
       refine SafeOps.skip (congrArg some hc1312) rfl rfl ?_
       refine SafeOps.skip (congrArg some hc1312) rfl rfl ?_
       refine Q0 E_good rfl (v := V.bool false) (.pickK rfl hc1312 rfl) ?_
       exact SafeOps.drop' 3 rfl rfl rfl K
      refine SafeOps.joinT 1 (fun (v3110_1314 : Int) => go_ring_Step_j93 a0_62 a1_63 a2_64 x_1306 v3110_1314 = some r) (fun (v3110_1314 : Int) => ⟨Try.f28.ntmps, [(7, V.int .i64 x_1306)], [([7], Obj.box [V.int .i64 0, V.int .i64 0, V.int .i64 0, V.int .i64 0, V.int .i64 0, V.bool false, V.int .i64 0]), ([28], Obj.rows 1 (rws (fun n => [V.int .i64 n]) ([] ++ a0_62)) false), ([31], Obj.box [V.int .i64 a2_64.Kind, V.int .i64 a2_64.Pc, V.int .i64 a2_64.V, V.int .i64 a2_64.T, V.int .i64 a2_64.B, V.bool a2_64.Won, V.int .i64 a2_64.State, V.ref [28] 0 (rws (fun n => [V.int .i64 n]) ([] ++ a0_62)).length, V.int .i64 a1_63.Base, V.int .i64 a1_63.Cap, V.int .i64 v3110_1314])], [(Try.f38.ntmps, [(0, V.ptr [31] 0 0), (2, V.ptr [31] 0 0)]), (Try.f8.ntmps, [(7, V.ptr [7] 0 0), (9, V.ptr [31] 0 0)])], [40, 6]⟩) ?_ (fun HJ1315 => ?_)
      ·intro v3110_1314 h
       replace h : go_ring_Step_j93 a0_62 a1_63 a2_64 x_1306 v3110_1314 = some r := h
       rw [go_ring_Step_j93] at h
       refine SafeOps.nil ?_
       repeat (first | refine sq ?_ | refine sk ?_ | with_reducible first | refine tn ?_ | refine bn ?_)
       refine Safe.region ?_
       refine Qf E_good ?_
       refine Qf E_good ?_
       refine SafeOps.nil ?_
       repeat (first | refine sq ?_ | refine sk ?_ | with_reducible first | refine tn ?_ | refine bn ?_)
       refine Safe.ret ?_
       repeat (first | with_reducible refine thenQ.r ?_ | with_reducible refine blockQ.r ?_)
       refine inQ.gen (vs := [V.int .i64 x_1306]) (v := V.int .i64 x_1306) (.inr rfl) rfl (.tmp (v := V.int .i64 x_1306) rfl .nil) rfl ?_
       refine Q0 E_good rfl (v := V.ptr [31] 0 0) (.fn rfl) ?_
       refine Q0 E_good rfl (v := V.ptr [31] 0 0) (.fn rfl) ?_
       refine Q0 E_good rfl (v := V.ptr [31] 0 4) (.fn rfl) ?_
       refine SafeOps.store (z := Obj.box [V.int .i64 a2_64.Kind, V.int .i64 a2_64.Pc, V.int .i64 a2_64.V, V.int .i64 a2_64.T, V.int .i64 x_1306, V.bool a2_64.Won, V.int .i64 a2_64.State, V.ref [28] 0 (rws (fun n => [V.int .i64 n]) ([] ++ a0_62)).length, V.int .i64 a1_63.Base, V.int .i64 a1_63.Cap, V.int .i64 v3110_1314]) E_good rfl rfl rfl rfl rfl rfl rfl (.boxM (c := 11) rfl rfl (Nat.le_of_ble_eq_true rfl) rfl) ?_
       refine SafeOps.nil ?_
       repeat (first | refine sq ?_ | refine sk ?_ | with_reducible first | refine tn ?_ | refine bn ?_)
       refine Safe.regionD (n := 19) [] [18] E_good mixed rfl ?_
       refine DT 0 [] rfl rfl (fun _ hz => (.fn rfl)) ?_
       refine DT 1 [] rfl rfl (fun _ hz => (.fn rfl)) ?_
       refine DT 2 [] rfl rfl (v := V.ptr [31] 0 0) (fun _ hz => (.fn rfl)) ?_
       refine DT 3 [] rfl rfl (v := V.ptr [31] 0 0) (fun _ hz => (.fn rfl)) ?_
       refine DT 4 [] rfl rfl (v := V.ptr [31] 0 4) (fun _ hz => (.fn rfl)) ?_
       refine DT 5 [] rfl rfl (v := V.int .i64 x_1306) (fun _ hz => (.load rfl rfl (.box (hz _ _ rfl rfl) rfl) rfl)) ?_
       refine DT 6 [] rfl rfl (fun _ hz => (.fn rfl)) ?_
       refine DT 7 [] rfl rfl (v := V.ptr [31] 0 0) (fun _ hz => (.fn rfl)) ?_
       refine DT 8 [] rfl rfl (v := V.ptr [31] 0 0) (fun _ hz => (.fn rfl)) ?_
       refine DT 9 [] rfl rfl (v := V.ptr [31] 0 3) (fun _ hz => (.fn rfl)) ?_
       refine DT 10 [] rfl rfl (v := V.int .i64 a2_64.T) (fun _ hz => (.load rfl rfl (.box (hz _ _ rfl rfl) rfl) rfl)) ?_
       refine DT 11 [] rfl rfl (v := V.int .i64 (IntKind.i64.wrap (x_1306 - a2_64.T))) (fun _ hz => (.fn rfl)) ?_
       refine DT 12 [] rfl rfl (fun _ hz => (.fn rfl)) ?_
       refine DT 13 [] rfl rfl (v := V.ptr [31] 0 0) (fun _ hz => (.fn rfl)) ?_
       refine DT 14 [] rfl rfl (v := V.ptr [31] 0 8) (fun _ hz => (.fn rfl)) ?_
       refine DT 15 [] rfl rfl (v := V.ptr [31] 0 9) (fun _ hz => (.fn rfl)) ?_
       refine DT 16 [] rfl rfl (v := V.int .i64 a1_63.Cap) (fun _ hz => (.load rfl rfl (.box (hz _ _ rfl rfl) rfl) rfl)) ?_
       refine DT 17 [] rfl rfl (v := V.bool (decide ((IntKind.i64.wrap (x_1306 - a2_64.T)) ≥ a1_63.Cap))) (fun _ hz => (.fn rfl)) ?_
       refine DAny.onlyS (i := 18) rfl (by kernel_rfl) rfl ?_
       refine SafeOps.joinT 1 (fun ((v311_1317, v316_1318) : Int × Int) => go_ring_Step_j94 a0_62 a2_64 x_1306 v3110_1314 v311_1317 v316_1318 = some r) (fun ((v311_1317, v316_1318) : Int × Int) => ⟨Try.f38.ntmps, [], [([7], Obj.box [V.int .i64 0, V.int .i64 0, V.int .i64 0, V.int .i64 0, V.int .i64 0, V.bool false, V.int .i64 0]), ([28], Obj.rows 1 (rws (fun n => [V.int .i64 n]) ([] ++ a0_62)) false), ([31], Obj.box [V.int .i64 a2_64.Kind, V.int .i64 v311_1317, V.int .i64 a2_64.V, V.int .i64 a2_64.T, V.int .i64 x_1306, V.bool a2_64.Won, V.int .i64 v316_1318, V.ref [28] 0 (rws (fun n => [V.int .i64 n]) ([] ++ a0_62)).length, V.int .i64 a1_63.Base, V.int .i64 a1_63.Cap, V.int .i64 v3110_1314])], [(Try.f8.ntmps, [(7, V.ptr [7] 0 0), (9, V.ptr [31] 0 0)])], [40]⟩) ?_ (fun HJ1319 => ?_)
       ·rintro ⟨v311_1317, v316_1318⟩ h
        replace h : go_ring_Step_j94 a0_62 a2_64 x_1306 v3110_1314 v311_1317 v316_1318 = some r := h
        rw [go_ring_Step_j94] at h
        refine SafeOps.nil ⟨rfl, ?_⟩
        refine DAny.nil (by kernel_rfl) ?_
        repeat (first | refine sq ?_ | refine sk ?_ | with_reducible first | refine tn ?_ | refine bn ?_)
        repeat (first | with_reducible refine thenQ.r ?_ | with_reducible refine blockQ.r ?_)
        refine inQ.gen (vs := []) (v := V.tup []) (.inl rfl) rfl .nil rfl ?_
        exact SafeOps.got (HJ1246 (v311_1317, a2_64.V, a2_64.T, x_1306, a2_64.Won, v316_1318, [] ++ a0_62, v3110_1314) h) (.ren [28] [7000, 114, 31, 7] (.cov ⟨rfl, rfl, (ut (ut upT_nil)), (uo (uo (uo upOb_nil))), upOut_nil, rfl⟩))
       ·skip
        refine SafeOps.inline E_good rfl rfl rfl rfl rfl Try.func56 rfl (fun _ _ => Try.call56 _ _) rfl ?_
        repeat (first | refine sq ?_ | refine sk ?_ | with_reducible first | refine tn ?_ | refine bn ?_)
        refine Safe.region ?_
        refine Qf E_good ?_
        refine SafeOps.nil ?_
        repeat (first | refine sq ?_ | refine sk ?_ | with_reducible first | refine tn ?_ | refine bn ?_)
        refine ifG h (fun hc1320 h => ?_) (fun hc1320 h => ?_)
        ·skip
         refine Safe.condK rfl hc1320 ?_
         repeat (first | refine sq ?_ | refine sk ?_ | with_reducible first | refine tn ?_ | refine bn ?_)
         refine Safe.region ?_
         refine Qf E_good ?_
         refine Qf E_good ?_
         refine Q0 E_good rfl (v := V.ptr [31] 0 0) (.fn rfl) ?_
         refine Q0 E_good rfl (v := V.ptr [31] 0 0) (.fn rfl) ?_
         refine Q0 E_good rfl (v := V.ptr [31] 0 6) (.fn rfl) ?_
         refine SafeOps.store (z := Obj.box [V.int .i64 a2_64.Kind, V.int .i64 a2_64.Pc, V.int .i64 a2_64.V, V.int .i64 a2_64.T, V.int .i64 x_1306, V.bool a2_64.Won, V.int .i64 3, V.ref [28] 0 (rws (fun n => [V.int .i64 n]) ([] ++ a0_62)).length, V.int .i64 a1_63.Base, V.int .i64 a1_63.Cap, V.int .i64 v3110_1314]) E_good rfl rfl rfl rfl rfl rfl rfl (.boxM (c := 11) rfl rfl (Nat.le_of_ble_eq_true rfl) rfl) ?_
         refine SafeOps.nil ?_
         repeat (first | refine sq ?_ | refine sk ?_ | with_reducible first | refine tn ?_ | refine bn ?_)
         refine Safe.ret ?_
         repeat (first | with_reducible refine thenQ.r ?_ | with_reducible refine blockQ.r ?_)
         refine inQ.gen (vs := []) (v := V.tup []) (.inr rfl) rfl .nil rfl ?_
         exact SafeOps.got (HJ1319 (a2_64.Pc, 3) h) (.cov ⟨rfl, rfl, upT_nil, (uo (uo (uo upOb_nil))), (upOut_cons rfl (ut (ut upT_nil)) upOut_nil), rfl⟩)
        ·skip
         refine Safe.condN rfl hc1320 ?_
         repeat (first | refine sq ?_ | refine sk ?_ | with_reducible first | refine tn ?_ | refine bn ?_)
         refine Safe.region ?_
         refine Qf E_good ?_
         refine Qf E_good ?_
         refine Q0 E_good rfl (v := V.ptr [31] 0 0) (.fn rfl) ?_
         refine Q0 E_good rfl (v := V.ptr [31] 0 0) (.fn rfl) ?_
         refine Q0 E_good rfl (v := V.ptr [31] 0 1) (.fn rfl) ?_
         refine SafeOps.store (z := Obj.box [V.int .i64 a2_64.Kind, V.int .i64 2, V.int .i64 a2_64.V, V.int .i64 a2_64.T, V.int .i64 x_1306, V.bool a2_64.Won, V.int .i64 a2_64.State, V.ref [28] 0 (rws (fun n => [V.int .i64 n]) ([] ++ a0_62)).length, V.int .i64 a1_63.Base, V.int .i64 a1_63.Cap, V.int .i64 v3110_1314]) E_good rfl rfl rfl rfl rfl rfl rfl (.boxM (c := 11) rfl rfl (Nat.le_of_ble_eq_true rfl) rfl) ?_
         refine SafeOps.nil ?_
         repeat (first | refine sq ?_ | refine sk ?_ | with_reducible first | refine tn ?_ | refine bn ?_)
         repeat (first | with_reducible refine thenQ.r ?_ | with_reducible refine blockQ.r ?_)
         refine inQ.gen (vs := []) (v := V.tup []) (.inl rfl) rfl .nil rfl ?_
         exact SafeOps.got (HJ1319 (2, a2_64.State) h) (.cov ⟨rfl, rfl, upT_nil, (uo (uo (uo upOb_nil))), (upOut_cons rfl (ut (ut upT_nil)) upOut_nil), rfl⟩)
      ·skip
       refine SafeOps.inline E_good rfl rfl rfl rfl rfl Try.func54 rfl (fun _ _ => Try.call54 _ _) rfl ?_
       repeat (first | refine sq ?_ | refine sk ?_ | with_reducible first | refine tn ?_ | refine bn ?_)
       refine Safe.region ?_
       refine Qf E_good ?_
       refine SafeOps.nil ?_
       repeat (first | refine sq ?_ | refine sk ?_ | with_reducible first | refine tn ?_ | refine bn ?_)
       refine Safe.region ?_
       refine Qf E_good ?_
       refine Q0 E_good rfl (v := V.bool (!((decide (x_1306 ≥ 0)) && (decide (x_1306 ≤ 1099511627776))))) (.fn rfl) ?_
       refine SafeOps.nil ?_
       repeat (first | refine sq ?_ | refine sk ?_ | with_reducible first | refine tn ?_ | refine bn ?_)
       refine ifG h (fun hc1321 h => ?_) (fun hc1321 h => ?_)
       ·skip
        refine Safe.condK rfl hc1321 ?_
        repeat (first | refine sq ?_ | refine sk ?_ | with_reducible first | refine tn ?_ | refine bn ?_)
        refine Safe.region ?_
        refine Qf E_good ?_
        refine Q0 E_good rfl (v := V.ptr [31] 0 0) (.fn rfl) ?_
        refine Q0 E_good rfl (v := V.ptr [31] 0 10) (.fn rfl) ?_
        refine SafeOps.store (z := Obj.box [V.int .i64 a2_64.Kind, V.int .i64 a2_64.Pc, V.int .i64 a2_64.V, V.int .i64 a2_64.T, V.int .i64 a2_64.B, V.bool a2_64.Won, V.int .i64 a2_64.State, V.ref [28] 0 (rws (fun n => [V.int .i64 n]) ([] ++ a0_62)).length, V.int .i64 a1_63.Base, V.int .i64 a1_63.Cap, V.int .i64 9]) E_good rfl rfl rfl rfl rfl rfl rfl (.boxM (c := 11) rfl rfl (Nat.le_of_ble_eq_true rfl) rfl) ?_
        refine SafeOps.nil ?_
        repeat (first | refine sq ?_ | refine sk ?_ | with_reducible first | refine tn ?_ | refine bn ?_)
        refine Safe.region ?_
        refine Qf E_good ?_
        refine Qf E_good ?_
        refine SafeOps.nil ?_
        repeat (first | refine sq ?_ | refine sk ?_ | with_reducible first | refine tn ?_ | refine bn ?_)
        refine Safe.ret ?_
        repeat (first | with_reducible refine thenQ.r ?_ | with_reducible refine blockQ.r ?_)
        refine inQ.gen (vs := [V.bool ((decide (x_1306 ≥ 0)) && (decide (x_1306 ≤ 1099511627776)))]) (v := V.bool ((decide (x_1306 ≥ 0)) && (decide (x_1306 ≤ 1099511627776)))) (.inr rfl) rfl (.tmp (v := V.bool ((decide (x_1306 ≥ 0)) && (decide (x_1306 ≤ 1099511627776)))) rfl .nil) rfl ?_
        exact SafeOps.got (HJ1315 (9) h) (.cov ⟨rfl, rfl, (ut upT_nil), (uo (uo (uo upOb_nil))), (upOut_cons rfl (ut (ut upT_nil)) (upOut_cons rfl (ut (ut upT_nil)) upOut_nil)), rfl⟩)
       ·skip
        refine Safe.condN rfl hc1321 ?_
        repeat (first | refine sq ?_ | refine sk ?_ | with_reducible first | refine tn ?_ | refine bn ?_)
        refine Safe.region ?_
        refine Qf E_good ?_
        refine Qf E_good ?_
        refine SafeOps.nil ?_
        repeat (first | refine sq ?_ | refine sk ?_ | with_reducible first | refine tn ?_ | refine bn ?_)
        refine Safe.ret ?_
        repeat (first | with_reducible refine thenQ.r ?_ | with_reducible refine blockQ.r ?_)
        refine inQ.gen (vs := [V.bool ((decide (x_1306 ≥ 0)) && (decide (x_1306 ≤ 1099511627776)))]) (v := V.bool ((decide (x_1306 ≥ 0)) && (decide (x_1306 ≤ 1099511627776)))) (.inr rfl) rfl (.tmp (v := V.bool ((decide (x_1306 ≥ 0)) && (decide (x_1306 ≤ 1099511627776)))) rfl .nil) rfl ?_
        exact SafeOps.got (HJ1315 (v3110_1310) h) (.cov ⟨rfl, rfl, (ut upT_nil), (uo (uo (uo upOb_nil))), (upOut_cons rfl (ut (ut upT_nil)) (upOut_cons rfl (ut (ut upT_nil)) upOut_nil)), rfl⟩)
     ·skip
      refine SafeOps.inline E_good rfl rfl rfl rfl rfl Try.func54 rfl (fun _ _ => Try.call54 _ _) rfl ?_
      repeat (first | refine sq ?_ | refine sk ?_ | with_reducible first | refine tn ?_ | refine bn ?_)
      refine Safe.region ?_
      refine Qf E_good ?_
      refine SafeOps.nil ?_
      repeat (first | refine sq ?_ | refine sk ?_ | with_reducible first | refine tn ?_ | refine bn ?_)
      refine Safe.region ?_
      refine Qf E_good ?_
      refine Q0 E_good rfl (v := V.bool (!(x_1307 == 0))) (.fn rfl) ?_
      refine SafeOps.nil ?_
      repeat (first | refine sq ?_ | refine sk ?_ | with_reducible first | refine tn ?_ | refine bn ?_)
      refine ifG h (fun hc1322 h => ?_) (fun hc1322 h => ?_)
      ·skip
       refine Safe.condK rfl hc1322 ?_
       repeat (first | refine sq ?_ | refine sk ?_ | with_reducible first | refine tn ?_ | refine bn ?_)
       refine Safe.region ?_
       refine Qf E_good ?_
       refine Q0 E_good rfl (v := V.ptr [31] 0 0) (.fn rfl) ?_
       refine Q0 E_good rfl (v := V.ptr [31] 0 10) (.fn rfl) ?_
       refine SafeOps.store (z := Obj.box [V.int .i64 a2_64.Kind, V.int .i64 a2_64.Pc, V.int .i64 a2_64.V, V.int .i64 a2_64.T, V.int .i64 a2_64.B, V.bool a2_64.Won, V.int .i64 a2_64.State, V.ref [28] 0 (rws (fun n => [V.int .i64 n]) ([] ++ a0_62)).length, V.int .i64 a1_63.Base, V.int .i64 a1_63.Cap, V.int .i64 9]) E_good rfl rfl rfl rfl rfl rfl rfl (.boxM (c := 11) rfl rfl (Nat.le_of_ble_eq_true rfl) rfl) ?_
       refine SafeOps.nil ?_
       repeat (first | refine sq ?_ | refine sk ?_ | with_reducible first | refine tn ?_ | refine bn ?_)
       refine Safe.region ?_
       refine Qf E_good ?_
       refine Qf E_good ?_
       refine SafeOps.nil ?_
       repeat (first | refine sq ?_ | refine sk ?_ | with_reducible first | refine tn ?_ | refine bn ?_)
       refine Safe.ret ?_
       repeat (first | with_reducible refine thenQ.r ?_ | with_reducible refine blockQ.r ?_)
       refine inQ.gen (vs := [V.bool (x_1307 == 0)]) (v := V.bool (x_1307 == 0)) (.inr rfl) rfl (.tmp (v := V.bool (x_1307 == 0)) rfl .nil) rfl ?_
       exact SafeOps.got (HJ1311 (9) h) (.cov ⟨rfl, rfl, (ut upT_nil), (uo (uo (uo upOb_nil))), (upOut_cons rfl (ut (ut upT_nil)) (upOut_cons rfl (ut (ut upT_nil)) (upOut_cons rfl (ut (ut upT_nil)) upOut_nil))), rfl⟩)
      ·skip
       refine Safe.condN rfl hc1322 ?_
       repeat (first | refine sq ?_ | refine sk ?_ | with_reducible first | refine tn ?_ | refine bn ?_)
       refine Safe.region ?_
       refine Qf E_good ?_
       refine Qf E_good ?_
       refine SafeOps.nil ?_
       repeat (first | refine sq ?_ | refine sk ?_ | with_reducible first | refine tn ?_ | refine bn ?_)
       refine Safe.ret ?_
       repeat (first | with_reducible refine thenQ.r ?_ | with_reducible refine blockQ.r ?_)
       refine inQ.gen (vs := [V.bool (x_1307 == 0)]) (v := V.bool (x_1307 == 0)) (.inr rfl) rfl (.tmp (v := V.bool (x_1307 == 0)) rfl .nil) rfl ?_
       exact SafeOps.got (HJ1311 (0) h) (.cov ⟨rfl, rfl, (ut upT_nil), (uo (uo (uo upOb_nil))), (upOut_cons rfl (ut (ut upT_nil)) (upOut_cons rfl (ut (ut upT_nil)) (upOut_cons rfl (ut (ut upT_nil)) upOut_nil))), rfl⟩)
    refine ifP_G h (fun hq1323 h => ?_) (fun _ h => ?_)
    ·skip
     refine SafeOps.see 38 (u := V.fn 39 []) rfl (up_fn hq1323) ?_
     refine SafeOps.inline E_good rfl rfl rfl rfl rfl Try.func39 rfl (fun _ _ => Try.call39 _ _) rfl ?_
     repeat (first | refine sq ?_ | refine sk ?_ | with_reducible first | refine tn ?_ | refine bn ?_)
     refine Safe.region ?_
     refine Qf E_good ?_
     refine Qf E_good ?_
     refine Q0 E_good rfl (v := V.ptr [31] 0 0) (.fn rfl) ?_
     refine Q0 E_good rfl (v := V.ptr [31] 0 0) (.fn rfl) ?_
     refine Q0 E_good rfl (v := V.ptr [31] 0 4) (.fn rfl) ?_
     refine Q0 E_good rfl (v := V.int .i64 a2_64.B) (.load rfl rfl (.box rfl rfl) rfl) ?_
     refine Q0 E_good rfl (v := V.bool (decide (a2_64.B ≥ 0))) (.fn rfl) ?_
     refine SafeOps.joinT 1 (fun (v3110_1325 : Int) => go_ring_Step_j95 a0_62 a1_63 a2_64 v3110_1325 = some r) (fun (v3110_1325 : Int) => ⟨Try.f39.ntmps, [(0, V.ptr [31] 0 0), (9, V.bool (decide (a2_64.B ≥ 0)))], [([7], Obj.box [V.int .i64 0, V.int .i64 0, V.int .i64 0, V.int .i64 0, V.int .i64 0, V.bool false, V.int .i64 0]), ([28], Obj.rows 1 (rws (fun n => [V.int .i64 n]) ([] ++ a0_62)) false), ([31], Obj.box [V.int .i64 a2_64.Kind, V.int .i64 a2_64.Pc, V.int .i64 a2_64.V, V.int .i64 a2_64.T, V.int .i64 a2_64.B, V.bool a2_64.Won, V.int .i64 a2_64.State, V.ref [28] 0 (rws (fun n => [V.int .i64 n]) ([] ++ a0_62)).length, V.int .i64 a1_63.Base, V.int .i64 a1_63.Cap, V.int .i64 v3110_1325])], [(Try.f8.ntmps, [(7, V.ptr [7] 0 0), (9, V.ptr [31] 0 0)])], [40]⟩) ?_ (fun HJ1326 => ?_)
     ·intro v3110_1325 h
      replace h : go_ring_Step_j95 a0_62 a1_63 a2_64 v3110_1325 = some r := h
      rw [go_ring_Step_j95] at h
      refine SafeOps.nil ?_
      repeat (first | refine sq ?_ | refine sk ?_ | with_reducible first | refine tn ?_ | refine bn ?_)
      refine Safe.joinT (fun ((v317_1339, v3110_1340) : (List Int) × Int) => go_ring_Step_j98 a2_64 v317_1339 v3110_1340 = some r) (fun ((v317_1339, v3110_1340) : (List Int) × Int) => ⟨Try.f39.ntmps, [(0, V.ptr [31] 0 0)], [([7], Obj.box [V.int .i64 0, V.int .i64 0, V.int .i64 0, V.int .i64 0, V.int .i64 0, V.bool false, V.int .i64 0]), ([31], Obj.box [V.int .i64 a2_64.Kind, V.int .i64 a2_64.Pc, V.int .i64 a2_64.V, V.int .i64 a2_64.T, V.int .i64 a2_64.B, V.bool a2_64.Won, V.int .i64 a2_64.State, V.ref [7000, 114, 31, 7] 0 (rws (fun n => [V.int .i64 n]) v317_1339).length, V.int .i64 a1_63.Base, V.int .i64 a1_63.Cap, V.int .i64 v3110_1340]), ([7000, 114, 31, 7], Obj.rows 1 (rws (fun n => [V.int .i64 n]) v317_1339) false)], [(Try.f8.ntmps, [(7, V.ptr [7] 0 0), (9, V.ptr [31] 0 0)])], [40]⟩) ?_ (fun HJ1341 => ?_)
      ·rintro ⟨v317_1339, v3110_1340⟩ h
       replace h : go_ring_Step_j98 a2_64 v317_1339 v3110_1340 = some r := h
       rw [go_ring_Step_j98] at h
       repeat (first | refine sq ?_ | refine sk ?_ | with_reducible first | refine tn ?_ | refine bn ?_)
       refine Safe.region ?_
       refine Qf E_good ?_
       refine Q0 E_good rfl (v := V.ptr [31] 0 0) (.fn rfl) ?_
       refine Q0 E_good rfl (v := V.ptr [31] 0 0) (.fn rfl) ?_
       refine Q0 E_good rfl (v := V.ptr [31] 0 1) (.fn rfl) ?_
       refine Q0 E_good rfl (v := V.int .i64 a2_64.Pc) (.load rfl rfl (.box rfl rfl) rfl) ?_
       refine Q0 E_good rfl (v := V.int .i64 (IntKind.i64.wrap (a2_64.Pc + 1))) (.fn rfl) ?_
       refine Q0 E_good rfl (v := V.ptr [31] 0 0) (.fn rfl) ?_
       refine Q0 E_good rfl (v := V.ptr [31] 0 0) (.fn rfl) ?_
       refine Q0 E_good rfl (v := V.ptr [31] 0 1) (.fn rfl) ?_
       refine SafeOps.store (z := Obj.box [V.int .i64 a2_64.Kind, V.int .i64 (IntKind.i64.wrap (a2_64.Pc + 1)), V.int .i64 a2_64.V, V.int .i64 a2_64.T, V.int .i64 a2_64.B, V.bool a2_64.Won, V.int .i64 a2_64.State, V.ref [7000, 114, 31, 7] 0 (rws (fun n => [V.int .i64 n]) v317_1339).length, V.int .i64 a1_63.Base, V.int .i64 a1_63.Cap, V.int .i64 v3110_1340]) E_good rfl rfl rfl rfl rfl rfl rfl (.boxM (c := 11) rfl rfl (Nat.le_of_ble_eq_true rfl) rfl) ?_
       refine SafeOps.nil ?_
       repeat (first | refine sq ?_ | refine sk ?_ | with_reducible first | refine tn ?_ | refine bn ?_)
       repeat (first | with_reducible refine thenQ.r ?_ | with_reducible refine blockQ.r ?_)
       refine inQ.gen (vs := []) (v := V.tup []) (.inl rfl) rfl .nil rfl ?_
       exact SafeOps.got (HJ1246 (IntKind.i64.wrap (a2_64.Pc + 1), a2_64.V, a2_64.T, a2_64.B, a2_64.Won, a2_64.State, v317_1339, v3110_1340) h) (.cov ⟨rfl, rfl, (ut (ut upT_nil)), (uo (uo (uo upOb_nil))), upOut_nil, rfl⟩)
      ·skip
       refine ifG h (fun hc1342 h => ?_) (fun hc1342 h => ?_)
       ·skip
        refine Safe.condK rfl hc1342 ?_
        repeat (first | refine sq ?_ | refine sk ?_ | with_reducible first | refine tn ?_ | refine bn ?_)
        refine Safe.regionD (n := 14) [] [13] E_good mixed rfl ?_
        refine DT 0 [] rfl rfl (fun _ hz => (.fn rfl)) ?_
        refine DT 1 [] rfl rfl (fun _ hz => (.fn rfl)) ?_
        refine DT 2 [] rfl rfl (fun _ hz => (.fn rfl)) ?_
        refine DT 3 [] rfl rfl (v := V.ptr [31] 0 0) (fun _ hz => (.fn rfl)) ?_
        refine DT 4 [] rfl rfl (v := V.ptr [31] 0 0) (fun _ hz => (.fn rfl)) ?_
        refine DT 5 [] rfl rfl (v := V.ptr [31] 0 4) (fun _ hz => (.fn rfl)) ?_
        refine DT 6 [] rfl rfl (v := V.int .i64 a2_64.B) (fun _ hz => (.load rfl rfl (.box (hz _ _ rfl rfl) rfl) rfl)) ?_
        refine bindG h ?_
        intro x_1343 he1344 h
        refine DT 7 [] rfl rfl (v := V.int .i64 x_1343) (fun _ hz => (.callS rfl (.cons (.box (hz _ _ rfl rfl) (.cons (.free rfl) (.cons (.free rfl) (.cons (.free rfl) (.cons (.free rfl) (.cons (.free rfl) (.cons (.free rfl) (.cons (.free rfl) (.cons (.full (hz _ _ rfl rfl) rfl) (.cons (.free rfl) (.cons (.free rfl) (.cons (.free rfl) .nil)))))))))))) (.cons (.free rfl) .nil)) (go_pring_actor_slot_sc (ring_actor.mk a2_64 ([] ++ a0_62) a1_63 v3110_1325) a2_64.B _ he1344) (.plain rfl) rfl)) ?_
        refine DT 8 [] rfl rfl (fun _ hz => (.fn rfl)) ?_
        refine DT 9 [] rfl rfl (v := V.ptr [31] 0 0) (fun _ hz => (.fn rfl)) ?_
        refine DT 10 [] rfl rfl (v := V.ptr [31] 0 0) (fun _ hz => (.fn rfl)) ?_
        refine DT 11 [] rfl rfl (v := V.ptr [31] 0 2) (fun _ hz => (.fn rfl)) ?_
        refine DT 12 [] rfl rfl (v := V.int .i64 a2_64.V) (fun _ hz => (.load rfl rfl (.box (hz _ _ rfl rfl) rfl) rfl)) ?_
        refine DAny.onlyS (i := 13) rfl (by kernel_rfl) rfl ?_
        refine SafeOps.joinT 1 (fun ((v317_1352, v3110_1353) : (List Int) × Int) => go_ring_Step_j100 a2_64 v317_1352 v3110_1353 = some r) (fun ((v317_1352, v3110_1353) : (List Int) × Int) => ⟨Try.f39.ntmps, [(0, V.ptr [31] 0 0)], [([7], Obj.box [V.int .i64 0, V.int .i64 0, V.int .i64 0, V.int .i64 0, V.int .i64 0, V.bool false, V.int .i64 0]), ([31], Obj.box [V.int .i64 a2_64.Kind, V.int .i64 a2_64.Pc, V.int .i64 a2_64.V, V.int .i64 a2_64.T, V.int .i64 a2_64.B, V.bool a2_64.Won, V.int .i64 a2_64.State, V.ref [7000, 114, 31, 7] 0 (rws (fun n => [V.int .i64 n]) v317_1352).length, V.int .i64 a1_63.Base, V.int .i64 a1_63.Cap, V.int .i64 v3110_1353]), ([7000, 114, 31, 7], Obj.rows 1 (rws (fun n => [V.int .i64 n]) v317_1352) false)], [(Try.f8.ntmps, [(7, V.ptr [7] 0 0), (9, V.ptr [31] 0 0)])], [40]⟩) ?_ (fun HJ1354 => ?_)
        ·rintro ⟨v317_1352, v3110_1353⟩ h
         replace h : go_ring_Step_j100 a2_64 v317_1352 v3110_1353 = some r := h
         rw [go_ring_Step_j100] at h
         refine SafeOps.nil ⟨rfl, ?_⟩
         refine DAny.nil (by kernel_rfl) ?_
         repeat (first | refine Safe.skip ?_ | with_reducible refine thenQ.n ?_ | with_reducible refine blockQ.n ?_)
         exact Safe.got (HJ1341 (v317_1352, v3110_1353) h) (.cov ⟨rfl, rfl, (ut upT_nil), (uo (uo (uo upOb_nil))), (upOut_cons rfl (ut (ut upT_nil)) upOut_nil), rfl⟩)
        ·skip
         refine SafeOps.inline E_good rfl rfl rfl rfl rfl Try.func57 rfl (fun _ _ => Try.call57 _ _) rfl ?_
         repeat (first | refine sq ?_ | refine sk ?_ | with_reducible first | refine tn ?_ | refine bn ?_)
         refine Safe.region ?_
         refine Qf E_good ?_
         refine Q0 E_good rfl (v := V.ptr [31] 0 0) (.fn rfl) ?_
         refine Q0 E_good rfl (v := V.ptr [31] 0 7) (.fn rfl) ?_
         refine Q0 E_good rfl (v := V.ref [28] 0 (rws (fun n => [V.int .i64 n]) ([] ++ a0_62)).length) (.load rfl rfl (.box rfl rfl) rfl) ?_
         refine Qf E_good ?_
         refine Qf E_good ?_
         refine bindG h ?_
         rintro ⟨x_1355, x_1356⟩ he1357 h
         refine SafeOps.quiet E_good rfl rfl rfl (v := V.tup [V.ref [40, 23, 15, 0] 0 (rws (fun n => [V.int .i64 n]) x_1355).length, V.int .i64 x_1356]) (.callS rfl (.cons (.full rfl rfl) (.cons (.free rfl) (.cons (.free rfl) .nil))) (go_cell_Store_sc ([] ++ a0_62) x_1343 a2_64.V _ he1357) (.tupL (.cons (.ownM (fun _ => rfl)) (.cons (.plain rfl) .nil))) rfl) rfl ?_
         refine Qf E_good ?_
         refine Qf E_good ?_
         refine Qf E_good ?_
         refine Qf E_good ?_
         refine Qf E_good ?_
         refine SafeOps.nil ?_
         repeat (first | refine sq ?_ | refine sk ?_ | with_reducible first | refine tn ?_ | refine bn ?_)
         refine Safe.region ?_
         refine Qf E_good ?_
         refine Qf E_good ?_
         refine Q0 E_good rfl (v := V.bool (x_1356 == 0)) (.fn rfl) ?_
         refine SafeOps.joinT 1 (fun (v3110_1359 : Int) => go_ring_Step_j101 a0_62 a2_64 x_1355 x_1356 v3110_1359 = some r) (fun (v3110_1359 : Int) => ⟨Try.f57.ntmps, [(0, V.ptr [31] 0 0), (6, V.ref [40, 23, 15, 0] 0 (rws (fun n => [V.int .i64 n]) x_1355).length), (21, V.bool (x_1356 == 0))], [([7], Obj.box [V.int .i64 0, V.int .i64 0, V.int .i64 0, V.int .i64 0, V.int .i64 0, V.bool false, V.int .i64 0]), ([28], Obj.rows 1 (rws (fun n => [V.int .i64 n]) ([] ++ a0_62)) false), ([31], Obj.box [V.int .i64 a2_64.Kind, V.int .i64 a2_64.Pc, V.int .i64 a2_64.V, V.int .i64 a2_64.T, V.int .i64 a2_64.B, V.bool a2_64.Won, V.int .i64 a2_64.State, V.ref [28] 0 (rws (fun n => [V.int .i64 n]) ([] ++ a0_62)).length, V.int .i64 a1_63.Base, V.int .i64 a1_63.Cap, V.int .i64 v3110_1359]), ([40, 23, 15, 0], Obj.rows 1 (rws (fun n => [V.int .i64 n]) x_1355) false)], [(Try.f39.ntmps, [(0, V.ptr [31] 0 0)]), (Try.f8.ntmps, [(7, V.ptr [7] 0 0), (9, V.ptr [31] 0 0)])], [40, 23]⟩) ?_ (fun HJ1360 => ?_)
         ·intro v3110_1359 h
          replace h : go_ring_Step_j101 a0_62 a2_64 x_1355 x_1356 v3110_1359 = some r := h
          rw [go_ring_Step_j101] at h
          refine SafeOps.nil ?_
          repeat (first | refine sq ?_ | refine sk ?_ | with_reducible first | refine tn ?_ | refine bn ?_)
          refine ifG h (fun hc1361 h => ?_) (fun hc1361 h => ?_)
          ·skip
           refine Safe.condK rfl hc1361 ?_
           repeat (first | refine sq ?_ | refine sk ?_ | with_reducible first | refine tn ?_ | refine bn ?_)
           refine Safe.region ?_
           refine Qf E_good ?_
           refine Qf E_good ?_
           refine Q0 E_good rfl (v := V.ptr [31] 0 0) (.fn rfl) ?_
           refine Q0 E_good rfl (v := V.ptr [31] 0 7) (.fn rfl) ?_
           refine SafeOps.store (z := Obj.box [V.int .i64 a2_64.Kind, V.int .i64 a2_64.Pc, V.int .i64 a2_64.V, V.int .i64 a2_64.T, V.int .i64 a2_64.B, V.bool a2_64.Won, V.int .i64 a2_64.State, V.ref [40, 23, 15, 0] 0 (rws (fun n => [V.int .i64 n]) x_1355).length, V.int .i64 a1_63.Base, V.int .i64 a1_63.Cap, V.int .i64 v3110_1359]) E_good rfl rfl rfl rfl rfl rfl rfl (.boxM (c := 11) rfl rfl (Nat.le_of_ble_eq_true rfl) rfl) ?_
           refine SafeOps.nil ?_
           repeat (first | refine sq ?_ | refine sk ?_ | with_reducible first | refine tn ?_ | refine bn ?_)
           repeat (first | with_reducible refine thenQ.r ?_ | with_reducible refine blockQ.r ?_)
           refine inQ.gen (vs := []) (v := V.tup []) (.inl rfl) rfl .nil rfl ?_
           exact SafeOps.got (HJ1354 (x_1355, v3110_1359) h) (.ren [40, 23, 15, 0] [7000, 114, 31, 7] (.cov ⟨rfl, rfl, (ut upT_nil), (uo (uo (uo upOb_nil))), (upOut_cons rfl (ut (ut upT_nil)) upOut_nil), rfl⟩))
          ·skip
           refine Safe.condN rfl hc1361 ?_
           repeat (first | refine sq ?_ | refine sk ?_ | with_reducible first | refine tn ?_ | refine bn ?_)
           repeat (first | with_reducible refine thenQ.r ?_ | with_reducible refine blockQ.r ?_)
           refine inQ.gen (vs := []) (v := V.tup []) (.inl rfl) rfl .nil rfl ?_
           exact SafeOps.got (HJ1354 ([] ++ a0_62, v3110_1359) h) (.ren [28] [7000, 114, 31, 7] (.cov ⟨rfl, rfl, (ut upT_nil), (uo (uo (uo upOb_nil))), (upOut_cons rfl (ut (ut upT_nil)) upOut_nil), rfl⟩))
         ·skip
          refine SafeOps.inline E_good rfl rfl rfl rfl rfl Try.func54 rfl (fun _ _ => Try.call54 _ _) rfl ?_
          repeat (first | refine sq ?_ | refine sk ?_ | with_reducible first | refine tn ?_ | refine bn ?_)
          refine Safe.region ?_
          refine Qf E_good ?_
          refine SafeOps.nil ?_
          repeat (first | refine sq ?_ | refine sk ?_ | with_reducible first | refine tn ?_ | refine bn ?_)
          refine Safe.region ?_
          refine Qf E_good ?_
          refine Q0 E_good rfl (v := V.bool (!(x_1356 == 0))) (.fn rfl) ?_
          refine SafeOps.nil ?_
          repeat (first | refine sq ?_ | refine sk ?_ | with_reducible first | refine tn ?_ | refine bn ?_)
          refine ifG h (fun hc1362 h => ?_) (fun hc1362 h => ?_)
          ·skip
           refine Safe.condK rfl hc1362 ?_
           repeat (first | refine sq ?_ | refine sk ?_ | with_reducible first | refine tn ?_ | refine bn ?_)
           refine Safe.region ?_
           refine Qf E_good ?_
           refine Q0 E_good rfl (v := V.ptr [31] 0 0) (.fn rfl) ?_
           refine Q0 E_good rfl (v := V.ptr [31] 0 10) (.fn rfl) ?_
           refine SafeOps.store (z := Obj.box [V.int .i64 a2_64.Kind, V.int .i64 a2_64.Pc, V.int .i64 a2_64.V, V.int .i64 a2_64.T, V.int .i64 a2_64.B, V.bool a2_64.Won, V.int .i64 a2_64.State, V.ref [28] 0 (rws (fun n => [V.int .i64 n]) ([] ++ a0_62)).length, V.int .i64 a1_63.Base, V.int .i64 a1_63.Cap, V.int .i64 9]) E_good rfl rfl rfl rfl rfl rfl rfl (.boxM (c := 11) rfl rfl (Nat.le_of_ble_eq_true rfl) rfl) ?_
           refine SafeOps.nil ?_
           repeat (first | refine sq ?_ | refine sk ?_ | with_reducible first | refine tn ?_ | refine bn ?_)
           refine Safe.region ?_
           refine Qf E_good ?_
           refine Qf E_good ?_
           refine SafeOps.nil ?_
           repeat (first | refine sq ?_ | refine sk ?_ | with_reducible first | refine tn ?_ | refine bn ?_)
           refine Safe.ret ?_
           repeat (first | with_reducible refine thenQ.r ?_ | with_reducible refine blockQ.r ?_)
           refine inQ.gen (vs := [V.bool (x_1356 == 0)]) (v := V.bool (x_1356 == 0)) (.inr rfl) rfl (.tmp (v := V.bool (x_1356 == 0)) rfl .nil) rfl ?_
           exact SafeOps.got (HJ1360 (9) h) (.cov ⟨rfl, rfl, (ut (ut (ut upT_nil))), (uo (uo (uo (uo upOb_nil)))), (upOut_cons rfl (ut upT_nil) (upOut_cons rfl (ut (ut upT_nil)) upOut_nil)), rfl⟩)
          ·skip
           refine Safe.condN rfl hc1362 ?_
           repeat (first | refine sq ?_ | refine sk ?_ | with_reducible first | refine tn ?_ | refine bn ?_)
           refine Safe.region ?_
           refine Qf E_good ?_
           refine Qf E_good ?_
           refine SafeOps.nil ?_
           repeat (first | refine sq ?_ | refine sk ?_ | with_reducible first | refine tn ?_ | refine bn ?_)
           refine Safe.ret ?_
           repeat (first | with_reducible refine thenQ.r ?_ | with_reducible refine blockQ.r ?_)
           refine inQ.gen (vs := [V.bool (x_1356 == 0)]) (v := V.bool (x_1356 == 0)) (.inr rfl) rfl (.tmp (v := V.bool (x_1356 == 0)) rfl .nil) rfl ?_
           exact SafeOps.got (HJ1360 (v3110_1325) h) (.cov ⟨rfl, rfl, (ut (ut (ut upT_nil))), (uo (uo (uo (uo upOb_nil)))), (upOut_cons rfl (ut upT_nil) (upOut_cons rfl (ut (ut upT_nil)) upOut_nil)), rfl⟩)
       ·skip
        refine Safe.condN rfl hc1342 ?_
        repeat (first | refine Safe.skip ?_ | with_reducible refine thenQ.n ?_ | with_reducible refine blockQ.n ?_)
        exact Safe.got (HJ1341 ([] ++ a0_62, v3110_1325) h) (.ren [28] [7000, 114, 31, 7] (.cov ⟨rfl, rfl, (ut upT_nil), (uo (uo (uo upOb_nil))), (upOut_cons rfl (ut (ut upT_nil)) upOut_nil), rfl⟩))
     ·skip
      refine SafeOps.inline E_good rfl rfl rfl rfl rfl Try.func54 rfl (fun _ _ => Try.call54 _ _) rfl ?_
      repeat (first | refine sq ?_ | refine sk ?_ | with_reducible first | refine tn ?_ | refine bn ?_)
      refine Safe.region ?_
      refine Qf E_good ?_
      refine SafeOps.nil ?_
      repeat (first | refine sq ?_ | refine sk ?_ | with_reducible first | refine tn ?_ | refine bn ?_)
      refine Safe.region ?_
      refine Qf E_good ?_
      refine Q0 E_good rfl (v := V.bool (!(decide (a2_64.B ≥ 0)))) (.fn rfl) ?_
      refine SafeOps.nil ?_
      repeat (first | refine sq ?_ | refine sk ?_ | with_reducible first | refine tn ?_ | refine bn ?_)
      refine ifG h (fun hc1363 h => ?_) (fun hc1363 h => ?_)
      ·skip
       refine Safe.condK rfl hc1363 ?_
       repeat (first | refine sq ?_ | refine sk ?_ | with_reducible first | refine tn ?_ | refine bn ?_)
       refine Safe.region ?_
       refine Qf E_good ?_
       refine Q0 E_good rfl (v := V.ptr [31] 0 0) (.fn rfl) ?_
       refine Q0 E_good rfl (v := V.ptr [31] 0 10) (.fn rfl) ?_
       refine SafeOps.store (z := Obj.box [V.int .i64 a2_64.Kind, V.int .i64 a2_64.Pc, V.int .i64 a2_64.V, V.int .i64 a2_64.T, V.int .i64 a2_64.B, V.bool a2_64.Won, V.int .i64 a2_64.State, V.ref [28] 0 (rws (fun n => [V.int .i64 n]) ([] ++ a0_62)).length, V.int .i64 a1_63.Base, V.int .i64 a1_63.Cap, V.int .i64 9]) E_good rfl rfl rfl rfl rfl rfl rfl (.boxM (c := 11) rfl rfl (Nat.le_of_ble_eq_true rfl) rfl) ?_
       refine SafeOps.nil ?_
       repeat (first | refine sq ?_ | refine sk ?_ | with_reducible first | refine tn ?_ | refine bn ?_)
       refine Safe.region ?_
       refine Qf E_good ?_
       refine Qf E_good ?_
       refine SafeOps.nil ?_
       repeat (first | refine sq ?_ | refine sk ?_ | with_reducible first | refine tn ?_ | refine bn ?_)
       refine Safe.ret ?_
       repeat (first | with_reducible refine thenQ.r ?_ | with_reducible refine blockQ.r ?_)
       refine inQ.gen (vs := [V.bool (decide (a2_64.B ≥ 0))]) (v := V.bool (decide (a2_64.B ≥ 0))) (.inr rfl) rfl (.tmp (v := V.bool (decide (a2_64.B ≥ 0))) rfl .nil) rfl ?_
       exact SafeOps.got (HJ1326 (9) h) (.cov ⟨rfl, rfl, (ut (ut upT_nil)), (uo (uo (uo upOb_nil))), (upOut_cons rfl (ut (ut upT_nil)) upOut_nil), rfl⟩)
      ·skip
       refine Safe.condN rfl hc1363 ?_
       repeat (first | refine sq ?_ | refine sk ?_ | with_reducible first | refine tn ?_ | refine bn ?_)
       refine Safe.region ?_
       refine Qf E_good ?_
       refine Qf E_good ?_
       refine SafeOps.nil ?_
       repeat (first | refine sq ?_ | refine sk ?_ | with_reducible first | refine tn ?_ | refine bn ?_)
       refine Safe.ret ?_
       repeat (first | with_reducible refine thenQ.r ?_ | with_reducible refine blockQ.r ?_)
       refine inQ.gen (vs := [V.bool (decide (a2_64.B ≥ 0))]) (v := V.bool (decide (a2_64.B ≥ 0))) (.inr rfl) rfl (.tmp (v := V.bool (decide (a2_64.B ≥ 0))) rfl .nil) rfl ?_
       exact SafeOps.got (HJ1326 (0) h) (.cov ⟨rfl, rfl, (ut (ut upT_nil)), (uo (uo (uo upOb_nil))), (upOut_cons rfl (ut (ut upT_nil)) upOut_nil), rfl⟩)
    refine ifP_G h (fun hq1364 h => ?_) (fun _ h => ?_)
    ·skip
     refine SafeOps.see 38 (u := V.fn 40 []) rfl (up_fn hq1364) ?_
     refine SafeOps.inline E_good rfl rfl rfl rfl rfl Try.func40 rfl (fun _ _ => Try.call40 _ _) rfl ?_
     repeat (first | refine sq ?_ | refine sk ?_ | with_reducible first | refine tn ?_ | refine bn ?_)
     refine Safe.region ?_
     refine Qf E_good ?_
     refine Qf E_good ?_
     refine Q0 E_good rfl (v := V.ptr [31] 0 0) (.fn rfl) ?_
     refine Q0 E_good rfl (v := V.ptr [31] 0 0) (.fn rfl) ?_
     refine Q0 E_good rfl (v := V.ptr [31] 0 4) (.fn rfl) ?_
     refine Q0 E_good rfl (v := V.int .i64 a2_64.B) (.load rfl rfl (.box rfl rfl) rfl) ?_
     refine Q0 E_good rfl (v := V.bool (decide (a2_64.B ≥ 0))) (.fn rfl) ?_
     refine SafeOps.joinT 1 (fun (v3110_1366 : Int) => go_ring_Step_j102 a0_62 a1_63 a2_64 v3110_1366 = some r) (fun (v3110_1366 : Int) => ⟨Try.f40.ntmps, [(0, V.ptr [31] 0 0), (9, V.bool (decide (a2_64.B ≥ 0)))], [([7], Obj.box [V.int .i64 0, V.int .i64 0, V.int .i64 0, V.int .i64 0, V.int .i64 0, V.bool false, V.int .i64 0]), ([28], Obj.rows 1 (rws (fun n => [V.int .i64 n]) ([] ++ a0_62)) false), ([31], Obj.box [V.int .i64 a2_64.Kind, V.int .i64 a2_64.Pc, V.int .i64 a2_64.V, V.int .i64 a2_64.T, V.int .i64 a2_64.B, V.bool a2_64.Won, V.int .i64 a2_64.State, V.ref [28] 0 (rws (fun n => [V.int .i64 n]) ([] ++ a0_62)).length, V.int .i64 a1_63.Base, V.int .i64 a1_63.Cap, V.int .i64 v3110_1366])], [(Try.f8.ntmps, [(7, V.ptr [7] 0 0), (9, V.ptr [31] 0 0)])], [40]⟩) ?_ (fun HJ1367 => ?_)
     ·intro v3110_1366 h
      replace h : go_ring_Step_j102 a0_62 a1_63 a2_64 v3110_1366 = some r := h
      rw [go_ring_Step_j102] at h
      refine SafeOps.nil ?_
      repeat (first | refine sq ?_ | refine sk ?_ | with_reducible first | refine tn ?_ | refine bn ?_)
      refine Safe.joinT (fun ((v317_1378, v3110_1379) : (List Int) × Int) => go_ring_Step_j105 a2_64 v317_1378 v3110_1379 = some r) (fun ((v317_1378, v3110_1379) : (List Int) × Int) => ⟨Try.f40.ntmps, [(0, V.ptr [31] 0 0)], [([7], Obj.box [V.int .i64 0, V.int .i64 0, V.int .i64 0, V.int .i64 0, V.int .i64 0, V.bool false, V.int .i64 0]), ([31], Obj.box [V.int .i64 a2_64.Kind, V.int .i64 a2_64.Pc, V.int .i64 a2_64.V, V.int .i64 a2_64.T, V.int .i64 a2_64.B, V.bool a2_64.Won, V.int .i64 a2_64.State, V.ref [7000, 114, 31, 7] 0 (rws (fun n => [V.int .i64 n]) v317_1378).length, V.int .i64 a1_63.Base, V.int .i64 a1_63.Cap, V.int .i64 v3110_1379]), ([7000, 114, 31, 7], Obj.rows 1 (rws (fun n => [V.int .i64 n]) v317_1378) false)], [(Try.f8.ntmps, [(7, V.ptr [7] 0 0), (9, V.ptr [31] 0 0)])], [40]⟩) ?_ (fun HJ1380 => ?_)
      ·rintro ⟨v317_1378, v3110_1379⟩ h
       replace h : go_ring_Step_j105 a2_64 v317_1378 v3110_1379 = some r := h
       rw [go_ring_Step_j105] at h
       repeat (first | refine sq ?_ | refine sk ?_ | with_reducible first | refine tn ?_ | refine bn ?_)
       refine Safe.region ?_
       refine Qf E_good ?_
       refine Q0 E_good rfl (v := V.ptr [31] 0 0) (.fn rfl) ?_
       refine Q0 E_good rfl (v := V.ptr [31] 0 0) (.fn rfl) ?_
       refine Q0 E_good rfl (v := V.ptr [31] 0 6) (.fn rfl) ?_
       refine SafeOps.store (z := Obj.box [V.int .i64 a2_64.Kind, V.int .i64 a2_64.Pc, V.int .i64 a2_64.V, V.int .i64 a2_64.T, V.int .i64 a2_64.B, V.bool a2_64.Won, V.int .i64 1, V.ref [7000, 114, 31, 7] 0 (rws (fun n => [V.int .i64 n]) v317_1378).length, V.int .i64 a1_63.Base, V.int .i64 a1_63.Cap, V.int .i64 v3110_1379]) E_good rfl rfl rfl rfl rfl rfl rfl (.boxM (c := 11) rfl rfl (Nat.le_of_ble_eq_true rfl) rfl) ?_
       refine SafeOps.nil ?_
       repeat (first | refine sq ?_ | refine sk ?_ | with_reducible first | refine tn ?_ | refine bn ?_)
       repeat (first | with_reducible refine thenQ.r ?_ | with_reducible refine blockQ.r ?_)
       refine inQ.gen (vs := []) (v := V.tup []) (.inl rfl) rfl .nil rfl ?_
       exact SafeOps.got (HJ1246 (a2_64.Pc, a2_64.V, a2_64.T, a2_64.B, a2_64.Won, 1, v317_1378, v3110_1379) h) (.cov ⟨rfl, rfl, (ut (ut upT_nil)), (uo (uo (uo upOb_nil))), upOut_nil, rfl⟩)
      ·skip
       refine ifG h (fun hc1381 h => ?_) (fun hc1381 h => ?_)
       ·skip
        refine Safe.condK rfl hc1381 ?_
        repeat (first | refine sq ?_ | refine sk ?_ | with_reducible first | refine tn ?_ | refine bn ?_)
        refine Safe.regionD (n := 10) [] [9] E_good mixed rfl ?_
        refine DT 0 [] rfl rfl (fun _ hz => (.fn rfl)) ?_
        refine DT 1 [] rfl rfl (fun _ hz => (.fn rfl)) ?_
        refine DT 2 [] rfl rfl (v := V.int .i64 (go_pring_actor_bottom (ring_actor.mk a2_64 ([] ++ a0_62) a1_63 v3110_1366))) (fun _ hz => (.callS rfl (.cons (.box (hz _ _ rfl rfl) (.cons (.free rfl) (.cons (.free rfl) (.cons (.free rfl) (.cons (.free rfl) (.cons (.free rfl) (.cons (.free rfl) (.cons (.free rfl) (.cons (.full (hz _ _ rfl rfl) rfl) (.cons (.free rfl) (.cons (.free rfl) (.cons (.free rfl) .nil)))))))))))) .nil) (go_pring_actor_bottom_sc (ring_actor.mk a2_64 ([] ++ a0_62) a1_63 v3110_1366) _ rfl) (.plain rfl) rfl)) ?_
        refine DT 3 [] rfl rfl (fun _ hz => (.fn rfl)) ?_
        refine DT 4 [] rfl rfl (v := V.ptr [31] 0 0) (fun _ hz => (.fn rfl)) ?_
        refine DT 5 [] rfl rfl (v := V.ptr [31] 0 0) (fun _ hz => (.fn rfl)) ?_
        refine DT 6 [] rfl rfl (v := V.ptr [31] 0 4) (fun _ hz => (.fn rfl)) ?_
        refine DT 7 [] rfl rfl (v := V.int .i64 a2_64.B) (fun _ hz => (.load rfl rfl (.box (hz _ _ rfl rfl) rfl) rfl)) ?_
        refine DT 8 [] rfl rfl (v := V.int .i64 (IntKind.i64.wrap (a2_64.B + 1))) (fun _ hz => (.fn rfl)) ?_
        refine DAny.onlyS (i := 9) rfl (by kernel_rfl) rfl ?_
        refine SafeOps.joinT 1 (fun ((v317_1389, v3110_1390) : (List Int) × Int) => go_ring_Step_j107 a2_64 v317_1389 v3110_1390 = some r) (fun ((v317_1389, v3110_1390) : (List Int) × Int) => ⟨Try.f40.ntmps, [(0, V.ptr [31] 0 0)], [([7], Obj.box [V.int .i64 0, V.int .i64 0, V.int .i64 0, V.int .i64 0, V.int .i64 0, V.bool false, V.int .i64 0]), ([31], Obj.box [V.int .i64 a2_64.Kind, V.int .i64 a2_64.Pc, V.int .i64 a2_64.V, V.int .i64 a2_64.T, V.int .i64 a2_64.B, V.bool a2_64.Won, V.int .i64 a2_64.State, V.ref [7000, 114, 31, 7] 0 (rws (fun n => [V.int .i64 n]) v317_1389).length, V.int .i64 a1_63.Base, V.int .i64 a1_63.Cap, V.int .i64 v3110_1390]), ([7000, 114, 31, 7], Obj.rows 1 (rws (fun n => [V.int .i64 n]) v317_1389) false)], [(Try.f8.ntmps, [(7, V.ptr [7] 0 0), (9, V.ptr [31] 0 0)])], [40]⟩) ?_ (fun HJ1391 => ?_)
        ·rintro ⟨v317_1389, v3110_1390⟩ h
         replace h : go_ring_Step_j107 a2_64 v317_1389 v3110_1390 = some r := h
         rw [go_ring_Step_j107] at h
         refine SafeOps.nil ⟨rfl, ?_⟩
         refine DAny.nil (by kernel_rfl) ?_
         repeat (first | refine Safe.skip ?_ | with_reducible refine thenQ.n ?_ | with_reducible refine blockQ.n ?_)
         exact Safe.got (HJ1380 (v317_1389, v3110_1390) h) (.cov ⟨rfl, rfl, (ut upT_nil), (uo (uo (uo upOb_nil))), (upOut_cons rfl (ut (ut upT_nil)) upOut_nil), rfl⟩)
        ·skip
         refine SafeOps.inline E_good rfl rfl rfl rfl rfl Try.func57 rfl (fun _ _ => Try.call57 _ _) rfl ?_
         repeat (first | refine sq ?_ | refine sk ?_ | with_reducible first | refine tn ?_ | refine bn ?_)
         refine Safe.region ?_
         refine Qf E_good ?_
         refine Q0 E_good rfl (v := V.ptr [31] 0 0) (.fn rfl) ?_
         refine Q0 E_good rfl (v := V.ptr [31] 0 7) (.fn rfl) ?_
         refine Q0 E_good rfl (v := V.ref [28] 0 (rws (fun n => [V.int .i64 n]) ([] ++ a0_62)).length) (.load rfl rfl (.box rfl rfl) rfl) ?_
         refine Qf E_good ?_
         refine Qf E_good ?_
         refine bindG h ?_
         rintro ⟨x_1392, x_1393⟩ he1394 h
         refine SafeOps.quiet E_good rfl rfl rfl (v := V.tup [V.ref [40, 19, 15, 0] 0 (rws (fun n => [V.int .i64 n]) x_1392).length, V.int .i64 x_1393]) (.callS rfl (.cons (.full rfl rfl) (.cons (.free rfl) (.cons (.free rfl) .nil))) (go_cell_Store_sc ([] ++ a0_62) (go_pring_actor_bottom (ring_actor.mk a2_64 ([] ++ a0_62) a1_63 v3110_1366)) (IntKind.i64.wrap (a2_64.B + 1)) _ he1394) (.tupL (.cons (.ownM (fun _ => rfl)) (.cons (.plain rfl) .nil))) rfl) rfl ?_
         refine Qf E_good ?_
         refine Qf E_good ?_
         refine Qf E_good ?_
         refine Qf E_good ?_
         refine Qf E_good ?_
         refine SafeOps.nil ?_
         repeat (first | refine sq ?_ | refine sk ?_ | with_reducible first | refine tn ?_ | refine bn ?_)
         refine Safe.region ?_
         refine Qf E_good ?_
         refine Qf E_good ?_
         refine Q0 E_good rfl (v := V.bool (x_1393 == 0)) (.fn rfl) ?_
         refine SafeOps.joinT 1 (fun (v3110_1396 : Int) => go_ring_Step_j108 a0_62 a2_64 x_1392 x_1393 v3110_1396 = some r) (fun (v3110_1396 : Int) => ⟨Try.f57.ntmps, [(0, V.ptr [31] 0 0), (6, V.ref [40, 19, 15, 0] 0 (rws (fun n => [V.int .i64 n]) x_1392).length), (21, V.bool (x_1393 == 0))], [([7], Obj.box [V.int .i64 0, V.int .i64 0, V.int .i64 0, V.int .i64 0, V.int .i64 0, V.bool false, V.int .i64 0]), ([28], Obj.rows 1 (rws (fun n => [V.int .i64 n]) ([] ++ a0_62)) false), ([31], Obj.box [V.int .i64 a2_64.Kind, V.int .i64 a2_64.Pc, V.int .i64 a2_64.V, V.int .i64 a2_64.T, V.int .i64 a2_64.B, V.bool a2_64.Won, V.int .i64 a2_64.State, V.ref [28] 0 (rws (fun n => [V.int .i64 n]) ([] ++ a0_62)).length, V.int .i64 a1_63.Base, V.int .i64 a1_63.Cap, V.int .i64 v3110_1396]), ([40, 19, 15, 0], Obj.rows 1 (rws (fun n => [V.int .i64 n]) x_1392) false)], [(Try.f40.ntmps, [(0, V.ptr [31] 0 0)]), (Try.f8.ntmps, [(7, V.ptr [7] 0 0), (9, V.ptr [31] 0 0)])], [40, 19]⟩) ?_ (fun HJ1397 => ?_)
         ·intro v3110_1396 h
          replace h : go_ring_Step_j108 a0_62 a2_64 x_1392 x_1393 v3110_1396 = some r := h
          rw [go_ring_Step_j108] at h
          refine SafeOps.nil ?_
          repeat (first | refine sq ?_ | refine sk ?_ | with_reducible first | refine tn ?_ | refine bn ?_)
          refine ifG h (fun hc1398 h => ?_) (fun hc1398 h => ?_)
          ·skip
           refine Safe.condK rfl hc1398 ?_
           repeat (first | refine sq ?_ | refine sk ?_ | with_reducible first | refine tn ?_ | refine bn ?_)
           refine Safe.region ?_
           refine Qf E_good ?_
           refine Qf E_good ?_
           refine Q0 E_good rfl (v := V.ptr [31] 0 0) (.fn rfl) ?_
           refine Q0 E_good rfl (v := V.ptr [31] 0 7) (.fn rfl) ?_
           refine SafeOps.store (z := Obj.box [V.int .i64 a2_64.Kind, V.int .i64 a2_64.Pc, V.int .i64 a2_64.V, V.int .i64 a2_64.T, V.int .i64 a2_64.B, V.bool a2_64.Won, V.int .i64 a2_64.State, V.ref [40, 19, 15, 0] 0 (rws (fun n => [V.int .i64 n]) x_1392).length, V.int .i64 a1_63.Base, V.int .i64 a1_63.Cap, V.int .i64 v3110_1396]) E_good rfl rfl rfl rfl rfl rfl rfl (.boxM (c := 11) rfl rfl (Nat.le_of_ble_eq_true rfl) rfl) ?_
           refine SafeOps.nil ?_
           repeat (first | refine sq ?_ | refine sk ?_ | with_reducible first | refine tn ?_ | refine bn ?_)
           repeat (first | with_reducible refine thenQ.r ?_ | with_reducible refine blockQ.r ?_)
           refine inQ.gen (vs := []) (v := V.tup []) (.inl rfl) rfl .nil rfl ?_
           exact SafeOps.got (HJ1391 (x_1392, v3110_1396) h) (.ren [40, 19, 15, 0] [7000, 114, 31, 7] (.cov ⟨rfl, rfl, (ut upT_nil), (uo (uo (uo upOb_nil))), (upOut_cons rfl (ut (ut upT_nil)) upOut_nil), rfl⟩))
          ·skip
           refine Safe.condN rfl hc1398 ?_
           repeat (first | refine sq ?_ | refine sk ?_ | with_reducible first | refine tn ?_ | refine bn ?_)
           repeat (first | with_reducible refine thenQ.r ?_ | with_reducible refine blockQ.r ?_)
           refine inQ.gen (vs := []) (v := V.tup []) (.inl rfl) rfl .nil rfl ?_
           exact SafeOps.got (HJ1391 ([] ++ a0_62, v3110_1396) h) (.ren [28] [7000, 114, 31, 7] (.cov ⟨rfl, rfl, (ut upT_nil), (uo (uo (uo upOb_nil))), (upOut_cons rfl (ut (ut upT_nil)) upOut_nil), rfl⟩))
         ·skip
          refine SafeOps.inline E_good rfl rfl rfl rfl rfl Try.func54 rfl (fun _ _ => Try.call54 _ _) rfl ?_
          repeat (first | refine sq ?_ | refine sk ?_ | with_reducible first | refine tn ?_ | refine bn ?_)
          refine Safe.region ?_
          refine Qf E_good ?_
          refine SafeOps.nil ?_
          repeat (first | refine sq ?_ | refine sk ?_ | with_reducible first | refine tn ?_ | refine bn ?_)
          refine Safe.region ?_
          refine Qf E_good ?_
          refine Q0 E_good rfl (v := V.bool (!(x_1393 == 0))) (.fn rfl) ?_
          refine SafeOps.nil ?_
          repeat (first | refine sq ?_ | refine sk ?_ | with_reducible first | refine tn ?_ | refine bn ?_)
          refine ifG h (fun hc1399 h => ?_) (fun hc1399 h => ?_)
          ·skip
           refine Safe.condK rfl hc1399 ?_
           repeat (first | refine sq ?_ | refine sk ?_ | with_reducible first | refine tn ?_ | refine bn ?_)
           refine Safe.region ?_
           refine Qf E_good ?_
           refine Q0 E_good rfl (v := V.ptr [31] 0 0) (.fn rfl) ?_
           refine Q0 E_good rfl (v := V.ptr [31] 0 10) (.fn rfl) ?_
           refine SafeOps.store (z := Obj.box [V.int .i64 a2_64.Kind, V.int .i64 a2_64.Pc, V.int .i64 a2_64.V, V.int .i64 a2_64.T, V.int .i64 a2_64.B, V.bool a2_64.Won, V.int .i64 a2_64.State, V.ref [28] 0 (rws (fun n => [V.int .i64 n]) ([] ++ a0_62)).length, V.int .i64 a1_63.Base, V.int .i64 a1_63.Cap, V.int .i64 9]) E_good rfl rfl rfl rfl rfl rfl rfl (.boxM (c := 11) rfl rfl (Nat.le_of_ble_eq_true rfl) rfl) ?_
           refine SafeOps.nil ?_
           repeat (first | refine sq ?_ | refine sk ?_ | with_reducible first | refine tn ?_ | refine bn ?_)
           refine Safe.region ?_
           refine Qf E_good ?_
           refine Qf E_good ?_
           refine SafeOps.nil ?_
           repeat (first | refine sq ?_ | refine sk ?_ | with_reducible first | refine tn ?_ | refine bn ?_)
           refine Safe.ret ?_
           repeat (first | with_reducible refine thenQ.r ?_ | with_reducible refine blockQ.r ?_)
           refine inQ.gen (vs := [V.bool (x_1393 == 0)]) (v := V.bool (x_1393 == 0)) (.inr rfl) rfl (.tmp (v := V.bool (x_1393 == 0)) rfl .nil) rfl ?_
           exact SafeOps.got (HJ1397 (9) h) (.cov ⟨rfl, rfl, (ut (ut (ut upT_nil))), (uo (uo (uo (uo upOb_nil)))), (upOut_cons rfl (ut upT_nil) (upOut_cons rfl (ut (ut upT_nil)) upOut_nil)), rfl⟩)
          ·skip
           refine Safe.condN rfl hc1399 ?_
           repeat (first | refine sq ?_ | refine sk ?_ | with_reducible first | refine tn ?_ | refine bn ?_)
           refine Safe.region ?_
           refine Qf E_good ?_
           refine Qf E_good ?_
           refine SafeOps.nil ?_
           repeat (first | refine sq ?_ | refine sk ?_ | with_reducible first | refine tn ?_ | refine bn ?_)
           refine Safe.ret ?_
           repeat (first | with_reducible refine thenQ.r ?_ | with_reducible refine blockQ.r ?_)
           refine inQ.gen (vs := [V.bool (x_1393 == 0)]) (v := V.bool (x_1393 == 0)) (.inr rfl) rfl (.tmp (v := V.bool (x_1393 == 0)) rfl .nil) rfl ?_
           exact SafeOps.got (HJ1397 (v3110_1366) h) (.cov ⟨rfl, rfl, (ut (ut (ut upT_nil))), (uo (uo (uo (uo upOb_nil)))), (upOut_cons rfl (ut upT_nil) (upOut_cons rfl (ut (ut upT_nil)) upOut_nil)), rfl⟩)
       ·skip
        refine Safe.condN rfl hc1381 ?_
        repeat (first | refine Safe.skip ?_ | with_reducible refine thenQ.n ?_ | with_reducible refine blockQ.n ?_)
        exact Safe.got (HJ1380 ([] ++ a0_62, v3110_1366) h) (.ren [28] [7000, 114, 31, 7] (.cov ⟨rfl, rfl, (ut upT_nil), (uo (uo (uo upOb_nil))), (upOut_cons rfl (ut (ut upT_nil)) upOut_nil), rfl⟩))
     ·skip
      refine SafeOps.inline E_good rfl rfl rfl rfl rfl Try.func54 rfl (fun _ _ => Try.call54 _ _) rfl ?_
      repeat (first | refine sq ?_ | refine sk ?_ | with_reducible first | refine tn ?_ | refine bn ?_)
      refine Safe.region ?_
      refine Qf E_good ?_
      refine SafeOps.nil ?_
      repeat (first | refine sq ?_ | refine sk ?_ | with_reducible first | refine tn ?_ | refine bn ?_)
      refine Safe.region ?_
      refine Qf E_good ?_
      refine Q0 E_good rfl (v := V.bool (!(decide (a2_64.B ≥ 0)))) (.fn rfl) ?_
      refine SafeOps.nil ?_
      repeat (first | refine sq ?_ | refine sk ?_ | with_reducible first | refine tn ?_ | refine bn ?_)
      refine ifG h (fun hc1400 h => ?_) (fun hc1400 h => ?_)
      ·skip
       refine Safe.condK rfl hc1400 ?_
       repeat (first | refine sq ?_ | refine sk ?_ | with_reducible first | refine tn ?_ | refine bn ?_)
       refine Safe.region ?_
       refine Qf E_good ?_
       refine Q0 E_good rfl (v := V.ptr [31] 0 0) (.fn rfl) ?_
       refine Q0 E_good rfl (v := V.ptr [31] 0 10) (.fn rfl) ?_
       refine SafeOps.store (z := Obj.box [V.int .i64 a2_64.Kind, V.int .i64 a2_64.Pc, V.int .i64 a2_64.V, V.int .i64 a2_64.T, V.int .i64 a2_64.B, V.bool a2_64.Won, V.int .i64 a2_64.State, V.ref [28] 0 (rws (fun n => [V.int .i64 n]) ([] ++ a0_62)).length, V.int .i64 a1_63.Base, V.int .i64 a1_63.Cap, V.int .i64 9]) E_good rfl rfl rfl rfl rfl rfl rfl (.boxM (c := 11) rfl rfl (Nat.le_of_ble_eq_true rfl) rfl) ?_
       refine SafeOps.nil ?_
       repeat (first | refine sq ?_ | refine sk ?_ | with_reducible first | refine tn ?_ | refine bn ?_)
       refine Safe.region ?_
       refine Qf E_good ?_
       refine Qf E_good ?_
       refine SafeOps.nil ?_
       repeat (first | refine sq ?_ | refine sk ?_ | with_reducible first | refine tn ?_ | refine bn ?_)
       refine Safe.ret ?_
       repeat (first | with_reducible refine thenQ.r ?_ | with_reducible refine blockQ.r ?_)
       refine inQ.gen (vs := [V.bool (decide (a2_64.B ≥ 0))]) (v := V.bool (decide (a2_64.B ≥ 0))) (.inr rfl) rfl (.tmp (v := V.bool (decide (a2_64.B ≥ 0))) rfl .nil) rfl ?_
       exact SafeOps.got (HJ1367 (9) h) (.cov ⟨rfl, rfl, (ut (ut upT_nil)), (uo (uo (uo upOb_nil))), (upOut_cons rfl (ut (ut upT_nil)) upOut_nil), rfl⟩)
      ·skip
       refine Safe.condN rfl hc1400 ?_
       repeat (first | refine sq ?_ | refine sk ?_ | with_reducible first | refine tn ?_ | refine bn ?_)
       refine Safe.region ?_
       refine Qf E_good ?_
       refine Qf E_good ?_
       refine SafeOps.nil ?_
       repeat (first | refine sq ?_ | refine sk ?_ | with_reducible first | refine tn ?_ | refine bn ?_)
       refine Safe.ret ?_
       repeat (first | with_reducible refine thenQ.r ?_ | with_reducible refine blockQ.r ?_)
       refine inQ.gen (vs := [V.bool (decide (a2_64.B ≥ 0))]) (v := V.bool (decide (a2_64.B ≥ 0))) (.inr rfl) rfl (.tmp (v := V.bool (decide (a2_64.B ≥ 0))) rfl .nil) rfl ?_
       exact SafeOps.got (HJ1367 (0) h) (.cov ⟨rfl, rfl, (ut (ut upT_nil)), (uo (uo (uo upOb_nil))), (upOut_cons rfl (ut (ut upT_nil)) upOut_nil), rfl⟩)
    refine ifP_G h (fun hq1401 h => ?_) (fun _ h => ?_)
    ·skip
     refine SafeOps.see 38 (u := V.fn 41 []) rfl (up_fn hq1401) ?_
     refine SafeOps.inline E_good rfl rfl rfl rfl rfl Try.func41 rfl (fun _ _ => Try.call41 _ _) rfl ?_
     repeat (first | refine sq ?_ | refine sk ?_ | with_reducible first | refine tn ?_ | refine bn ?_)
     refine Safe.region ?_
     refine Qf E_good ?_
     refine Qf E_good ?_
     refine Qf E_good ?_
     refine Q0 E_good rfl (v := V.int .i64 (go_pring_actor_bottom (ring_actor.mk a2_64 ([] ++ a0_62) a1_63 0))) (.callS rfl (.cons (.box rfl (.cons (.free rfl) (.cons (.free rfl) (.cons (.free rfl) (.cons (.free rfl) (.cons (.free rfl) (.cons (.free rfl) (.cons (.free rfl) (.cons (.full rfl rfl) (.cons (.free rfl) (.cons (.free rfl) (.cons (.free rfl) .nil)))))))))))) .nil) (go_pring_actor_bottom_sc (ring_actor.mk a2_64 ([] ++ a0_62) a1_63 0) _ rfl) (.plain rfl) rfl) ?_
     refine SafeOps.inline E_good rfl rfl rfl rfl rfl Try.func28 rfl (fun _ _ => Try.call28 _ _) rfl ?_
     repeat (first | refine sq ?_ | refine sk ?_ | with_reducible first | refine tn ?_ | refine bn ?_)
     refine Safe.region ?_
     refine Qf E_good ?_
     refine SafeOps.nil ?_
     repeat (first | refine sq ?_ | refine sk ?_ | with_reducible first | refine tn ?_ | refine bn ?_)
     refine Safe.region ?_
     refine Qf E_good ?_
     refine Qf E_good ?_
     refine SafeOps.inline E_good rfl rfl rfl rfl rfl Try.func31 rfl (fun _ _ => Try.call31 _ _) rfl ?_
     repeat (first | refine sq ?_ | refine sk ?_ | with_reducible first | refine tn ?_ | refine bn ?_)
     refine Safe.region ?_
     refine Qf E_good ?_
     refine SafeOps.nil ?_
     repeat (first | refine sq ?_ | refine sk ?_ | with_reducible first | refine tn ?_ | refine bn ?_)
     refine Safe.region ?_
     refine Qf E_good ?_
     refine Q0 E_good rfl (v := V.ptr [31] 0 0) (.fn rfl) ?_
     refine Q0 E_good rfl (v := V.ptr [31] 0 7) (.fn rfl) ?_
     refine Q0 E_good rfl (v := V.ref [28] 0 (rws (fun n => [V.int .i64 n]) ([] ++ a0_62)).length) (.load rfl rfl (.box rfl rfl) rfl) ?_
     refine Qf E_good ?_
     refine bindG h ?_
     rintro ⟨x_1424, x_1425⟩ he1426 h
     refine Q0 E_good rfl (v := V.tup [V.int .i64 x_1424, V.int .i64 x_1425]) (.callS rfl (.cons (.full rfl rfl) (.cons (.free rfl) .nil)) (go_cell_Load_sc ([] ++ a0_62) (go_pring_actor_bottom (ring_actor.mk a2_64 ([] ++ a0_62) a1_63 0)) _ he1426) (.tupL (.cons (.plain rfl) (.cons (.plain rfl) .nil))) rfl) ?_
     refine Qf E_good ?_
     refine Qf E_good ?_
     refine Qf E_good ?_
     refine Qf E_good ?_
     refine Qf E_good ?_
     refine SafeOps.nil ?_
     repeat (first | refine sq ?_ | refine sk ?_ | with_reducible first | refine tn ?_ | refine bn ?_)
     refine Safe.region ?_
     refine Qf E_good ?_
     refine Qf E_good ?_
     refine Q0 E_good rfl (v := V.bool (x_1425 == 0)) (.fn rfl) ?_
     refine SafeOps.joinT 1 (fun (v3110_1428 : Int) => go_ring_Step_j113 a0_62 a2_64 x_1424 v3110_1428 = some r) (fun (v3110_1428 : Int) => ⟨Try.f31.ntmps, [(5, V.int .i64 x_1424)], [([7], Obj.box [V.int .i64 0, V.int .i64 0, V.int .i64 0, V.int .i64 0, V.int .i64 0, V.bool false, V.int .i64 0]), ([28], Obj.rows 1 (rws (fun n => [V.int .i64 n]) ([] ++ a0_62)) false), ([31], Obj.box [V.int .i64 a2_64.Kind, V.int .i64 a2_64.Pc, V.int .i64 a2_64.V, V.int .i64 a2_64.T, V.int .i64 a2_64.B, V.bool a2_64.Won, V.int .i64 a2_64.State, V.ref [28] 0 (rws (fun n => [V.int .i64 n]) ([] ++ a0_62)).length, V.int .i64 a1_63.Base, V.int .i64 a1_63.Cap, V.int .i64 v3110_1428])], [(Try.f28.ntmps, [(0, V.ptr [31] 0 0), (2, V.int .i64 0)]), (Try.f41.ntmps, [(0, V.ptr [31] 0 0), (2, V.ptr [31] 0 0)]), (Try.f8.ntmps, [(7, V.ptr [7] 0 0), (9, V.ptr [31] 0 0)])], [40, 6, 10]⟩) ?_ (fun HJ1429 => ?_)
     ·intro v3110_1428 h
      replace h : go_ring_Step_j113 a0_62 a2_64 x_1424 v3110_1428 = some r := h
      rw [go_ring_Step_j113] at h
      refine SafeOps.nil ?_
      repeat (first | refine sq ?_ | refine sk ?_ | with_reducible first | refine tn ?_ | refine bn ?_)
      refine Safe.region ?_
      refine Qf E_good ?_
      refine Qf E_good ?_
      refine SafeOps.nil ?_
      repeat (first | refine sq ?_ | refine sk ?_ | with_reducible first | refine tn ?_ | refine bn ?_)
      refine Safe.ret ?_
      repeat (first | with_reducible refine thenQ.r ?_ | with_reducible refine blockQ.r ?_)
      refine inQ.gen (vs := [V.int .i64 x_1424]) (v := V.int .i64 x_1424) (.inr rfl) rfl (.tmp (v := V.int .i64 x_1424) rfl .nil) rfl ?_
      refine Qf E_good ?_
      refine SafeOps.nil ?_
      repeat (first | refine sq ?_ | refine sk ?_ | with_reducible first | refine tn ?_ | refine bn ?_)
      refine Safe.region ?_
      refine Qf E_good ?_
      refine Qf E_good ?_
      refine Qf E_good ?_
      refine Q0 E_good rfl (v := V.bool (decide (x_1424 ≥ 0))) (.fn rfl) ?_
      refine Qf E_good ?_
      refine SafeOps.bjoin 3 18 (b := ((decide (x_1424 ≥ 0)) && (decide (x_1424 ≤ 1099511627776)))) (b1 := decide (x_1424 ≤ 1099511627776)) (b0 := false) (fun hc1430 K => ?_) (fun hc1430 K => ?_) bj_and ?_
      ·skip
       refine SafeOps.quiet0 E_good (congrArg some hc1430) rfl rfl (.fn rfl) ?_
       refine SafeOps.quiet0 E_good (congrArg some hc1430) rfl rfl (v := V.bool (decide (x_1424 ≤ 1099511627776))) (.fn rfl) ?_
       refine Q0 E_good rfl (v := V.bool (decide (x_1424 ≤ 1099511627776))) (.pickK rfl hc1430 rfl) ?_
       exact SafeOps.drop' 3 rfl rfl rfl K
      ·skip
       refine SafeOps.skip (congrArg some hc1430) rfl rfl ?_
       refine SafeOps.skip (congrArg some hc1430) rfl rfl ?_
       refine Q0 E_good rfl (v := V.bool false) (.pickK rfl hc1430 rfl) ?_
       exact SafeOps.drop' 3 rfl rfl rfl K
      refine SafeOps.joinT 1 (fun (v3110_1432 : Int) => go_ring_Step_j114 a0_62 a2_64 x_1424 v3110_1432 = some r) (fun (v3110_1432 : Int) => ⟨Try.f28.ntmps, [(7, V.int .i64 x_1424)], [([7], Obj.box [V.int .i64 0, V.int .i64 0, V.int .i64 0, V.int .i64 0, V.int .i64 0, V.bool false, V.int .i64 0]), ([28], Obj.rows 1 (rws (fun n => [V.int .i64 n]) ([] ++ a0_62)) false), ([31], Obj.box [V.int .i64 a2_64.Kind, V.int .i64 a2_64.Pc, V.int .i64 a2_64.V, V.int .i64 a2_64.T, V.int .i64 a2_64.B, V.bool a2_64.Won, V.int .i64 a2_64.State, V.ref [28] 0 (rws (fun n => [V.int .i64 n]) ([] ++ a0_62)).length, V.int .i64 a1_63.Base, V.int .i64 a1_63.Cap, V.int .i64 v3110_1432])], [(Try.f41.ntmps, [(0, V.ptr [31] 0 0), (2, V.ptr [31] 0 0)]), (Try.f8.ntmps, [(7, V.ptr [7] 0 0), (9, V.ptr [31] 0 0)])], [40, 6]⟩) ?_ (fun HJ1433 => ?_)
      ·intro v3110_1432 h
       replace h : go_ring_Step_j114 a0_62 a2_64 x_1424 v3110_1432 = some r := h
       rw [go_ring_Step_j114] at h
       refine SafeOps.nil ?_
       repeat (first | refine sq ?_ | refine sk ?_ | with_reducible first | refine tn ?_ | refine bn ?_)
       refine Safe.region ?_
       refine Qf E_good ?_
       refine Qf E_good ?_
       refine SafeOps.nil ?_
       repeat (first | refine sq ?_ | refine sk ?_ | with_reducible first | refine tn ?_ | refine bn ?_)
       refine Safe.ret ?_
       repeat (first | with_reducible refine thenQ.r ?_ | with_reducible refine blockQ.r ?_)
       refine inQ.gen (vs := [V.int .i64 x_1424]) (v := V.int .i64 x_1424) (.inr rfl) rfl (.tmp (v := V.int .i64 x_1424) rfl .nil) rfl ?_
       refine Q0 E_good rfl (v := V.ptr [31] 0 0) (.fn rfl) ?_
       refine Q0 E_good rfl (v := V.ptr [31] 0 0) (.fn rfl) ?_
       refine Q0 E_good rfl (v := V.ptr [31] 0 4) (.fn rfl) ?_
       refine SafeOps.store (z := Obj.box [V.int .i64 a2_64.Kind, V.int .i64 a2_64.Pc, V.int .i64 a2_64.V, V.int .i64 a2_64.T, V.int .i64 x_1424, V.bool a2_64.Won, V.int .i64 a2_64.State, V.ref [28] 0 (rws (fun n => [V.int .i64 n]) ([] ++ a0_62)).length, V.int .i64 a1_63.Base, V.int .i64 a1_63.Cap, V.int .i64 v3110_1432]) E_good rfl rfl rfl rfl rfl rfl rfl (.boxM (c := 11) rfl rfl (Nat.le_of_ble_eq_true rfl) rfl) ?_
       refine SafeOps.nil ?_
       repeat (first | refine sq ?_ | refine sk ?_ | with_reducible first | refine tn ?_ | refine bn ?_)
       refine Safe.region ?_
       refine Qf E_good ?_
       refine Q0 E_good rfl (v := V.ptr [31] 0 0) (.fn rfl) ?_
       refine Q0 E_good rfl (v := V.ptr [31] 0 0) (.fn rfl) ?_
       refine Q0 E_good rfl (v := V.ptr [31] 0 1) (.fn rfl) ?_
       refine Q0 E_good rfl (v := V.int .i64 a2_64.Pc) (.load rfl rfl (.box rfl rfl) rfl) ?_
       refine Q0 E_good rfl (v := V.int .i64 (IntKind.i64.wrap (a2_64.Pc + 1))) (.fn rfl) ?_
       refine Q0 E_good rfl (v := V.ptr [31] 0 0) (.fn rfl) ?_
       refine Q0 E_good rfl (v := V.ptr [31] 0 0) (.fn rfl) ?_
       refine Q0 E_good rfl (v := V.ptr [31] 0 1) (.fn rfl) ?_
       refine SafeOps.store (z := Obj.box [V.int .i64 a2_64.Kind, V.int .i64 (IntKind.i64.wrap (a2_64.Pc + 1)), V.int .i64 a2_64.V, V.int .i64 a2_64.T, V.int .i64 x_1424, V.bool a2_64.Won, V.int .i64 a2_64.State, V.ref [28] 0 (rws (fun n => [V.int .i64 n]) ([] ++ a0_62)).length, V.int .i64 a1_63.Base, V.int .i64 a1_63.Cap, V.int .i64 v3110_1432]) E_good rfl rfl rfl rfl rfl rfl rfl (.boxM (c := 11) rfl rfl (Nat.le_of_ble_eq_true rfl) rfl) ?_
       refine SafeOps.nil ?_
       repeat (first | refine sq ?_ | refine sk ?_ | with_reducible first | refine tn ?_ | refine bn ?_)
       repeat (first | with_reducible refine thenQ.r ?_ | with_reducible refine blockQ.r ?_)
       refine inQ.gen (vs := []) (v := V.tup []) (.inl rfl) rfl .nil rfl ?_
       exact SafeOps.got (HJ1246 (IntKind.i64.wrap (a2_64.Pc + 1), a2_64.V, a2_64.T, x_1424, a2_64.Won, a2_64.State, [] ++ a0_62, v3110_1432) h) (.ren [28] [7000, 114, 31, 7] (.cov ⟨rfl, rfl, (ut (ut upT_nil)), (uo (uo (uo upOb_nil))), upOut_nil, rfl⟩))
      ·skip
       refine SafeOps.inline E_good rfl rfl rfl rfl rfl Try.func54 rfl (fun _ _ => Try.call54 _ _) rfl ?_
       repeat (first | refine sq ?_ | refine sk ?_ | with_reducible first | refine tn ?_ | refine bn ?_)
       refine Safe.region ?_
       refine Qf E_good ?_
       refine SafeOps.nil ?_
       repeat (first | refine sq ?_ | refine sk ?_ | with_reducible first | refine tn ?_ | refine bn ?_)
       refine Safe.region ?_
       refine Qf E_good ?_
       refine Q0 E_good rfl (v := V.bool (!((decide (x_1424 ≥ 0)) && (decide (x_1424 ≤ 1099511627776))))) (.fn rfl) ?_
       refine SafeOps.nil ?_
       repeat (first | refine sq ?_ | refine sk ?_ | with_reducible first | refine tn ?_ | refine bn ?_)
       refine ifG h (fun hc1434 h => ?_) (fun hc1434 h => ?_)
       ·skip
        refine Safe.condK rfl hc1434 ?_
        repeat (first | refine sq ?_ | refine sk ?_ | with_reducible first | refine tn ?_ | refine bn ?_)
        refine Safe.region ?_
        refine Qf E_good ?_
        refine Q0 E_good rfl (v := V.ptr [31] 0 0) (.fn rfl) ?_
        refine Q0 E_good rfl (v := V.ptr [31] 0 10) (.fn rfl) ?_
        refine SafeOps.store (z := Obj.box [V.int .i64 a2_64.Kind, V.int .i64 a2_64.Pc, V.int .i64 a2_64.V, V.int .i64 a2_64.T, V.int .i64 a2_64.B, V.bool a2_64.Won, V.int .i64 a2_64.State, V.ref [28] 0 (rws (fun n => [V.int .i64 n]) ([] ++ a0_62)).length, V.int .i64 a1_63.Base, V.int .i64 a1_63.Cap, V.int .i64 9]) E_good rfl rfl rfl rfl rfl rfl rfl (.boxM (c := 11) rfl rfl (Nat.le_of_ble_eq_true rfl) rfl) ?_
        refine SafeOps.nil ?_
        repeat (first | refine sq ?_ | refine sk ?_ | with_reducible first | refine tn ?_ | refine bn ?_)
        refine Safe.region ?_
        refine Qf E_good ?_
        refine Qf E_good ?_
        refine SafeOps.nil ?_
        repeat (first | refine sq ?_ | refine sk ?_ | with_reducible first | refine tn ?_ | refine bn ?_)
        refine Safe.ret ?_
        repeat (first | with_reducible refine thenQ.r ?_ | with_reducible refine blockQ.r ?_)
        refine inQ.gen (vs := [V.bool ((decide (x_1424 ≥ 0)) && (decide (x_1424 ≤ 1099511627776)))]) (v := V.bool ((decide (x_1424 ≥ 0)) && (decide (x_1424 ≤ 1099511627776)))) (.inr rfl) rfl (.tmp (v := V.bool ((decide (x_1424 ≥ 0)) && (decide (x_1424 ≤ 1099511627776)))) rfl .nil) rfl ?_
        exact SafeOps.got (HJ1433 (9) h) (.cov ⟨rfl, rfl, (ut upT_nil), (uo (uo (uo upOb_nil))), (upOut_cons rfl (ut (ut upT_nil)) (upOut_cons rfl (ut (ut upT_nil)) upOut_nil)), rfl⟩)
       ·skip
        refine Safe.condN rfl hc1434 ?_
        repeat (first | refine sq ?_ | refine sk ?_ | with_reducible first | refine tn ?_ | refine bn ?_)
        refine Safe.region ?_
        refine Qf E_good ?_
        refine Qf E_good ?_
        refine SafeOps.nil ?_
        repeat (first | refine sq ?_ | refine sk ?_ | with_reducible first | refine tn ?_ | refine bn ?_)
        refine Safe.ret ?_
        repeat (first | with_reducible refine thenQ.r ?_ | with_reducible refine blockQ.r ?_)
        refine inQ.gen (vs := [V.bool ((decide (x_1424 ≥ 0)) && (decide (x_1424 ≤ 1099511627776)))]) (v := V.bool ((decide (x_1424 ≥ 0)) && (decide (x_1424 ≤ 1099511627776)))) (.inr rfl) rfl (.tmp (v := V.bool ((decide (x_1424 ≥ 0)) && (decide (x_1424 ≤ 1099511627776)))) rfl .nil) rfl ?_
        exact SafeOps.got (HJ1433 (v3110_1428) h) (.cov ⟨rfl, rfl, (ut upT_nil), (uo (uo (uo upOb_nil))), (upOut_cons rfl (ut (ut upT_nil)) (upOut_cons rfl (ut (ut upT_nil)) upOut_nil)), rfl⟩)
     ·skip
      refine SafeOps.inline E_good rfl rfl rfl rfl rfl Try.func54 rfl (fun _ _ => Try.call54 _ _) rfl ?_
      repeat (first | refine sq ?_ | refine sk ?_ | with_reducible first | refine tn ?_ | refine bn ?_)
      refine Safe.region ?_
      refine Qf E_good ?_
      refine SafeOps.nil ?_
      repeat (first | refine sq ?_ | refine sk ?_ | with_reducible first | refine tn ?_ | refine bn ?_)
      refine Safe.region ?_
      refine Qf E_good ?_
      refine Q0 E_good rfl (v := V.bool (!(x_1425 == 0))) (.fn rfl) ?_
      refine SafeOps.nil ?_
      repeat (first | refine sq ?_ | refine sk ?_ | with_reducible first | refine tn ?_ | refine bn ?_)
      refine ifG h (fun hc1435 h => ?_) (fun hc1435 h => ?_)
      ·skip
       refine Safe.condK rfl hc1435 ?_
       repeat (first | refine sq ?_ | refine sk ?_ | with_reducible first | refine tn ?_ | refine bn ?_)
       refine Safe.region ?_
       refine Qf E_good ?_
       refine Q0 E_good rfl (v := V.ptr [31] 0 0) (.fn rfl) ?_
       refine Q0 E_good rfl (v := V.ptr [31] 0 10) (.fn rfl) ?_
       refine SafeOps.store (z := Obj.box [V.int .i64 a2_64.Kind, V.int .i64 a2_64.Pc, V.int .i64 a2_64.V, V.int .i64 a2_64.T, V.int .i64 a2_64.B, V.bool a2_64.Won, V.int .i64 a2_64.State, V.ref [28] 0 (rws (fun n => [V.int .i64 n]) ([] ++ a0_62)).length, V.int .i64 a1_63.Base, V.int .i64 a1_63.Cap, V.int .i64 9]) E_good rfl rfl rfl rfl rfl rfl rfl (.boxM (c := 11) rfl rfl (Nat.le_of_ble_eq_true rfl) rfl) ?_
       refine SafeOps.nil ?_
       repeat (first | refine sq ?_ | refine sk ?_ | with_reducible first | refine tn ?_ | refine bn ?_)
       refine Safe.region ?_
       refine Qf E_good ?_
       refine Qf E_good ?_
       refine SafeOps.nil ?_
       repeat (first | refine sq ?_ | refine sk ?_ | with_reducible first | refine tn ?_ | refine bn ?_)
       refine Safe.ret ?_
       repeat (first | with_reducible refine thenQ.r ?_ | with_reducible refine blockQ.r ?_)
       refine inQ.gen (vs := [V.bool (x_1425 == 0)]) (v := V.bool (x_1425 == 0)) (.inr rfl) rfl (.tmp (v := V.bool (x_1425 == 0)) rfl .nil) rfl ?_
       exact SafeOps.got (HJ1429 (9) h) (.cov ⟨rfl, rfl, (ut upT_nil), (uo (uo (uo upOb_nil))), (upOut_cons rfl (ut (ut upT_nil)) (upOut_cons rfl (ut (ut upT_nil)) (upOut_cons rfl (ut (ut upT_nil)) upOut_nil))), rfl⟩)
      ·skip
       refine Safe.condN rfl hc1435 ?_
       repeat (first | refine sq ?_ | refine sk ?_ | with_reducible first | refine tn ?_ | refine bn ?_)
       refine Safe.region ?_
       refine Qf E_good ?_
       refine Qf E_good ?_
       refine SafeOps.nil ?_
       repeat (first | refine sq ?_ | refine sk ?_ | with_reducible first | refine tn ?_ | refine bn ?_)
       refine Safe.ret ?_
       repeat (first | with_reducible refine thenQ.r ?_ | with_reducible refine blockQ.r ?_)
       refine inQ.gen (vs := [V.bool (x_1425 == 0)]) (v := V.bool (x_1425 == 0)) (.inr rfl) rfl (.tmp (v := V.bool (x_1425 == 0)) rfl .nil) rfl ?_
       exact SafeOps.got (HJ1429 (0) h) (.cov ⟨rfl, rfl, (ut upT_nil), (uo (uo (uo upOb_nil))), (upOut_cons rfl (ut (ut upT_nil)) (upOut_cons rfl (ut (ut upT_nil)) (upOut_cons rfl (ut (ut upT_nil)) upOut_nil))), rfl⟩)
    refine ifP_G h (fun hq1436 h => ?_) (fun _ h => ?_)
    ·skip
     refine SafeOps.see 38 (u := V.fn 42 []) rfl (up_fn hq1436) ?_
     refine SafeOps.inline E_good rfl rfl rfl rfl rfl Try.func42 rfl (fun _ _ => Try.call42 _ _) rfl ?_
     repeat (first | refine sq ?_ | refine sk ?_ | with_reducible first | refine tn ?_ | refine bn ?_)
     refine Safe.region ?_
     refine Qf E_good ?_
     refine Qf E_good ?_
     refine Q0 E_good rfl (v := V.ptr [31] 0 0) (.fn rfl) ?_
     refine Q0 E_good rfl (v := V.ptr [31] 0 0) (.fn rfl) ?_
     refine Q0 E_good rfl (v := V.ptr [31] 0 4) (.fn rfl) ?_
     refine Q0 E_good rfl (v := V.int .i64 a2_64.B) (.load rfl rfl (.box rfl rfl) rfl) ?_
     refine Q0 E_good rfl (v := V.bool (decide (a2_64.B ≥ 0))) (.fn rfl) ?_
     refine SafeOps.joinT 1 (fun (v3110_1438 : Int) => go_ring_Step_j115 a0_62 a1_63 a2_64 v3110_1438 = some r) (fun (v3110_1438 : Int) => ⟨Try.f42.ntmps, [(0, V.ptr [31] 0 0), (9, V.bool (decide (a2_64.B ≥ 0)))], [([7], Obj.box [V.int .i64 0, V.int .i64 0, V.int .i64 0, V.int .i64 0, V.int .i64 0, V.bool false, V.int .i64 0]), ([28], Obj.rows 1 (rws (fun n => [V.int .i64 n]) ([] ++ a0_62)) false), ([31], Obj.box [V.int .i64 a2_64.Kind, V.int .i64 a2_64.Pc, V.int .i64 a2_64.V, V.int .i64 a2_64.T, V.int .i64 a2_64.B, V.bool a2_64.Won, V.int .i64 a2_64.State, V.ref [28] 0 (rws (fun n => [V.int .i64 n]) ([] ++ a0_62)).length, V.int .i64 a1_63.Base, V.int .i64 a1_63.Cap, V.int .i64 v3110_1438])], [(Try.f8.ntmps, [(7, V.ptr [7] 0 0), (9, V.ptr [31] 0 0)])], [40]⟩) ?_ (fun HJ1439 => ?_)
     ·intro v3110_1438 h
      replace h : go_ring_Step_j115 a0_62 a1_63 a2_64 v3110_1438 = some r := h
      rw [go_ring_Step_j115] at h
      refine SafeOps.nil ?_
      repeat (first | refine sq ?_ | refine sk ?_ | with_reducible first | refine tn ?_ | refine bn ?_)
      refine Safe.joinT (fun ((v314_1450, v317_1451, v3110_1452) : Int × (List Int) × Int) => go_ring_Step_j118 a2_64 v314_1450 v317_1451 v3110_1452 = some r) (fun ((v314_1450, v317_1451, v3110_1452) : Int × (List Int) × Int) => ⟨Try.f42.ntmps, [(0, V.ptr [31] 0 0)], [([7], Obj.box [V.int .i64 0, V.int .i64 0, V.int .i64 0, V.int .i64 0, V.int .i64 0, V.bool false, V.int .i64 0]), ([31], Obj.box [V.int .i64 a2_64.Kind, V.int .i64 a2_64.Pc, V.int .i64 a2_64.V, V.int .i64 a2_64.T, V.int .i64 v314_1450, V.bool a2_64.Won, V.int .i64 a2_64.State, V.ref [7000, 114, 31, 7] 0 (rws (fun n => [V.int .i64 n]) v317_1451).length, V.int .i64 a1_63.Base, V.int .i64 a1_63.Cap, V.int .i64 v3110_1452]), ([7000, 114, 31, 7], Obj.rows 1 (rws (fun n => [V.int .i64 n]) v317_1451) false)], [(Try.f8.ntmps, [(7, V.ptr [7] 0 0), (9, V.ptr [31] 0 0)])], [40]⟩) ?_ (fun HJ1453 => ?_)
      ·rintro ⟨v314_1450, v317_1451, v3110_1452⟩ h
       replace h : go_ring_Step_j118 a2_64 v314_1450 v317_1451 v3110_1452 = some r := h
       rw [go_ring_Step_j118] at h
       repeat (first | refine sq ?_ | refine sk ?_ | with_reducible first | refine tn ?_ | refine bn ?_)
       refine Safe.region ?_
       refine Qf E_good ?_
       refine Q0 E_good rfl (v := V.ptr [31] 0 0) (.fn rfl) ?_
       refine Q0 E_good rfl (v := V.ptr [31] 0 0) (.fn rfl) ?_
       refine Q0 E_good rfl (v := V.ptr [31] 0 1) (.fn rfl) ?_
       refine Q0 E_good rfl (v := V.int .i64 a2_64.Pc) (.load rfl rfl (.box rfl rfl) rfl) ?_
       refine Q0 E_good rfl (v := V.int .i64 (IntKind.i64.wrap (a2_64.Pc + 1))) (.fn rfl) ?_
       refine Q0 E_good rfl (v := V.ptr [31] 0 0) (.fn rfl) ?_
       refine Q0 E_good rfl (v := V.ptr [31] 0 0) (.fn rfl) ?_
       refine Q0 E_good rfl (v := V.ptr [31] 0 1) (.fn rfl) ?_
       refine SafeOps.store (z := Obj.box [V.int .i64 a2_64.Kind, V.int .i64 (IntKind.i64.wrap (a2_64.Pc + 1)), V.int .i64 a2_64.V, V.int .i64 a2_64.T, V.int .i64 v314_1450, V.bool a2_64.Won, V.int .i64 a2_64.State, V.ref [7000, 114, 31, 7] 0 (rws (fun n => [V.int .i64 n]) v317_1451).length, V.int .i64 a1_63.Base, V.int .i64 a1_63.Cap, V.int .i64 v3110_1452]) E_good rfl rfl rfl rfl rfl rfl rfl (.boxM (c := 11) rfl rfl (Nat.le_of_ble_eq_true rfl) rfl) ?_
       refine SafeOps.nil ?_
       repeat (first | refine sq ?_ | refine sk ?_ | with_reducible first | refine tn ?_ | refine bn ?_)
       repeat (first | with_reducible refine thenQ.r ?_ | with_reducible refine blockQ.r ?_)
       refine inQ.gen (vs := []) (v := V.tup []) (.inl rfl) rfl .nil rfl ?_
       exact SafeOps.got (HJ1246 (IntKind.i64.wrap (a2_64.Pc + 1), a2_64.V, a2_64.T, v314_1450, a2_64.Won, a2_64.State, v317_1451, v3110_1452) h) (.cov ⟨rfl, rfl, (ut (ut upT_nil)), (uo (uo (uo upOb_nil))), upOut_nil, rfl⟩)
      ·skip
       refine ifG h (fun hc1454 h => ?_) (fun hc1454 h => ?_)
       ·skip
        refine Safe.condK rfl hc1454 ?_
        repeat (first | refine sq ?_ | refine sk ?_ | with_reducible first | refine tn ?_ | refine bn ?_)
        refine Safe.region ?_
        refine Qf E_good ?_
        refine Q0 E_good rfl (v := V.ptr [31] 0 0) (.fn rfl) ?_
        refine Q0 E_good rfl (v := V.ptr [31] 0 0) (.fn rfl) ?_
        refine Q0 E_good rfl (v := V.ptr [31] 0 4) (.fn rfl) ?_
        refine Q0 E_good rfl (v := V.int .i64 a2_64.B) (.load rfl rfl (.box rfl rfl) rfl) ?_
        refine Q0 E_good rfl (v := V.int .i64 (IntKind.i64.wrap (a2_64.B - 1))) (.fn rfl) ?_
        refine Q0 E_good rfl (v := V.ptr [31] 0 0) (.fn rfl) ?_
        refine Q0 E_good rfl (v := V.ptr [31] 0 0) (.fn rfl) ?_
        refine Q0 E_good rfl (v := V.ptr [31] 0 4) (.fn rfl) ?_
        refine SafeOps.store (z := Obj.box [V.int .i64 a2_64.Kind, V.int .i64 a2_64.Pc, V.int .i64 a2_64.V, V.int .i64 a2_64.T, V.int .i64 (IntKind.i64.wrap (a2_64.B - 1)), V.bool a2_64.Won, V.int .i64 a2_64.State, V.ref [28] 0 (rws (fun n => [V.int .i64 n]) ([] ++ a0_62)).length, V.int .i64 a1_63.Base, V.int .i64 a1_63.Cap, V.int .i64 v3110_1438]) E_good rfl rfl rfl rfl rfl rfl rfl (.boxM (c := 11) rfl rfl (Nat.le_of_ble_eq_true rfl) rfl) ?_
        refine SafeOps.nil ?_
        repeat (first | refine sq ?_ | refine sk ?_ | with_reducible first | refine tn ?_ | refine bn ?_)
        refine Safe.regionD (n := 9) [] [8] E_good mixed rfl ?_
        refine DT 0 [] rfl rfl (fun _ hz => (.fn rfl)) ?_
        refine DT 1 [] rfl rfl (fun _ hz => (.fn rfl)) ?_
        refine DT 2 [] rfl rfl (v := V.int .i64 (go_pring_actor_bottom (ring_actor.mk (api_Hand.mk a2_64.Kind a2_64.Pc a2_64.V a2_64.T (IntKind.i64.wrap (a2_64.B - 1)) a2_64.Won a2_64.State) ([] ++ a0_62) a1_63 v3110_1438))) (fun _ hz => (.callS rfl (.cons (.box (hz _ _ rfl rfl) (.cons (.free rfl) (.cons (.free rfl) (.cons (.free rfl) (.cons (.free rfl) (.cons (.free rfl) (.cons (.free rfl) (.cons (.free rfl) (.cons (.full (hz _ _ rfl rfl) rfl) (.cons (.free rfl) (.cons (.free rfl) (.cons (.free rfl) .nil)))))))))))) .nil) (go_pring_actor_bottom_sc (ring_actor.mk (api_Hand.mk a2_64.Kind a2_64.Pc a2_64.V a2_64.T (IntKind.i64.wrap (a2_64.B - 1)) a2_64.Won a2_64.State) ([] ++ a0_62) a1_63 v3110_1438) _ rfl) (.plain rfl) rfl)) ?_
        refine DT 3 [] rfl rfl (fun _ hz => (.fn rfl)) ?_
        refine DT 4 [] rfl rfl (v := V.ptr [31] 0 0) (fun _ hz => (.fn rfl)) ?_
        refine DT 5 [] rfl rfl (v := V.ptr [31] 0 0) (fun _ hz => (.fn rfl)) ?_
        refine DT 6 [] rfl rfl (v := V.ptr [31] 0 4) (fun _ hz => (.fn rfl)) ?_
        refine DT 7 [] rfl rfl (v := V.int .i64 (IntKind.i64.wrap (a2_64.B - 1))) (fun _ hz => (.load rfl rfl (.box (hz _ _ rfl rfl) rfl) rfl)) ?_
        refine DAny.onlyS (i := 8) rfl (by kernel_rfl) rfl ?_
        refine SafeOps.joinT 1 (fun ((v317_1462, v3110_1463) : (List Int) × Int) => go_ring_Step_j120 a2_64 v317_1462 v3110_1463 = some r) (fun ((v317_1462, v3110_1463) : (List Int) × Int) => ⟨Try.f42.ntmps, [(0, V.ptr [31] 0 0)], [([7], Obj.box [V.int .i64 0, V.int .i64 0, V.int .i64 0, V.int .i64 0, V.int .i64 0, V.bool false, V.int .i64 0]), ([31], Obj.box [V.int .i64 a2_64.Kind, V.int .i64 a2_64.Pc, V.int .i64 a2_64.V, V.int .i64 a2_64.T, V.int .i64 (IntKind.i64.wrap (a2_64.B - 1)), V.bool a2_64.Won, V.int .i64 a2_64.State, V.ref [7000, 114, 31, 7] 0 (rws (fun n => [V.int .i64 n]) v317_1462).length, V.int .i64 a1_63.Base, V.int .i64 a1_63.Cap, V.int .i64 v3110_1463]), ([7000, 114, 31, 7], Obj.rows 1 (rws (fun n => [V.int .i64 n]) v317_1462) false)], [(Try.f8.ntmps, [(7, V.ptr [7] 0 0), (9, V.ptr [31] 0 0)])], [40]⟩) ?_ (fun HJ1464 => ?_)
        ·rintro ⟨v317_1462, v3110_1463⟩ h
         replace h : go_ring_Step_j120 a2_64 v317_1462 v3110_1463 = some r := h
         rw [go_ring_Step_j120] at h
         refine SafeOps.nil ⟨rfl, ?_⟩
         refine DAny.nil (by kernel_rfl) ?_
         repeat (first | refine Safe.skip ?_ | with_reducible refine thenQ.n ?_ | with_reducible refine blockQ.n ?_)
         exact Safe.got (HJ1453 (IntKind.i64.wrap (a2_64.B - 1), v317_1462, v3110_1463) h) (.cov ⟨rfl, rfl, (ut upT_nil), (uo (uo (uo upOb_nil))), (upOut_cons rfl (ut (ut upT_nil)) upOut_nil), rfl⟩)
        ·skip
         refine SafeOps.inline E_good rfl rfl rfl rfl rfl Try.func57 rfl (fun _ _ => Try.call57 _ _) rfl ?_
         repeat (first | refine sq ?_ | refine sk ?_ | with_reducible first | refine tn ?_ | refine bn ?_)
         refine Safe.region ?_
         refine Qf E_good ?_
         refine Q0 E_good rfl (v := V.ptr [31] 0 0) (.fn rfl) ?_
         refine Q0 E_good rfl (v := V.ptr [31] 0 7) (.fn rfl) ?_
         refine Q0 E_good rfl (v := V.ref [28] 0 (rws (fun n => [V.int .i64 n]) ([] ++ a0_62)).length) (.load rfl rfl (.box rfl rfl) rfl) ?_
         refine Qf E_good ?_
         refine Qf E_good ?_
         refine bindG h ?_
         rintro ⟨x_1465, x_1466⟩ he1467 h
         refine SafeOps.quiet E_good rfl rfl rfl (v := V.tup [V.ref [40, 27, 15, 0] 0 (rws (fun n => [V.int .i64 n]) x_1465).length, V.int .i64 x_1466]) (.callS rfl (.cons (.full rfl rfl) (.cons (.free rfl) (.cons (.free rfl) .nil))) (go_cell_Store_sc ([] ++ a0_62) (go_pring_actor_bottom (ring_actor.mk (api_Hand.mk a2_64.Kind a2_64.Pc a2_64.V a2_64.T (IntKind.i64.wrap (a2_64.B - 1)) a2_64.Won a2_64.State) ([] ++ a0_62) a1_63 v3110_1438)) (IntKind.i64.wrap (a2_64.B - 1)) _ he1467) (.tupL (.cons (.ownM (fun _ => rfl)) (.cons (.plain rfl) .nil))) rfl) rfl ?_
         refine Qf E_good ?_
         refine Qf E_good ?_
         refine Qf E_good ?_
         refine Qf E_good ?_
         refine Qf E_good ?_
         refine SafeOps.nil ?_
         repeat (first | refine sq ?_ | refine sk ?_ | with_reducible first | refine tn ?_ | refine bn ?_)
         refine Safe.region ?_
         refine Qf E_good ?_
         refine Qf E_good ?_
         refine Q0 E_good rfl (v := V.bool (x_1466 == 0)) (.fn rfl) ?_
         refine SafeOps.joinT 1 (fun (v3110_1469 : Int) => go_ring_Step_j121 a0_62 a2_64 x_1465 x_1466 v3110_1469 = some r) (fun (v3110_1469 : Int) => ⟨Try.f57.ntmps, [(0, V.ptr [31] 0 0), (6, V.ref [40, 27, 15, 0] 0 (rws (fun n => [V.int .i64 n]) x_1465).length), (21, V.bool (x_1466 == 0))], [([7], Obj.box [V.int .i64 0, V.int .i64 0, V.int .i64 0, V.int .i64 0, V.int .i64 0, V.bool false, V.int .i64 0]), ([28], Obj.rows 1 (rws (fun n => [V.int .i64 n]) ([] ++ a0_62)) false), ([31], Obj.box [V.int .i64 a2_64.Kind, V.int .i64 a2_64.Pc, V.int .i64 a2_64.V, V.int .i64 a2_64.T, V.int .i64 (IntKind.i64.wrap (a2_64.B - 1)), V.bool a2_64.Won, V.int .i64 a2_64.State, V.ref [28] 0 (rws (fun n => [V.int .i64 n]) ([] ++ a0_62)).length, V.int .i64 a1_63.Base, V.int .i64 a1_63.Cap, V.int .i64 v3110_1469]), ([40, 27, 15, 0], Obj.rows 1 (rws (fun n => [V.int .i64 n]) x_1465) false)], [(Try.f42.ntmps, [(0, V.ptr [31] 0 0)]), (Try.f8.ntmps, [(7, V.ptr [7] 0 0), (9, V.ptr [31] 0 0)])], [40, 27]⟩) ?_ (fun HJ1470 => ?_)
         ·intro v3110_1469 h
          replace h : go_ring_Step_j121 a0_62 a2_64 x_1465 x_1466 v3110_1469 = some r := h
          rw [go_ring_Step_j121] at h
          refine SafeOps.nil ?_
          repeat (first | refine sq ?_ | refine sk ?_ | with_reducible first | refine tn ?_ | refine bn ?_)
          refine ifG h (fun hc1471 h => ?_) (fun hc1471 h => ?_)
          ·skip
           refine Safe.condK rfl hc1471 ?_
           repeat (first | refine sq ?_ | refine sk ?_ | with_reducible first | refine tn ?_ | refine bn ?_)
           refine Safe.region ?_
           refine Qf E_good ?_
           refine Qf E_good ?_
           refine Q0 E_good rfl (v := V.ptr [31] 0 0) (.fn rfl) ?_
           refine Q0 E_good rfl (v := V.ptr [31] 0 7) (.fn rfl) ?_
           refine SafeOps.store (z := Obj.box [V.int .i64 a2_64.Kind, V.int .i64 a2_64.Pc, V.int .i64 a2_64.V, V.int .i64 a2_64.T, V.int .i64 (IntKind.i64.wrap (a2_64.B - 1)), V.bool a2_64.Won, V.int .i64 a2_64.State, V.ref [40, 27, 15, 0] 0 (rws (fun n => [V.int .i64 n]) x_1465).length, V.int .i64 a1_63.Base, V.int .i64 a1_63.Cap, V.int .i64 v3110_1469]) E_good rfl rfl rfl rfl rfl rfl rfl (.boxM (c := 11) rfl rfl (Nat.le_of_ble_eq_true rfl) rfl) ?_
           refine SafeOps.nil ?_
           repeat (first | refine sq ?_ | refine sk ?_ | with_reducible first | refine tn ?_ | refine bn ?_)
           repeat (first | with_reducible refine thenQ.r ?_ | with_reducible refine blockQ.r ?_)
           refine inQ.gen (vs := []) (v := V.tup []) (.inl rfl) rfl .nil rfl ?_
           exact SafeOps.got (HJ1464 (x_1465, v3110_1469) h) (.ren [40, 27, 15, 0] [7000, 114, 31, 7] (.cov ⟨rfl, rfl, (ut upT_nil), (uo (uo (uo upOb_nil))), (upOut_cons rfl (ut (ut upT_nil)) upOut_nil), rfl⟩))
          ·skip
           refine Safe.condN rfl hc1471 ?_
           repeat (first | refine sq ?_ | refine sk ?_ | with_reducible first | refine tn ?_ | refine bn ?_)
           repeat (first | with_reducible refine thenQ.r ?_ | with_reducible refine blockQ.r ?_)
           refine inQ.gen (vs := []) (v := V.tup []) (.inl rfl) rfl .nil rfl ?_
           exact SafeOps.got (HJ1464 ([] ++ a0_62, v3110_1469) h) (.ren [28] [7000, 114, 31, 7] (.cov ⟨rfl, rfl, (ut upT_nil), (uo (uo (uo upOb_nil))), (upOut_cons rfl (ut (ut upT_nil)) upOut_nil), rfl⟩))
         ·skip
          refine SafeOps.inline E_good rfl rfl rfl rfl rfl Try.func54 rfl (fun _ _ => Try.call54 _ _) rfl ?_
          repeat (first | refine sq ?_ | refine sk ?_ | with_reducible first | refine tn ?_ | refine bn ?_)
          refine Safe.region ?_
          refine Qf E_good ?_
          refine SafeOps.nil ?_
          repeat (first | refine sq ?_ | refine sk ?_ | with_reducible first | refine tn ?_ | refine bn ?_)
          refine Safe.region ?_
          refine Qf E_good ?_
          refine Q0 E_good rfl (v := V.bool (!(x_1466 == 0))) (.fn rfl) ?_
          refine SafeOps.nil ?_
          repeat (first | refine sq ?_ | refine sk ?_ | with_reducible first | refine tn ?_ | refine bn ?_)
          refine ifG h (fun hc1472 h => ?_) (fun hc1472 h => ?_)
          ·skip
           refine Safe.condK rfl hc1472 ?_
           repeat (first | refine sq ?_ | refine sk ?_ | with_reducible first | refine tn ?_ | refine bn ?_)
           refine Safe.region ?_
           refine Qf E_good ?_
           refine Q0 E_good rfl (v := V.ptr [31] 0 0) (.fn rfl) ?_
           refine Q0 E_good rfl (v := V.ptr [31] 0 10) (.fn rfl) ?_
           refine SafeOps.store (z := Obj.box [V.int .i64 a2_64.Kind, V.int .i64 a2_64.Pc, V.int .i64 a2_64.V, V.int .i64 a2_64.T, V.int .i64 (IntKind.i64.wrap (a2_64.B - 1)), V.bool a2_64.Won, V.int .i64 a2_64.State, V.ref [28] 0 (rws (fun n => [V.int .i64 n]) ([] ++ a0_62)).length, V.int .i64 a1_63.Base, V.int .i64 a1_63.Cap, V.int .i64 9]) E_good rfl rfl rfl rfl rfl rfl rfl (.boxM (c := 11) rfl rfl (Nat.le_of_ble_eq_true rfl) rfl) ?_
           refine SafeOps.nil ?_
           repeat (first | refine sq ?_ | refine sk ?_ | with_reducible first | refine tn ?_ | refine bn ?_)
           refine Safe.region ?_
           refine Qf E_good ?_
           refine Qf E_good ?_
           refine SafeOps.nil ?_
           repeat (first | refine sq ?_ | refine sk ?_ | with_reducible first | refine tn ?_ | refine bn ?_)
           refine Safe.ret ?_
           repeat (first | with_reducible refine thenQ.r ?_ | with_reducible refine blockQ.r ?_)
           refine inQ.gen (vs := [V.bool (x_1466 == 0)]) (v := V.bool (x_1466 == 0)) (.inr rfl) rfl (.tmp (v := V.bool (x_1466 == 0)) rfl .nil) rfl ?_
           exact SafeOps.got (HJ1470 (9) h) (.cov ⟨rfl, rfl, (ut (ut (ut upT_nil))), (uo (uo (uo (uo upOb_nil)))), (upOut_cons rfl (ut upT_nil) (upOut_cons rfl (ut (ut upT_nil)) upOut_nil)), rfl⟩)
          ·skip
           refine Safe.condN rfl hc1472 ?_
           repeat (first | refine sq ?_ | refine sk ?_ | with_reducible first | refine tn ?_ | refine bn ?_)
           refine Safe.region ?_
           refine Qf E_good ?_
           refine Qf E_good ?_
           refine SafeOps.nil ?_
           repeat (first | refine sq ?_ | refine sk ?_ | with_reducible first | refine tn ?_ | refine bn ?_)
           refine Safe.ret ?_
           repeat (first | with_reducible refine thenQ.r ?_ | with_reducible refine blockQ.r ?_)
           refine inQ.gen (vs := [V.bool (x_1466 == 0)]) (v := V.bool (x_1466 == 0)) (.inr rfl) rfl (.tmp (v := V.bool (x_1466 == 0)) rfl .nil) rfl ?_
           exact SafeOps.got (HJ1470 (v3110_1438) h) (.cov ⟨rfl, rfl, (ut (ut (ut upT_nil))), (uo (uo (uo (uo upOb_nil)))), (upOut_cons rfl (ut upT_nil) (upOut_cons rfl (ut (ut upT_nil)) upOut_nil)), rfl⟩)
       ·skip
        refine Safe.condN rfl hc1454 ?_
        repeat (first | refine Safe.skip ?_ | with_reducible refine thenQ.n ?_ | with_reducible refine blockQ.n ?_)
        exact Safe.got (HJ1453 (a2_64.B, [] ++ a0_62, v3110_1438) h) (.ren [28] [7000, 114, 31, 7] (.cov ⟨rfl, rfl, (ut upT_nil), (uo (uo (uo upOb_nil))), (upOut_cons rfl (ut (ut upT_nil)) upOut_nil), rfl⟩))
     ·skip
      refine SafeOps.inline E_good rfl rfl rfl rfl rfl Try.func54 rfl (fun _ _ => Try.call54 _ _) rfl ?_
      repeat (first | refine sq ?_ | refine sk ?_ | with_reducible first | refine tn ?_ | refine bn ?_)
      refine Safe.region ?_
      refine Qf E_good ?_
      refine SafeOps.nil ?_
      repeat (first | refine sq ?_ | refine sk ?_ | with_reducible first | refine tn ?_ | refine bn ?_)
      refine Safe.region ?_
      refine Qf E_good ?_
      refine Q0 E_good rfl (v := V.bool (!(decide (a2_64.B ≥ 0)))) (.fn rfl) ?_
      refine SafeOps.nil ?_
      repeat (first | refine sq ?_ | refine sk ?_ | with_reducible first | refine tn ?_ | refine bn ?_)
      refine ifG h (fun hc1473 h => ?_) (fun hc1473 h => ?_)
      ·skip
       refine Safe.condK rfl hc1473 ?_
       repeat (first | refine sq ?_ | refine sk ?_ | with_reducible first | refine tn ?_ | refine bn ?_)
       refine Safe.region ?_
       refine Qf E_good ?_
       refine Q0 E_good rfl (v := V.ptr [31] 0 0) (.fn rfl) ?_
       refine Q0 E_good rfl (v := V.ptr [31] 0 10) (.fn rfl) ?_
       refine SafeOps.store (z := Obj.box [V.int .i64 a2_64.Kind, V.int .i64 a2_64.Pc, V.int .i64 a2_64.V, V.int .i64 a2_64.T, V.int .i64 a2_64.B, V.bool a2_64.Won, V.int .i64 a2_64.State, V.ref [28] 0 (rws (fun n => [V.int .i64 n]) ([] ++ a0_62)).length, V.int .i64 a1_63.Base, V.int .i64 a1_63.Cap, V.int .i64 9]) E_good rfl rfl rfl rfl rfl rfl rfl (.boxM (c := 11) rfl rfl (Nat.le_of_ble_eq_true rfl) rfl) ?_
       refine SafeOps.nil ?_
       repeat (first | refine sq ?_ | refine sk ?_ | with_reducible first | refine tn ?_ | refine bn ?_)
       refine Safe.region ?_
       refine Qf E_good ?_
       refine Qf E_good ?_
       refine SafeOps.nil ?_
       repeat (first | refine sq ?_ | refine sk ?_ | with_reducible first | refine tn ?_ | refine bn ?_)
       refine Safe.ret ?_
       repeat (first | with_reducible refine thenQ.r ?_ | with_reducible refine blockQ.r ?_)
       refine inQ.gen (vs := [V.bool (decide (a2_64.B ≥ 0))]) (v := V.bool (decide (a2_64.B ≥ 0))) (.inr rfl) rfl (.tmp (v := V.bool (decide (a2_64.B ≥ 0))) rfl .nil) rfl ?_
       exact SafeOps.got (HJ1439 (9) h) (.cov ⟨rfl, rfl, (ut (ut upT_nil)), (uo (uo (uo upOb_nil))), (upOut_cons rfl (ut (ut upT_nil)) upOut_nil), rfl⟩)
      ·skip
       refine Safe.condN rfl hc1473 ?_
       repeat (first | refine sq ?_ | refine sk ?_ | with_reducible first | refine tn ?_ | refine bn ?_)
       refine Safe.region ?_
       refine Qf E_good ?_
       refine Qf E_good ?_
       refine SafeOps.nil ?_
       repeat (first | refine sq ?_ | refine sk ?_ | with_reducible first | refine tn ?_ | refine bn ?_)
       refine Safe.ret ?_
       repeat (first | with_reducible refine thenQ.r ?_ | with_reducible refine blockQ.r ?_)
       refine inQ.gen (vs := [V.bool (decide (a2_64.B ≥ 0))]) (v := V.bool (decide (a2_64.B ≥ 0))) (.inr rfl) rfl (.tmp (v := V.bool (decide (a2_64.B ≥ 0))) rfl .nil) rfl ?_
       exact SafeOps.got (HJ1439 (0) h) (.cov ⟨rfl, rfl, (ut (ut upT_nil)), (uo (uo (uo upOb_nil))), (upOut_cons rfl (ut (ut upT_nil)) upOut_nil), rfl⟩)
    refine ifP_G h (fun hq1474 h => ?_) (fun _ h => ?_)
    ·skip
     refine SafeOps.see 38 (u := V.fn 43 []) rfl (up_fn hq1474) ?_
     refine SafeOps.inline E_good rfl rfl rfl rfl rfl Try.func43 rfl (fun _ _ => Try.call43 _ _) rfl ?_
     repeat (first | refine sq ?_ | refine sk ?_ | with_reducible first | refine tn ?_ | refine bn ?_)
     refine Safe.region ?_
     refine Qf E_good ?_
     refine Qf E_good ?_
     refine Qf E_good ?_
     refine Q0 E_good rfl (v := V.int .i64 (go_pring_actor_top (ring_actor.mk a2_64 ([] ++ a0_62) a1_63 0))) (.callS rfl (.cons (.box rfl (.cons (.free rfl) (.cons (.free rfl) (.cons (.free rfl) (.cons (.free rfl) (.cons (.free rfl) (.cons (.free rfl) (.cons (.free rfl) (.cons (.full rfl rfl) (.cons (.free rfl) (.cons (.free rfl) (.cons (.free rfl) .nil)))))))))))) .nil) (go_pring_actor_top_sc (ring_actor.mk a2_64 ([] ++ a0_62) a1_63 0) _ rfl) (.plain rfl) rfl) ?_
     refine SafeOps.inline E_good rfl rfl rfl rfl rfl Try.func28 rfl (fun _ _ => Try.call28 _ _) rfl ?_
     repeat (first | refine sq ?_ | refine sk ?_ | with_reducible first | refine tn ?_ | refine bn ?_)
     refine Safe.region ?_
     refine Qf E_good ?_
     refine SafeOps.nil ?_
     repeat (first | refine sq ?_ | refine sk ?_ | with_reducible first | refine tn ?_ | refine bn ?_)
     refine Safe.region ?_
     refine Qf E_good ?_
     refine Qf E_good ?_
     refine SafeOps.inline E_good rfl rfl rfl rfl rfl Try.func31 rfl (fun _ _ => Try.call31 _ _) rfl ?_
     repeat (first | refine sq ?_ | refine sk ?_ | with_reducible first | refine tn ?_ | refine bn ?_)
     refine Safe.region ?_
     refine Qf E_good ?_
     refine SafeOps.nil ?_
     repeat (first | refine sq ?_ | refine sk ?_ | with_reducible first | refine tn ?_ | refine bn ?_)
     refine Safe.region ?_
     refine Qf E_good ?_
     refine Q0 E_good rfl (v := V.ptr [31] 0 0) (.fn rfl) ?_
     refine Q0 E_good rfl (v := V.ptr [31] 0 7) (.fn rfl) ?_
     refine Q0 E_good rfl (v := V.ref [28] 0 (rws (fun n => [V.int .i64 n]) ([] ++ a0_62)).length) (.load rfl rfl (.box rfl rfl) rfl) ?_
     refine Qf E_good ?_
     refine bindG h ?_
     rintro ⟨x_1497, x_1498⟩ he1499 h
     refine Q0 E_good rfl (v := V.tup [V.int .i64 x_1497, V.int .i64 x_1498]) (.callS rfl (.cons (.full rfl rfl) (.cons (.free rfl) .nil)) (go_cell_Load_sc ([] ++ a0_62) (go_pring_actor_top (ring_actor.mk a2_64 ([] ++ a0_62) a1_63 0)) _ he1499) (.tupL (.cons (.plain rfl) (.cons (.plain rfl) .nil))) rfl) ?_
     refine Qf E_good ?_
     refine Qf E_good ?_
     refine Qf E_good ?_
     refine Qf E_good ?_
     refine Qf E_good ?_
     refine SafeOps.nil ?_
     repeat (first | refine sq ?_ | refine sk ?_ | with_reducible first | refine tn ?_ | refine bn ?_)
     refine Safe.region ?_
     refine Qf E_good ?_
     refine Qf E_good ?_
     refine Q0 E_good rfl (v := V.bool (x_1498 == 0)) (.fn rfl) ?_
     refine SafeOps.joinT 1 (fun (v3110_1501 : Int) => go_ring_Step_j126 a0_62 a2_64 x_1497 v3110_1501 = some r) (fun (v3110_1501 : Int) => ⟨Try.f31.ntmps, [(5, V.int .i64 x_1497)], [([7], Obj.box [V.int .i64 0, V.int .i64 0, V.int .i64 0, V.int .i64 0, V.int .i64 0, V.bool false, V.int .i64 0]), ([28], Obj.rows 1 (rws (fun n => [V.int .i64 n]) ([] ++ a0_62)) false), ([31], Obj.box [V.int .i64 a2_64.Kind, V.int .i64 a2_64.Pc, V.int .i64 a2_64.V, V.int .i64 a2_64.T, V.int .i64 a2_64.B, V.bool a2_64.Won, V.int .i64 a2_64.State, V.ref [28] 0 (rws (fun n => [V.int .i64 n]) ([] ++ a0_62)).length, V.int .i64 a1_63.Base, V.int .i64 a1_63.Cap, V.int .i64 v3110_1501])], [(Try.f28.ntmps, [(0, V.ptr [31] 0 0), (2, V.int .i64 0)]), (Try.f43.ntmps, [(0, V.ptr [31] 0 0), (2, V.ptr [31] 0 0)]), (Try.f8.ntmps, [(7, V.ptr [7] 0 0), (9, V.ptr [31] 0 0)])], [40, 6, 10]⟩) ?_ (fun HJ1502 => ?_)
     ·intro v3110_1501 h
      replace h : go_ring_Step_j126 a0_62 a2_64 x_1497 v3110_1501 = some r := h
      rw [go_ring_Step_j126] at h
      refine SafeOps.nil ?_
      repeat (first | refine sq ?_ | refine sk ?_ | with_reducible first | refine tn ?_ | refine bn ?_)
      refine Safe.region ?_
      refine Qf E_good ?_
      refine Qf E_good ?_
      refine SafeOps.nil ?_
      repeat (first | refine sq ?_ | refine sk ?_ | with_reducible first | refine tn ?_ | refine bn ?_)
      refine Safe.ret ?_
      repeat (first | with_reducible refine thenQ.r ?_ | with_reducible refine blockQ.r ?_)
      refine inQ.gen (vs := [V.int .i64 x_1497]) (v := V.int .i64 x_1497) (.inr rfl) rfl (.tmp (v := V.int .i64 x_1497) rfl .nil) rfl ?_
      refine Qf E_good ?_
      refine SafeOps.nil ?_
      repeat (first | refine sq ?_ | refine sk ?_ | with_reducible first | refine tn ?_ | refine bn ?_)
      refine Safe.region ?_
      refine Qf E_good ?_
      refine Qf E_good ?_
      refine Qf E_good ?_
      refine Q0 E_good rfl (v := V.bool (decide (x_1497 ≥ 0))) (.fn rfl) ?_
      refine Qf E_good ?_
      refine SafeOps.bjoin 3 18 (b := ((decide (x_1497 ≥ 0)) && (decide (x_1497 ≤ 1099511627776)))) (b1 := decide (x_1497 ≤ 1099511627776)) (b0 := false) (fun hc1503 K => ?_) (fun hc1503 K => ?_) bj_and ?_
      ·skip
       refine SafeOps.quiet0 E_good (congrArg some hc1503) rfl rfl (.fn rfl) ?_
       refine SafeOps.quiet0 E_good (congrArg some hc1503) rfl rfl (v := V.bool (decide (x_1497 ≤ 1099511627776))) (.fn rfl) ?_
       refine Q0 E_good rfl (v := V.bool (decide (x_1497 ≤ 1099511627776))) (.pickK rfl hc1503 rfl) ?_
       exact SafeOps.drop' 3 rfl rfl rfl K
      ·skip
       refine SafeOps.skip (congrArg some hc1503) rfl rfl ?_
       refine SafeOps.skip (congrArg some hc1503) rfl rfl ?_
       refine Q0 E_good rfl (v := V.bool false) (.pickK rfl hc1503 rfl) ?_
       exact SafeOps.drop' 3 rfl rfl rfl K
      refine SafeOps.joinT 1 (fun (v3110_1505 : Int) => go_ring_Step_j127 a0_62 a2_64 x_1497 v3110_1505 = some r) (fun (v3110_1505 : Int) => ⟨Try.f28.ntmps, [(7, V.int .i64 x_1497)], [([7], Obj.box [V.int .i64 0, V.int .i64 0, V.int .i64 0, V.int .i64 0, V.int .i64 0, V.bool false, V.int .i64 0]), ([28], Obj.rows 1 (rws (fun n => [V.int .i64 n]) ([] ++ a0_62)) false), ([31], Obj.box [V.int .i64 a2_64.Kind, V.int .i64 a2_64.Pc, V.int .i64 a2_64.V, V.int .i64 a2_64.T, V.int .i64 a2_64.B, V.bool a2_64.Won, V.int .i64 a2_64.State, V.ref [28] 0 (rws (fun n => [V.int .i64 n]) ([] ++ a0_62)).length, V.int .i64 a1_63.Base, V.int .i64 a1_63.Cap, V.int .i64 v3110_1505])], [(Try.f43.ntmps, [(0, V.ptr [31] 0 0), (2, V.ptr [31] 0 0)]), (Try.f8.ntmps, [(7, V.ptr [7] 0 0), (9, V.ptr [31] 0 0)])], [40, 6]⟩) ?_ (fun HJ1506 => ?_)
      ·intro v3110_1505 h
       replace h : go_ring_Step_j127 a0_62 a2_64 x_1497 v3110_1505 = some r := h
       rw [go_ring_Step_j127] at h
       refine SafeOps.nil ?_
       repeat (first | refine sq ?_ | refine sk ?_ | with_reducible first | refine tn ?_ | refine bn ?_)
       refine Safe.region ?_
       refine Qf E_good ?_
       refine Qf E_good ?_
       refine SafeOps.nil ?_
       repeat (first | refine sq ?_ | refine sk ?_ | with_reducible first | refine tn ?_ | refine bn ?_)
       refine Safe.ret ?_
       repeat (first | with_reducible refine thenQ.r ?_ | with_reducible refine blockQ.r ?_)
       refine inQ.gen (vs := [V.int .i64 x_1497]) (v := V.int .i64 x_1497) (.inr rfl) rfl (.tmp (v := V.int .i64 x_1497) rfl .nil) rfl ?_
       refine Q0 E_good rfl (v := V.ptr [31] 0 0) (.fn rfl) ?_
       refine Q0 E_good rfl (v := V.ptr [31] 0 0) (.fn rfl) ?_
       refine Q0 E_good rfl (v := V.ptr [31] 0 3) (.fn rfl) ?_
       refine SafeOps.store (z := Obj.box [V.int .i64 a2_64.Kind, V.int .i64 a2_64.Pc, V.int .i64 a2_64.V, V.int .i64 x_1497, V.int .i64 a2_64.B, V.bool a2_64.Won, V.int .i64 a2_64.State, V.ref [28] 0 (rws (fun n => [V.int .i64 n]) ([] ++ a0_62)).length, V.int .i64 a1_63.Base, V.int .i64 a1_63.Cap, V.int .i64 v3110_1505]) E_good rfl rfl rfl rfl rfl rfl rfl (.boxM (c := 11) rfl rfl (Nat.le_of_ble_eq_true rfl) rfl) ?_
       refine SafeOps.nil ?_
       repeat (first | refine sq ?_ | refine sk ?_ | with_reducible first | refine tn ?_ | refine bn ?_)
       refine Safe.region ?_
       refine Qf E_good ?_
       refine Q0 E_good rfl (v := V.ptr [31] 0 0) (.fn rfl) ?_
       refine Q0 E_good rfl (v := V.ptr [31] 0 0) (.fn rfl) ?_
       refine Q0 E_good rfl (v := V.ptr [31] 0 1) (.fn rfl) ?_
       refine SafeOps.store (z := Obj.box [V.int .i64 a2_64.Kind, V.int .i64 4, V.int .i64 a2_64.V, V.int .i64 x_1497, V.int .i64 a2_64.B, V.bool a2_64.Won, V.int .i64 a2_64.State, V.ref [28] 0 (rws (fun n => [V.int .i64 n]) ([] ++ a0_62)).length, V.int .i64 a1_63.Base, V.int .i64 a1_63.Cap, V.int .i64 v3110_1505]) E_good rfl rfl rfl rfl rfl rfl rfl (.boxM (c := 11) rfl rfl (Nat.le_of_ble_eq_true rfl) rfl) ?_
       refine SafeOps.nil ?_
       repeat (first | refine sq ?_ | refine sk ?_ | with_reducible first | refine tn ?_ | refine bn ?_)
       refine Safe.regionD (n := 11) [] [] E_good mixed rfl ?_
       refine DT 0 [] rfl rfl (fun _ hz => (.fn rfl)) ?_
       refine DT 1 [] rfl rfl (v := V.ptr [31] 0 0) (fun _ hz => (.fn rfl)) ?_
       refine DT 2 [] rfl rfl (v := V.ptr [31] 0 0) (fun _ hz => (.fn rfl)) ?_
       refine DT 3 [] rfl rfl (v := V.ptr [31] 0 3) (fun _ hz => (.fn rfl)) ?_
       refine DT 4 [] rfl rfl (v := V.int .i64 x_1497) (fun _ hz => (.load rfl rfl (.box (hz _ _ rfl rfl) rfl) rfl)) ?_
       refine DT 5 [] rfl rfl (fun _ hz => (.fn rfl)) ?_
       refine DT 6 [] rfl rfl (v := V.ptr [31] 0 0) (fun _ hz => (.fn rfl)) ?_
       refine DT 7 [] rfl rfl (v := V.ptr [31] 0 0) (fun _ hz => (.fn rfl)) ?_
       refine DT 8 [] rfl rfl (v := V.ptr [31] 0 4) (fun _ hz => (.fn rfl)) ?_
       refine DT 9 [] rfl rfl (v := V.int .i64 a2_64.B) (fun _ hz => (.load rfl rfl (.box (hz _ _ rfl rfl) rfl) rfl)) ?_
       refine DT 10 [] rfl rfl (v := V.bool (decide (x_1497 > a2_64.B))) (fun _ hz => (.fn rfl)) ?_
       refine DAny.nil (by kernel_rfl) ?_
       repeat (first | refine sq ?_ | refine sk ?_ | with_reducible first | refine tn ?_ | refine bn ?_)
       refine ifG h (fun hc1507 h => ?_) (fun hc1507 h => ?_)
       ·skip
        refine Safe.condK rfl hc1507 ?_
        repeat (first | refine sq ?_ | refine sk ?_ | with_reducible first | refine tn ?_ | refine bn ?_)
        refine Safe.region ?_
        refine Qf E_good ?_
        refine Q0 E_good rfl (v := V.ptr [31] 0 0) (.fn rfl) ?_
        refine Q0 E_good rfl (v := V.ptr [31] 0 0) (.fn rfl) ?_
        refine Q0 E_good rfl (v := V.ptr [31] 0 1) (.fn rfl) ?_
        refine SafeOps.store (z := Obj.box [V.int .i64 a2_64.Kind, V.int .i64 3, V.int .i64 a2_64.V, V.int .i64 x_1497, V.int .i64 a2_64.B, V.bool a2_64.Won, V.int .i64 a2_64.State, V.ref [28] 0 (rws (fun n => [V.int .i64 n]) ([] ++ a0_62)).length, V.int .i64 a1_63.Base, V.int .i64 a1_63.Cap, V.int .i64 v3110_1505]) E_good rfl rfl rfl rfl rfl rfl rfl (.boxM (c := 11) rfl rfl (Nat.le_of_ble_eq_true rfl) rfl) ?_
        refine SafeOps.nil ?_
        repeat (first | refine sq ?_ | refine sk ?_ | with_reducible first | refine tn ?_ | refine bn ?_)
        repeat (first | with_reducible refine thenQ.r ?_ | with_reducible refine blockQ.r ?_)
        refine inQ.gen (vs := []) (v := V.tup []) (.inl rfl) rfl .nil rfl ?_
        exact SafeOps.got (HJ1246 (3, a2_64.V, x_1497, a2_64.B, a2_64.Won, a2_64.State, [] ++ a0_62, v3110_1505) h) (.ren [28] [7000, 114, 31, 7] (.cov ⟨rfl, rfl, (ut (ut upT_nil)), (uo (uo (uo upOb_nil))), upOut_nil, rfl⟩))
       ·skip
        refine Safe.condN rfl hc1507 ?_
        repeat (first | refine sq ?_ | refine sk ?_ | with_reducible first | refine tn ?_ | refine bn ?_)
        repeat (first | with_reducible refine thenQ.r ?_ | with_reducible refine blockQ.r ?_)
        refine inQ.gen (vs := []) (v := V.tup []) (.inl rfl) rfl .nil rfl ?_
        exact SafeOps.got (HJ1246 (4, a2_64.V, x_1497, a2_64.B, a2_64.Won, a2_64.State, [] ++ a0_62, v3110_1505) h) (.ren [28] [7000, 114, 31, 7] (.cov ⟨rfl, rfl, (ut (ut upT_nil)), (uo (uo (uo upOb_nil))), upOut_nil, rfl⟩))
      ·skip
       refine SafeOps.inline E_good rfl rfl rfl rfl rfl Try.func54 rfl (fun _ _ => Try.call54 _ _) rfl ?_
       repeat (first | refine sq ?_ | refine sk ?_ | with_reducible first | refine tn ?_ | refine bn ?_)
       refine Safe.region ?_
       refine Qf E_good ?_
       refine SafeOps.nil ?_
       repeat (first | refine sq ?_ | refine sk ?_ | with_reducible first | refine tn ?_ | refine bn ?_)
       refine Safe.region ?_
       refine Qf E_good ?_
       refine Q0 E_good rfl (v := V.bool (!((decide (x_1497 ≥ 0)) && (decide (x_1497 ≤ 1099511627776))))) (.fn rfl) ?_
       refine SafeOps.nil ?_
       repeat (first | refine sq ?_ | refine sk ?_ | with_reducible first | refine tn ?_ | refine bn ?_)
       refine ifG h (fun hc1508 h => ?_) (fun hc1508 h => ?_)
       ·skip
        refine Safe.condK rfl hc1508 ?_
        repeat (first | refine sq ?_ | refine sk ?_ | with_reducible first | refine tn ?_ | refine bn ?_)
        refine Safe.region ?_
        refine Qf E_good ?_
        refine Q0 E_good rfl (v := V.ptr [31] 0 0) (.fn rfl) ?_
        refine Q0 E_good rfl (v := V.ptr [31] 0 10) (.fn rfl) ?_
        refine SafeOps.store (z := Obj.box [V.int .i64 a2_64.Kind, V.int .i64 a2_64.Pc, V.int .i64 a2_64.V, V.int .i64 a2_64.T, V.int .i64 a2_64.B, V.bool a2_64.Won, V.int .i64 a2_64.State, V.ref [28] 0 (rws (fun n => [V.int .i64 n]) ([] ++ a0_62)).length, V.int .i64 a1_63.Base, V.int .i64 a1_63.Cap, V.int .i64 9]) E_good rfl rfl rfl rfl rfl rfl rfl (.boxM (c := 11) rfl rfl (Nat.le_of_ble_eq_true rfl) rfl) ?_
        refine SafeOps.nil ?_
        repeat (first | refine sq ?_ | refine sk ?_ | with_reducible first | refine tn ?_ | refine bn ?_)
        refine Safe.region ?_
        refine Qf E_good ?_
        refine Qf E_good ?_
        refine SafeOps.nil ?_
        repeat (first | refine sq ?_ | refine sk ?_ | with_reducible first | refine tn ?_ | refine bn ?_)
        refine Safe.ret ?_
        repeat (first | with_reducible refine thenQ.r ?_ | with_reducible refine blockQ.r ?_)
        refine inQ.gen (vs := [V.bool ((decide (x_1497 ≥ 0)) && (decide (x_1497 ≤ 1099511627776)))]) (v := V.bool ((decide (x_1497 ≥ 0)) && (decide (x_1497 ≤ 1099511627776)))) (.inr rfl) rfl (.tmp (v := V.bool ((decide (x_1497 ≥ 0)) && (decide (x_1497 ≤ 1099511627776)))) rfl .nil) rfl ?_
        exact SafeOps.got (HJ1506 (9) h) (.cov ⟨rfl, rfl, (ut upT_nil), (uo (uo (uo upOb_nil))), (upOut_cons rfl (ut (ut upT_nil)) (upOut_cons rfl (ut (ut upT_nil)) upOut_nil)), rfl⟩)
       ·skip
        refine Safe.condN rfl hc1508 ?_
        repeat (first | refine sq ?_ | refine sk ?_ | with_reducible first | refine tn ?_ | refine bn ?_)
        refine Safe.region ?_
        refine Qf E_good ?_
        refine Qf E_good ?_
        refine SafeOps.nil ?_
        repeat (first | refine sq ?_ | refine sk ?_ | with_reducible first | refine tn ?_ | refine bn ?_)
        refine Safe.ret ?_
        repeat (first | with_reducible refine thenQ.r ?_ | with_reducible refine blockQ.r ?_)
        refine inQ.gen (vs := [V.bool ((decide (x_1497 ≥ 0)) && (decide (x_1497 ≤ 1099511627776)))]) (v := V.bool ((decide (x_1497 ≥ 0)) && (decide (x_1497 ≤ 1099511627776)))) (.inr rfl) rfl (.tmp (v := V.bool ((decide (x_1497 ≥ 0)) && (decide (x_1497 ≤ 1099511627776)))) rfl .nil) rfl ?_
        exact SafeOps.got (HJ1506 (v3110_1501) h) (.cov ⟨rfl, rfl, (ut upT_nil), (uo (uo (uo upOb_nil))), (upOut_cons rfl (ut (ut upT_nil)) (upOut_cons rfl (ut (ut upT_nil)) upOut_nil)), rfl⟩)
     ·skip
      refine SafeOps.inline E_good rfl rfl rfl rfl rfl Try.func54 rfl (fun _ _ => Try.call54 _ _) rfl ?_
      repeat (first | refine sq ?_ | refine sk ?_ | with_reducible first | refine tn ?_ | refine bn ?_)
      refine Safe.region ?_
      refine Qf E_good ?_
      refine SafeOps.nil ?_
      repeat (first | refine sq ?_ | refine sk ?_ | with_reducible first | refine tn ?_ | refine bn ?_)
      refine Safe.region ?_
      refine Qf E_good ?_
      refine Q0 E_good rfl (v := V.bool (!(x_1498 == 0))) (.fn rfl) ?_
      refine SafeOps.nil ?_
      repeat (first | refine sq ?_ | refine sk ?_ | with_reducible first | refine tn ?_ | refine bn ?_)
      refine ifG h (fun hc1509 h => ?_) (fun hc1509 h => ?_)
      ·skip
       refine Safe.condK rfl hc1509 ?_
       repeat (first | refine sq ?_ | refine sk ?_ | with_reducible first | refine tn ?_ | refine bn ?_)
       refine Safe.region ?_
       refine Qf E_good ?_
       refine Q0 E_good rfl (v := V.ptr [31] 0 0) (.fn rfl) ?_
       refine Q0 E_good rfl (v := V.ptr [31] 0 10) (.fn rfl) ?_
       refine SafeOps.store (z := Obj.box [V.int .i64 a2_64.Kind, V.int .i64 a2_64.Pc, V.int .i64 a2_64.V, V.int .i64 a2_64.T, V.int .i64 a2_64.B, V.bool a2_64.Won, V.int .i64 a2_64.State, V.ref [28] 0 (rws (fun n => [V.int .i64 n]) ([] ++ a0_62)).length, V.int .i64 a1_63.Base, V.int .i64 a1_63.Cap, V.int .i64 9]) E_good rfl rfl rfl rfl rfl rfl rfl (.boxM (c := 11) rfl rfl (Nat.le_of_ble_eq_true rfl) rfl) ?_
       refine SafeOps.nil ?_
       repeat (first | refine sq ?_ | refine sk ?_ | with_reducible first | refine tn ?_ | refine bn ?_)
       refine Safe.region ?_
       refine Qf E_good ?_
       refine Qf E_good ?_
       refine SafeOps.nil ?_
       repeat (first | refine sq ?_ | refine sk ?_ | with_reducible first | refine tn ?_ | refine bn ?_)
       refine Safe.ret ?_
       repeat (first | with_reducible refine thenQ.r ?_ | with_reducible refine blockQ.r ?_)
       refine inQ.gen (vs := [V.bool (x_1498 == 0)]) (v := V.bool (x_1498 == 0)) (.inr rfl) rfl (.tmp (v := V.bool (x_1498 == 0)) rfl .nil) rfl ?_
       exact SafeOps.got (HJ1502 (9) h) (.cov ⟨rfl, rfl, (ut upT_nil), (uo (uo (uo upOb_nil))), (upOut_cons rfl (ut (ut upT_nil)) (upOut_cons rfl (ut (ut upT_nil)) (upOut_cons rfl (ut (ut upT_nil)) upOut_nil))), rfl⟩)
      ·skip
       refine Safe.condN rfl hc1509 ?_
       repeat (first | refine sq ?_ | refine sk ?_ | with_reducible first | refine tn ?_ | refine bn ?_)
       refine Safe.region ?_
       refine Qf E_good ?_
       refine Qf E_good ?_
       refine SafeOps.nil ?_
       repeat (first | refine sq ?_ | refine sk ?_ | with_reducible first | refine tn ?_ | refine bn ?_)
       refine Safe.ret ?_
       repeat (first | with_reducible refine thenQ.r ?_ | with_reducible refine blockQ.r ?_)
       refine inQ.gen (vs := [V.bool (x_1498 == 0)]) (v := V.bool (x_1498 == 0)) (.inr rfl) rfl (.tmp (v := V.bool (x_1498 == 0)) rfl .nil) rfl ?_
       exact SafeOps.got (HJ1502 (0) h) (.cov ⟨rfl, rfl, (ut upT_nil), (uo (uo (uo upOb_nil))), (upOut_cons rfl (ut (ut upT_nil)) (upOut_cons rfl (ut (ut upT_nil)) (upOut_cons rfl (ut (ut upT_nil)) upOut_nil))), rfl⟩)
    refine ifP_G h (fun hq1510 h => ?_) (fun _ h => ?_)
    ·skip
     refine SafeOps.see 38 (u := V.fn 44 []) rfl (up_fn hq1510) ?_
     refine SafeOps.inline E_good rfl rfl rfl rfl rfl Try.func44 rfl (fun _ _ => Try.call44 _ _) rfl ?_
     repeat (first | refine sq ?_ | refine sk ?_ | with_reducible first | refine tn ?_ | refine bn ?_)
     refine Safe.region ?_
     refine Qf E_good ?_
     refine Qf E_good ?_
     refine Q0 E_good rfl (v := V.ptr [31] 0 0) (.fn rfl) ?_
     refine Q0 E_good rfl (v := V.ptr [31] 0 0) (.fn rfl) ?_
     refine Q0 E_good rfl (v := V.ptr [31] 0 3) (.fn rfl) ?_
     refine Q0 E_good rfl (v := V.int .i64 a2_64.T) (.load rfl rfl (.box rfl rfl) rfl) ?_
     refine Q0 E_good rfl (v := V.bool (decide (a2_64.T ≥ 0))) (.fn rfl) ?_
     refine SafeOps.joinT 1 (fun (v3110_1512 : Int) => go_ring_Step_j128 a0_62 a1_63 a2_64 v3110_1512 = some r) (fun (v3110_1512 : Int) => ⟨Try.f44.ntmps, [(0, V.ptr [31] 0 0), (9, V.bool (decide (a2_64.T ≥ 0)))], [([7], Obj.box [V.int .i64 0, V.int .i64 0, V.int .i64 0, V.int .i64 0, V.int .i64 0, V.bool false, V.int .i64 0]), ([28], Obj.rows 1 (rws (fun n => [V.int .i64 n]) ([] ++ a0_62)) false), ([31], Obj.box [V.int .i64 a2_64.Kind, V.int .i64 a2_64.Pc, V.int .i64 a2_64.V, V.int .i64 a2_64.T, V.int .i64 a2_64.B, V.bool a2_64.Won, V.int .i64 a2_64.State, V.ref [28] 0 (rws (fun n => [V.int .i64 n]) ([] ++ a0_62)).length, V.int .i64 a1_63.Base, V.int .i64 a1_63.Cap, V.int .i64 v3110_1512])], [(Try.f8.ntmps, [(7, V.ptr [7] 0 0), (9, V.ptr [31] 0 0)])], [40]⟩) ?_ (fun HJ1513 => ?_)
     ·intro v3110_1512 h
      replace h : go_ring_Step_j128 a0_62 a1_63 a2_64 v3110_1512 = some r := h
      rw [go_ring_Step_j128] at h
      refine SafeOps.nil ?_
      repeat (first | refine sq ?_ | refine sk ?_ | with_reducible first | refine tn ?_ | refine bn ?_)
      refine Safe.joinT (fun ((v317_1524, v3110_1525) : (List Int) × Int) => go_ring_Step_j131 a2_64 v317_1524 v3110_1525 = some r) (fun ((v317_1524, v3110_1525) : (List Int) × Int) => ⟨Try.f44.ntmps, [(0, V.ptr [31] 0 0)], [([7], Obj.box [V.int .i64 0, V.int .i64 0, V.int .i64 0, V.int .i64 0, V.int .i64 0, V.bool false, V.int .i64 0]), ([31], Obj.box [V.int .i64 a2_64.Kind, V.int .i64 a2_64.Pc, V.int .i64 a2_64.V, V.int .i64 a2_64.T, V.int .i64 a2_64.B, V.bool a2_64.Won, V.int .i64 a2_64.State, V.ref [7000, 114, 31, 7] 0 (rws (fun n => [V.int .i64 n]) v317_1524).length, V.int .i64 a1_63.Base, V.int .i64 a1_63.Cap, V.int .i64 v3110_1525]), ([7000, 114, 31, 7], Obj.rows 1 (rws (fun n => [V.int .i64 n]) v317_1524) false)], [(Try.f8.ntmps, [(7, V.ptr [7] 0 0), (9, V.ptr [31] 0 0)])], [40]⟩) ?_ (fun HJ1526 => ?_)
      ·rintro ⟨v317_1524, v3110_1525⟩ h
       replace h : go_ring_Step_j131 a2_64 v317_1524 v3110_1525 = some r := h
       rw [go_ring_Step_j131] at h
       repeat (first | refine sq ?_ | refine sk ?_ | with_reducible first | refine tn ?_ | refine bn ?_)
       refine Safe.region ?_
       refine Qf E_good ?_
       refine Q0 E_good rfl (v := V.ptr [31] 0 0) (.fn rfl) ?_
       refine Q0 E_good rfl (v := V.ptr [31] 0 0) (.fn rfl) ?_
       refine Q0 E_good rfl (v := V.ptr [31] 0 6) (.fn rfl) ?_
       refine SafeOps.store (z := Obj.box [V.int .i64 a2_64.Kind, V.int .i64 a2_64.Pc, V.int .i64 a2_64.V, V.int .i64 a2_64.T, V.int .i64 a2_64.B, V.bool a2_64.Won, V.int .i64 2, V.ref [7000, 114, 31, 7] 0 (rws (fun n => [V.int .i64 n]) v317_1524).length, V.int .i64 a1_63.Base, V.int .i64 a1_63.Cap, V.int .i64 v3110_1525]) E_good rfl rfl rfl rfl rfl rfl rfl (.boxM (c := 11) rfl rfl (Nat.le_of_ble_eq_true rfl) rfl) ?_
       refine SafeOps.nil ?_
       repeat (first | refine sq ?_ | refine sk ?_ | with_reducible first | refine tn ?_ | refine bn ?_)
       repeat (first | with_reducible refine thenQ.r ?_ | with_reducible refine blockQ.r ?_)
       refine inQ.gen (vs := []) (v := V.tup []) (.inl rfl) rfl .nil rfl ?_
       exact SafeOps.got (HJ1246 (a2_64.Pc, a2_64.V, a2_64.T, a2_64.B, a2_64.Won, 2, v317_1524, v3110_1525) h) (.cov ⟨rfl, rfl, (ut (ut upT_nil)), (uo (uo (uo upOb_nil))), upOut_nil, rfl⟩)
      ·skip
       refine ifG h (fun hc1527 h => ?_) (fun hc1527 h => ?_)
       ·skip
        refine Safe.condK rfl hc1527 ?_
        repeat (first | refine sq ?_ | refine sk ?_ | with_reducible first | refine tn ?_ | refine bn ?_)
        refine Safe.regionD (n := 9) [] [8] E_good mixed rfl ?_
        refine DT 0 [] rfl rfl (fun _ hz => (.fn rfl)) ?_
        refine DT 1 [] rfl rfl (fun _ hz => (.fn rfl)) ?_
        refine DT 2 [] rfl rfl (v := V.int .i64 (go_pring_actor_bottom (ring_actor.mk a2_64 ([] ++ a0_62) a1_63 v3110_1512))) (fun _ hz => (.callS rfl (.cons (.box (hz _ _ rfl rfl) (.cons (.free rfl) (.cons (.free rfl) (.cons (.free rfl) (.cons (.free rfl) (.cons (.free rfl) (.cons (.free rfl) (.cons (.free rfl) (.cons (.full (hz _ _ rfl rfl) rfl) (.cons (.free rfl) (.cons (.free rfl) (.cons (.free rfl) .nil)))))))))))) .nil) (go_pring_actor_bottom_sc (ring_actor.mk a2_64 ([] ++ a0_62) a1_63 v3110_1512) _ rfl) (.plain rfl) rfl)) ?_
        refine DT 3 [] rfl rfl (fun _ hz => (.fn rfl)) ?_
        refine DT 4 [] rfl rfl (v := V.ptr [31] 0 0) (fun _ hz => (.fn rfl)) ?_
        refine DT 5 [] rfl rfl (v := V.ptr [31] 0 0) (fun _ hz => (.fn rfl)) ?_
        refine DT 6 [] rfl rfl (v := V.ptr [31] 0 3) (fun _ hz => (.fn rfl)) ?_
        refine DT 7 [] rfl rfl (v := V.int .i64 a2_64.T) (fun _ hz => (.load rfl rfl (.box (hz _ _ rfl rfl) rfl) rfl)) ?_
        refine DAny.onlyS (i := 8) rfl (by kernel_rfl) rfl ?_
        refine SafeOps.joinT 1 (fun ((v317_1535, v3110_1536) : (List Int) × Int) => go_ring_Step_j133 a2_64 v317_1535 v3110_1536 = some r) (fun ((v317_1535, v3110_1536) : (List Int) × Int) => ⟨Try.f44.ntmps, [(0, V.ptr [31] 0 0)], [([7], Obj.box [V.int .i64 0, V.int .i64 0, V.int .i64 0, V.int .i64 0, V.int .i64 0, V.bool false, V.int .i64 0]), ([31], Obj.box [V.int .i64 a2_64.Kind, V.int .i64 a2_64.Pc, V.int .i64 a2_64.V, V.int .i64 a2_64.T, V.int .i64 a2_64.B, V.bool a2_64.Won, V.int .i64 a2_64.State, V.ref [7000, 114, 31, 7] 0 (rws (fun n => [V.int .i64 n]) v317_1535).length, V.int .i64 a1_63.Base, V.int .i64 a1_63.Cap, V.int .i64 v3110_1536]), ([7000, 114, 31, 7], Obj.rows 1 (rws (fun n => [V.int .i64 n]) v317_1535) false)], [(Try.f8.ntmps, [(7, V.ptr [7] 0 0), (9, V.ptr [31] 0 0)])], [40]⟩) ?_ (fun HJ1537 => ?_)
        ·rintro ⟨v317_1535, v3110_1536⟩ h
         replace h : go_ring_Step_j133 a2_64 v317_1535 v3110_1536 = some r := h
         rw [go_ring_Step_j133] at h
         refine SafeOps.nil ⟨rfl, ?_⟩
         refine DAny.nil (by kernel_rfl) ?_
         repeat (first | refine Safe.skip ?_ | with_reducible refine thenQ.n ?_ | with_reducible refine blockQ.n ?_)
         exact Safe.got (HJ1526 (v317_1535, v3110_1536) h) (.cov ⟨rfl, rfl, (ut upT_nil), (uo (uo (uo upOb_nil))), (upOut_cons rfl (ut (ut upT_nil)) upOut_nil), rfl⟩)
        ·skip
         refine SafeOps.inline E_good rfl rfl rfl rfl rfl Try.func57 rfl (fun _ _ => Try.call57 _ _) rfl ?_
         repeat (first | refine sq ?_ | refine sk ?_ | with_reducible first | refine tn ?_ | refine bn ?_)
         refine Safe.region ?_
         refine Qf E_good ?_
         refine Q0 E_good rfl (v := V.ptr [31] 0 0) (.fn rfl) ?_
         refine Q0 E_good rfl (v := V.ptr [31] 0 7) (.fn rfl) ?_
         refine Q0 E_good rfl (v := V.ref [28] 0 (rws (fun n => [V.int .i64 n]) ([] ++ a0_62)).length) (.load rfl rfl (.box rfl rfl) rfl) ?_
         refine Qf E_good ?_
         refine Qf E_good ?_
         refine bindG h ?_
         rintro ⟨x_1538, x_1539⟩ he1540 h
         refine SafeOps.quiet E_good rfl rfl rfl (v := V.tup [V.ref [40, 18, 15, 0] 0 (rws (fun n => [V.int .i64 n]) x_1538).length, V.int .i64 x_1539]) (.callS rfl (.cons (.full rfl rfl) (.cons (.free rfl) (.cons (.free rfl) .nil))) (go_cell_Store_sc ([] ++ a0_62) (go_pring_actor_bottom (ring_actor.mk a2_64 ([] ++ a0_62) a1_63 v3110_1512)) a2_64.T _ he1540) (.tupL (.cons (.ownM (fun _ => rfl)) (.cons (.plain rfl) .nil))) rfl) rfl ?_
         refine Qf E_good ?_
         refine Qf E_good ?_
         refine Qf E_good ?_
         refine Qf E_good ?_
         refine Qf E_good ?_
         refine SafeOps.nil ?_
         repeat (first | refine sq ?_ | refine sk ?_ | with_reducible first | refine tn ?_ | refine bn ?_)
         refine Safe.region ?_
         refine Qf E_good ?_
         refine Qf E_good ?_
         refine Q0 E_good rfl (v := V.bool (x_1539 == 0)) (.fn rfl) ?_
         refine SafeOps.joinT 1 (fun (v3110_1542 : Int) => go_ring_Step_j134 a0_62 a2_64 x_1538 x_1539 v3110_1542 = some r) (fun (v3110_1542 : Int) => ⟨Try.f57.ntmps, [(0, V.ptr [31] 0 0), (6, V.ref [40, 18, 15, 0] 0 (rws (fun n => [V.int .i64 n]) x_1538).length), (21, V.bool (x_1539 == 0))], [([7], Obj.box [V.int .i64 0, V.int .i64 0, V.int .i64 0, V.int .i64 0, V.int .i64 0, V.bool false, V.int .i64 0]), ([28], Obj.rows 1 (rws (fun n => [V.int .i64 n]) ([] ++ a0_62)) false), ([31], Obj.box [V.int .i64 a2_64.Kind, V.int .i64 a2_64.Pc, V.int .i64 a2_64.V, V.int .i64 a2_64.T, V.int .i64 a2_64.B, V.bool a2_64.Won, V.int .i64 a2_64.State, V.ref [28] 0 (rws (fun n => [V.int .i64 n]) ([] ++ a0_62)).length, V.int .i64 a1_63.Base, V.int .i64 a1_63.Cap, V.int .i64 v3110_1542]), ([40, 18, 15, 0], Obj.rows 1 (rws (fun n => [V.int .i64 n]) x_1538) false)], [(Try.f44.ntmps, [(0, V.ptr [31] 0 0)]), (Try.f8.ntmps, [(7, V.ptr [7] 0 0), (9, V.ptr [31] 0 0)])], [40, 18]⟩) ?_ (fun HJ1543 => ?_)
         ·intro v3110_1542 h
          replace h : go_ring_Step_j134 a0_62 a2_64 x_1538 x_1539 v3110_1542 = some r := h
          rw [go_ring_Step_j134] at h
          refine SafeOps.nil ?_
          repeat (first | refine sq ?_ | refine sk ?_ | with_reducible first | refine tn ?_ | refine bn ?_)
          refine ifG h (fun hc1544 h => ?_) (fun hc1544 h => ?_)
          ·skip
           refine Safe.condK rfl hc1544 ?_
           repeat (first | refine sq ?_ | refine sk ?_ | with_reducible first | refine tn ?_ | refine bn ?_)
           refine Safe.region ?_
           refine Qf E_good ?_
           refine Qf E_good ?_
           refine Q0 E_good rfl (v := V.ptr [31] 0 0) (.fn rfl) ?_
           refine Q0 E_good rfl (v := V.ptr [31] 0 7) (.fn rfl) ?_
           refine SafeOps.store (z := Obj.box [V.int .i64 a2_64.Kind, V.int .i64 a2_64.Pc, V.int .i64 a2_64.V, V.int .i64 a2_64.T, V.int .i64 a2_64.B, V.bool a2_64.Won, V.int .i64 a2_64.State, V.ref [40, 18, 15, 0] 0 (rws (fun n => [V.int .i64 n]) x_1538).length, V.int .i64 a1_63.Base, V.int .i64 a1_63.Cap, V.int .i64 v3110_1542]) E_good rfl rfl rfl rfl rfl rfl rfl (.boxM (c := 11) rfl rfl (Nat.le_of_ble_eq_true rfl) rfl) ?_
           refine SafeOps.nil ?_
           repeat (first | refine sq ?_ | refine sk ?_ | with_reducible first | refine tn ?_ | refine bn ?_)
           repeat (first | with_reducible refine thenQ.r ?_ | with_reducible refine blockQ.r ?_)
           refine inQ.gen (vs := []) (v := V.tup []) (.inl rfl) rfl .nil rfl ?_
           exact SafeOps.got (HJ1537 (x_1538, v3110_1542) h) (.ren [40, 18, 15, 0] [7000, 114, 31, 7] (.cov ⟨rfl, rfl, (ut upT_nil), (uo (uo (uo upOb_nil))), (upOut_cons rfl (ut (ut upT_nil)) upOut_nil), rfl⟩))
          ·skip
           refine Safe.condN rfl hc1544 ?_
           repeat (first | refine sq ?_ | refine sk ?_ | with_reducible first | refine tn ?_ | refine bn ?_)
           repeat (first | with_reducible refine thenQ.r ?_ | with_reducible refine blockQ.r ?_)
           refine inQ.gen (vs := []) (v := V.tup []) (.inl rfl) rfl .nil rfl ?_
           exact SafeOps.got (HJ1537 ([] ++ a0_62, v3110_1542) h) (.ren [28] [7000, 114, 31, 7] (.cov ⟨rfl, rfl, (ut upT_nil), (uo (uo (uo upOb_nil))), (upOut_cons rfl (ut (ut upT_nil)) upOut_nil), rfl⟩))
         ·skip
          refine SafeOps.inline E_good rfl rfl rfl rfl rfl Try.func54 rfl (fun _ _ => Try.call54 _ _) rfl ?_
          repeat (first | refine sq ?_ | refine sk ?_ | with_reducible first | refine tn ?_ | refine bn ?_)
          refine Safe.region ?_
          refine Qf E_good ?_
          refine SafeOps.nil ?_
          repeat (first | refine sq ?_ | refine sk ?_ | with_reducible first | refine tn ?_ | refine bn ?_)
          refine Safe.region ?_
          refine Qf E_good ?_
          refine Q0 E_good rfl (v := V.bool (!(x_1539 == 0))) (.fn rfl) ?_
          refine SafeOps.nil ?_
          repeat (first | refine sq ?_ | refine sk ?_ | with_reducible first | refine tn ?_ | refine bn ?_)
          refine ifG h (fun hc1545 h => ?_) (fun hc1545 h => ?_)
          ·skip
           refine Safe.condK rfl hc1545 ?_
           repeat (first | refine sq ?_ | refine sk ?_ | with_reducible first | refine tn ?_ | refine bn ?_)
           refine Safe.region ?_
           refine Qf E_good ?_
           refine Q0 E_good rfl (v := V.ptr [31] 0 0) (.fn rfl) ?_
           refine Q0 E_good rfl (v := V.ptr [31] 0 10) (.fn rfl) ?_
           refine SafeOps.store (z := Obj.box [V.int .i64 a2_64.Kind, V.int .i64 a2_64.Pc, V.int .i64 a2_64.V, V.int .i64 a2_64.T, V.int .i64 a2_64.B, V.bool a2_64.Won, V.int .i64 a2_64.State, V.ref [28] 0 (rws (fun n => [V.int .i64 n]) ([] ++ a0_62)).length, V.int .i64 a1_63.Base, V.int .i64 a1_63.Cap, V.int .i64 9]) E_good rfl rfl rfl rfl rfl rfl rfl (.boxM (c := 11) rfl rfl (Nat.le_of_ble_eq_true rfl) rfl) ?_
           refine SafeOps.nil ?_
           repeat (first | refine sq ?_ | refine sk ?_ | with_reducible first | refine tn ?_ | refine bn ?_)
           refine Safe.region ?_
           refine Qf E_good ?_
           refine Qf E_good ?_
           refine SafeOps.nil ?_
           repeat (first | refine sq ?_ | refine sk ?_ | with_reducible first | refine tn ?_ | refine bn ?_)
           refine Safe.ret ?_
           repeat (first | with_reducible refine thenQ.r ?_ | with_reducible refine blockQ.r ?_)
           refine inQ.gen (vs := [V.bool (x_1539 == 0)]) (v := V.bool (x_1539 == 0)) (.inr rfl) rfl (.tmp (v := V.bool (x_1539 == 0)) rfl .nil) rfl ?_
           exact SafeOps.got (HJ1543 (9) h) (.cov ⟨rfl, rfl, (ut (ut (ut upT_nil))), (uo (uo (uo (uo upOb_nil)))), (upOut_cons rfl (ut upT_nil) (upOut_cons rfl (ut (ut upT_nil)) upOut_nil)), rfl⟩)
          ·skip
           refine Safe.condN rfl hc1545 ?_
           repeat (first | refine sq ?_ | refine sk ?_ | with_reducible first | refine tn ?_ | refine bn ?_)
           refine Safe.region ?_
           refine Qf E_good ?_
           refine Qf E_good ?_
           refine SafeOps.nil ?_
           repeat (first | refine sq ?_ | refine sk ?_ | with_reducible first | refine tn ?_ | refine bn ?_)
           refine Safe.ret ?_
           repeat (first | with_reducible refine thenQ.r ?_ | with_reducible refine blockQ.r ?_)
           refine inQ.gen (vs := [V.bool (x_1539 == 0)]) (v := V.bool (x_1539 == 0)) (.inr rfl) rfl (.tmp (v := V.bool (x_1539 == 0)) rfl .nil) rfl ?_
           exact SafeOps.got (HJ1543 (v3110_1512) h) (.cov ⟨rfl, rfl, (ut (ut (ut upT_nil))), (uo (uo (uo (uo upOb_nil)))), (upOut_cons rfl (ut upT_nil) (upOut_cons rfl (ut (ut upT_nil)) upOut_nil)), rfl⟩)
       ·skip
        refine Safe.condN rfl hc1527 ?_
        repeat (first | refine Safe.skip ?_ | with_reducible refine thenQ.n ?_ | with_reducible refine blockQ.n ?_)
        exact Safe.got (HJ1526 ([] ++ a0_62, v3110_1512) h) (.ren [28] [7000, 114, 31, 7] (.cov ⟨rfl, rfl, (ut upT_nil), (uo (uo (uo upOb_nil))), (upOut_cons rfl (ut (ut upT_nil)) upOut_nil), rfl⟩))
     ·skip
      refine SafeOps.inline E_good rfl rfl rfl rfl rfl Try.func54 rfl (fun _ _ => Try.call54 _ _) rfl ?_
      repeat (first | refine sq ?_ | refine sk ?_ | with_reducible first | refine tn ?_ | refine bn ?_)
      refine Safe.region ?_
      refine Qf E_good ?_
      refine SafeOps.nil ?_
      repeat (first | refine sq ?_ | refine sk ?_ | with_reducible first | refine tn ?_ | refine bn ?_)
      refine Safe.region ?_
      refine Qf E_good ?_
      refine Q0 E_good rfl (v := V.bool (!(decide (a2_64.T ≥ 0)))) (.fn rfl) ?_
      refine SafeOps.nil ?_
      repeat (first | refine sq ?_ | refine sk ?_ | with_reducible first | refine tn ?_ | refine bn ?_)
      refine ifG h (fun hc1546 h => ?_) (fun hc1546 h => ?_)
      ·skip
       refine Safe.condK rfl hc1546 ?_
       repeat (first | refine sq ?_ | refine sk ?_ | with_reducible first | refine tn ?_ | refine bn ?_)
       refine Safe.region ?_
       refine Qf E_good ?_
       refine Q0 E_good rfl (v := V.ptr [31] 0 0) (.fn rfl) ?_
       refine Q0 E_good rfl (v := V.ptr [31] 0 10) (.fn rfl) ?_
       refine SafeOps.store (z := Obj.box [V.int .i64 a2_64.Kind, V.int .i64 a2_64.Pc, V.int .i64 a2_64.V, V.int .i64 a2_64.T, V.int .i64 a2_64.B, V.bool a2_64.Won, V.int .i64 a2_64.State, V.ref [28] 0 (rws (fun n => [V.int .i64 n]) ([] ++ a0_62)).length, V.int .i64 a1_63.Base, V.int .i64 a1_63.Cap, V.int .i64 9]) E_good rfl rfl rfl rfl rfl rfl rfl (.boxM (c := 11) rfl rfl (Nat.le_of_ble_eq_true rfl) rfl) ?_
       refine SafeOps.nil ?_
       repeat (first | refine sq ?_ | refine sk ?_ | with_reducible first | refine tn ?_ | refine bn ?_)
       refine Safe.region ?_
       refine Qf E_good ?_
       refine Qf E_good ?_
       refine SafeOps.nil ?_
       repeat (first | refine sq ?_ | refine sk ?_ | with_reducible first | refine tn ?_ | refine bn ?_)
       refine Safe.ret ?_
       repeat (first | with_reducible refine thenQ.r ?_ | with_reducible refine blockQ.r ?_)
       refine inQ.gen (vs := [V.bool (decide (a2_64.T ≥ 0))]) (v := V.bool (decide (a2_64.T ≥ 0))) (.inr rfl) rfl (.tmp (v := V.bool (decide (a2_64.T ≥ 0))) rfl .nil) rfl ?_
       exact SafeOps.got (HJ1513 (9) h) (.cov ⟨rfl, rfl, (ut (ut upT_nil)), (uo (uo (uo upOb_nil))), (upOut_cons rfl (ut (ut upT_nil)) upOut_nil), rfl⟩)
      ·skip
       refine Safe.condN rfl hc1546 ?_
       repeat (first | refine sq ?_ | refine sk ?_ | with_reducible first | refine tn ?_ | refine bn ?_)
       refine Safe.region ?_
       refine Qf E_good ?_
       refine Qf E_good ?_
       refine SafeOps.nil ?_
       repeat (first | refine sq ?_ | refine sk ?_ | with_reducible first | refine tn ?_ | refine bn ?_)
       refine Safe.ret ?_
       repeat (first | with_reducible refine thenQ.r ?_ | with_reducible refine blockQ.r ?_)
       refine inQ.gen (vs := [V.bool (decide (a2_64.T ≥ 0))]) (v := V.bool (decide (a2_64.T ≥ 0))) (.inr rfl) rfl (.tmp (v := V.bool (decide (a2_64.T ≥ 0))) rfl .nil) rfl ?_
       exact SafeOps.got (HJ1513 (0) h) (.cov ⟨rfl, rfl, (ut (ut upT_nil)), (uo (uo (uo upOb_nil))), (upOut_cons rfl (ut (ut upT_nil)) upOut_nil), rfl⟩)
    refine ifP_G h (fun hq1547 h => ?_) (fun _ h => ?_)
    ·skip
     refine SafeOps.see 38 (u := V.fn 45 []) rfl (up_fn hq1547) ?_
     refine SafeOps.inline E_good rfl rfl rfl rfl rfl Try.func45 rfl (fun _ _ => Try.call45 _ _) rfl ?_
     repeat (first | refine sq ?_ | refine sk ?_ | with_reducible first | refine tn ?_ | refine bn ?_)
     refine Safe.region ?_
     refine Qf E_good ?_
     refine Qf E_good ?_
     refine Q0 E_good rfl (v := V.ptr [31] 0 0) (.fn rfl) ?_
     refine Q0 E_good rfl (v := V.ptr [31] 0 0) (.fn rfl) ?_
     refine Q0 E_good rfl (v := V.ptr [31] 0 4) (.fn rfl) ?_
     refine Q0 E_good rfl (v := V.int .i64 a2_64.B) (.load rfl rfl (.box rfl rfl) rfl) ?_
     refine Q0 E_good rfl (v := V.bool (decide (a2_64.B ≥ 0))) (.fn rfl) ?_
     refine SafeOps.joinT 1 (fun (v3110_1549 : Int) => go_ring_Step_j135 a0_62 a1_63 a2_64 v3110_1549 = some r) (fun (v3110_1549 : Int) => ⟨Try.f45.ntmps, [(0, V.ptr [31] 0 0), (9, V.bool (decide (a2_64.B ≥ 0)))], [([7], Obj.box [V.int .i64 0, V.int .i64 0, V.int .i64 0, V.int .i64 0, V.int .i64 0, V.bool false, V.int .i64 0]), ([28], Obj.rows 1 (rws (fun n => [V.int .i64 n]) ([] ++ a0_62)) false), ([31], Obj.box [V.int .i64 a2_64.Kind, V.int .i64 a2_64.Pc, V.int .i64 a2_64.V, V.int .i64 a2_64.T, V.int .i64 a2_64.B, V.bool a2_64.Won, V.int .i64 a2_64.State, V.ref [28] 0 (rws (fun n => [V.int .i64 n]) ([] ++ a0_62)).length, V.int .i64 a1_63.Base, V.int .i64 a1_63.Cap, V.int .i64 v3110_1549])], [(Try.f8.ntmps, [(7, V.ptr [7] 0 0), (9, V.ptr [31] 0 0)])], [40]⟩) ?_ (fun HJ1550 => ?_)
     ·intro v3110_1549 h
      replace h : go_ring_Step_j135 a0_62 a1_63 a2_64 v3110_1549 = some r := h
      rw [go_ring_Step_j135] at h
      refine SafeOps.nil ?_
      repeat (first | refine sq ?_ | refine sk ?_ | with_reducible first | refine tn ?_ | refine bn ?_)
      refine Safe.joinT (fun ((v312_1565, v3110_1566) : Int × Int) => go_ring_Step_j138 a0_62 a2_64 v312_1565 v3110_1566 = some r) (fun ((v312_1565, v3110_1566) : Int × Int) => ⟨Try.f45.ntmps, [(0, V.ptr [31] 0 0)], [([7], Obj.box [V.int .i64 0, V.int .i64 0, V.int .i64 0, V.int .i64 0, V.int .i64 0, V.bool false, V.int .i64 0]), ([28], Obj.rows 1 (rws (fun n => [V.int .i64 n]) ([] ++ a0_62)) false), ([31], Obj.box [V.int .i64 a2_64.Kind, V.int .i64 a2_64.Pc, V.int .i64 v312_1565, V.int .i64 a2_64.T, V.int .i64 a2_64.B, V.bool a2_64.Won, V.int .i64 a2_64.State, V.ref [28] 0 (rws (fun n => [V.int .i64 n]) ([] ++ a0_62)).length, V.int .i64 a1_63.Base, V.int .i64 a1_63.Cap, V.int .i64 v3110_1566])], [(Try.f8.ntmps, [(7, V.ptr [7] 0 0), (9, V.ptr [31] 0 0)])], [40]⟩) ?_ (fun HJ1567 => ?_)
      ·rintro ⟨v312_1565, v3110_1566⟩ h
       replace h : go_ring_Step_j138 a0_62 a2_64 v312_1565 v3110_1566 = some r := h
       rw [go_ring_Step_j138] at h
       repeat (first | refine sq ?_ | refine sk ?_ | with_reducible first | refine tn ?_ | refine bn ?_)
       refine Safe.regionD (n := 13) [] [12] E_good mixed rfl ?_
       refine DT 0 [] rfl rfl (fun _ hz => (.fn rfl)) ?_
       refine DT 1 [] rfl rfl (fun _ hz => (.fn rfl)) ?_
       refine DT 2 [] rfl rfl (v := V.ptr [31] 0 0) (fun _ hz => (.fn rfl)) ?_
       refine DT 3 [] rfl rfl (v := V.ptr [31] 0 0) (fun _ hz => (.fn rfl)) ?_
       refine DT 4 [] rfl rfl (v := V.ptr [31] 0 4) (fun _ hz => (.fn rfl)) ?_
       refine DT 5 [] rfl rfl (v := V.int .i64 a2_64.B) (fun _ hz => (.load rfl rfl (.box (hz _ _ rfl rfl) rfl) rfl)) ?_
       refine DT 6 [] rfl rfl (fun _ hz => (.fn rfl)) ?_
       refine DT 7 [] rfl rfl (v := V.ptr [31] 0 0) (fun _ hz => (.fn rfl)) ?_
       refine DT 8 [] rfl rfl (v := V.ptr [31] 0 0) (fun _ hz => (.fn rfl)) ?_
       refine DT 9 [] rfl rfl (v := V.ptr [31] 0 3) (fun _ hz => (.fn rfl)) ?_
       refine DT 10 [] rfl rfl (v := V.int .i64 a2_64.T) (fun _ hz => (.load rfl rfl (.box (hz _ _ rfl rfl) rfl) rfl)) ?_
       refine DT 11 [] rfl rfl (v := V.bool (decide (a2_64.B > a2_64.T))) (fun _ hz => (.fn rfl)) ?_
       refine DAny.onlyS (i := 12) rfl (by kernel_rfl) rfl ?_
       refine SafeOps.joinT 1 (fun ((v311_1569, v316_1570) : Int × Int) => go_ring_Step_j139 a0_62 a2_64 v312_1565 v3110_1566 v311_1569 v316_1570 = some r) (fun ((v311_1569, v316_1570) : Int × Int) => ⟨Try.f45.ntmps, [], [([7], Obj.box [V.int .i64 0, V.int .i64 0, V.int .i64 0, V.int .i64 0, V.int .i64 0, V.bool false, V.int .i64 0]), ([28], Obj.rows 1 (rws (fun n => [V.int .i64 n]) ([] ++ a0_62)) false), ([31], Obj.box [V.int .i64 a2_64.Kind, V.int .i64 v311_1569, V.int .i64 v312_1565, V.int .i64 a2_64.T, V.int .i64 a2_64.B, V.bool a2_64.Won, V.int .i64 v316_1570, V.ref [28] 0 (rws (fun n => [V.int .i64 n]) ([] ++ a0_62)).length, V.int .i64 a1_63.Base, V.int .i64 a1_63.Cap, V.int .i64 v3110_1566])], [(Try.f8.ntmps, [(7, V.ptr [7] 0 0), (9, V.ptr [31] 0 0)])], [40]⟩) ?_ (fun HJ1571 => ?_)
       ·rintro ⟨v311_1569, v316_1570⟩ h
        replace h : go_ring_Step_j139 a0_62 a2_64 v312_1565 v3110_1566 v311_1569 v316_1570 = some r := h
        rw [go_ring_Step_j139] at h
        refine SafeOps.nil ⟨rfl, ?_⟩
        refine DAny.nil (by kernel_rfl) ?_
        repeat (first | refine sq ?_ | refine sk ?_ | with_reducible first | refine tn ?_ | refine bn ?_)
        repeat (first | with_reducible refine thenQ.r ?_ | with_reducible refine blockQ.r ?_)
        refine inQ.gen (vs := []) (v := V.tup []) (.inl rfl) rfl .nil rfl ?_
        exact SafeOps.got (HJ1246 (v311_1569, v312_1565, a2_64.T, a2_64.B, a2_64.Won, v316_1570, [] ++ a0_62, v3110_1566) h) (.ren [28] [7000, 114, 31, 7] (.cov ⟨rfl, rfl, (ut (ut upT_nil)), (uo (uo (uo upOb_nil))), upOut_nil, rfl⟩))
       ·skip
        refine SafeOps.inline E_good rfl rfl rfl rfl rfl Try.func56 rfl (fun _ _ => Try.call56 _ _) rfl ?_
        repeat (first | refine sq ?_ | refine sk ?_ | with_reducible first | refine tn ?_ | refine bn ?_)
        refine Safe.region ?_
        refine Qf E_good ?_
        refine SafeOps.nil ?_
        repeat (first | refine sq ?_ | refine sk ?_ | with_reducible first | refine tn ?_ | refine bn ?_)
        refine ifG h (fun hc1572 h => ?_) (fun hc1572 h => ?_)
        ·skip
         refine Safe.condK rfl hc1572 ?_
         repeat (first | refine sq ?_ | refine sk ?_ | with_reducible first | refine tn ?_ | refine bn ?_)
         refine Safe.region ?_
         refine Qf E_good ?_
         refine Qf E_good ?_
         refine Q0 E_good rfl (v := V.ptr [31] 0 0) (.fn rfl) ?_
         refine Q0 E_good rfl (v := V.ptr [31] 0 0) (.fn rfl) ?_
         refine Q0 E_good rfl (v := V.ptr [31] 0 6) (.fn rfl) ?_
         refine SafeOps.store (z := Obj.box [V.int .i64 a2_64.Kind, V.int .i64 a2_64.Pc, V.int .i64 v312_1565, V.int .i64 a2_64.T, V.int .i64 a2_64.B, V.bool a2_64.Won, V.int .i64 1, V.ref [28] 0 (rws (fun n => [V.int .i64 n]) ([] ++ a0_62)).length, V.int .i64 a1_63.Base, V.int .i64 a1_63.Cap, V.int .i64 v3110_1566]) E_good rfl rfl rfl rfl rfl rfl rfl (.boxM (c := 11) rfl rfl (Nat.le_of_ble_eq_true rfl) rfl) ?_
         refine SafeOps.nil ?_
         repeat (first | refine sq ?_ | refine sk ?_ | with_reducible first | refine tn ?_ | refine bn ?_)
         refine Safe.ret ?_
         repeat (first | with_reducible refine thenQ.r ?_ | with_reducible refine blockQ.r ?_)
         refine inQ.gen (vs := []) (v := V.tup []) (.inr rfl) rfl .nil rfl ?_
         exact SafeOps.got (HJ1571 (a2_64.Pc, 1) h) (.cov ⟨rfl, rfl, upT_nil, (uo (uo (uo upOb_nil))), (upOut_cons rfl (ut (ut upT_nil)) upOut_nil), rfl⟩)
        ·skip
         refine Safe.condN rfl hc1572 ?_
         repeat (first | refine sq ?_ | refine sk ?_ | with_reducible first | refine tn ?_ | refine bn ?_)
         refine Safe.region ?_
         refine Qf E_good ?_
         refine Qf E_good ?_
         refine Q0 E_good rfl (v := V.ptr [31] 0 0) (.fn rfl) ?_
         refine Q0 E_good rfl (v := V.ptr [31] 0 0) (.fn rfl) ?_
         refine Q0 E_good rfl (v := V.ptr [31] 0 1) (.fn rfl) ?_
         refine SafeOps.store (z := Obj.box [V.int .i64 a2_64.Kind, V.int .i64 5, V.int .i64 v312_1565, V.int .i64 a2_64.T, V.int .i64 a2_64.B, V.bool a2_64.Won, V.int .i64 a2_64.State, V.ref [28] 0 (rws (fun n => [V.int .i64 n]) ([] ++ a0_62)).length, V.int .i64 a1_63.Base, V.int .i64 a1_63.Cap, V.int .i64 v3110_1566]) E_good rfl rfl rfl rfl rfl rfl rfl (.boxM (c := 11) rfl rfl (Nat.le_of_ble_eq_true rfl) rfl) ?_
         refine SafeOps.nil ?_
         repeat (first | refine sq ?_ | refine sk ?_ | with_reducible first | refine tn ?_ | refine bn ?_)
         repeat (first | with_reducible refine thenQ.r ?_ | with_reducible refine blockQ.r ?_)
         refine inQ.gen (vs := []) (v := V.tup []) (.inl rfl) rfl .nil rfl ?_
         exact SafeOps.got (HJ1571 (5, a2_64.State) h) (.cov ⟨rfl, rfl, upT_nil, (uo (uo (uo upOb_nil))), (upOut_cons rfl (ut (ut upT_nil)) upOut_nil), rfl⟩)
      ·skip
       refine ifG h (fun hc1573 h => ?_) (fun hc1573 h => ?_)
       ·skip
        refine Safe.condK rfl hc1573 ?_
        repeat (first | refine sq ?_ | refine sk ?_ | with_reducible first | refine tn ?_ | refine bn ?_)
        refine Safe.region ?_
        refine Qf E_good ?_
        refine Qf E_good ?_
        refine Qf E_good ?_
        refine Qf E_good ?_
        refine Q0 E_good rfl (v := V.ptr [31] 0 0) (.fn rfl) ?_
        refine Q0 E_good rfl (v := V.ptr [31] 0 0) (.fn rfl) ?_
        refine Q0 E_good rfl (v := V.ptr [31] 0 4) (.fn rfl) ?_
        refine Q0 E_good rfl (v := V.int .i64 a2_64.B) (.load rfl rfl (.box rfl rfl) rfl) ?_
        refine bindG h ?_
        intro x_1574 he1575 h
        refine Q0 E_good rfl (v := V.int .i64 x_1574) (.callS rfl (.cons (.box rfl (.cons (.free rfl) (.cons (.free rfl) (.cons (.free rfl) (.cons (.free rfl) (.cons (.free rfl) (.cons (.free rfl) (.cons (.free rfl) (.cons (.full rfl rfl) (.cons (.free rfl) (.cons (.free rfl) (.cons (.free rfl) .nil)))))))))))) (.cons (.free rfl) .nil)) (go_pring_actor_slot_sc (ring_actor.mk a2_64 ([] ++ a0_62) a1_63 v3110_1549) a2_64.B _ he1575) (.plain rfl) rfl) ?_
        refine SafeOps.inline E_good rfl rfl rfl rfl rfl Try.func31 rfl (fun _ _ => Try.call31 _ _) rfl ?_
        repeat (first | refine sq ?_ | refine sk ?_ | with_reducible first | refine tn ?_ | refine bn ?_)
        refine Safe.region ?_
        refine Qf E_good ?_
        refine SafeOps.nil ?_
        repeat (first | refine sq ?_ | refine sk ?_ | with_reducible first | refine tn ?_ | refine bn ?_)
        refine Safe.region ?_
        refine Qf E_good ?_
        refine Q0 E_good rfl (v := V.ptr [31] 0 0) (.fn rfl) ?_
        refine Q0 E_good rfl (v := V.ptr [31] 0 7) (.fn rfl) ?_
        refine Q0 E_good rfl (v := V.ref [28] 0 (rws (fun n => [V.int .i64 n]) ([] ++ a0_62)).length) (.load rfl rfl (.box rfl rfl) rfl) ?_
        refine Qf E_good ?_
        refine bindG h ?_
        rintro ⟨x_1582, x_1583⟩ he1584 h
        refine Q0 E_good rfl (v := V.tup [V.int .i64 x_1582, V.int .i64 x_1583]) (.callS rfl (.cons (.full rfl rfl) (.cons (.free rfl) .nil)) (go_cell_Load_sc ([] ++ a0_62) x_1574 _ he1584) (.tupL (.cons (.plain rfl) (.cons (.plain rfl) .nil))) rfl) ?_
        refine Qf E_good ?_
        refine Qf E_good ?_
        refine Qf E_good ?_
        refine Qf E_good ?_
        refine Qf E_good ?_
        refine SafeOps.nil ?_
        repeat (first | refine sq ?_ | refine sk ?_ | with_reducible first | refine tn ?_ | refine bn ?_)
        refine Safe.region ?_
        refine Qf E_good ?_
        refine Qf E_good ?_
        refine Q0 E_good rfl (v := V.bool (x_1583 == 0)) (.fn rfl) ?_
        refine SafeOps.joinT 1 (fun (v3110_1586 : Int) => go_ring_Step_j141 a0_62 a2_64 x_1582 v3110_1586 = some r) (fun (v3110_1586 : Int) => ⟨Try.f31.ntmps, [(5, V.int .i64 x_1582)], [([7], Obj.box [V.int .i64 0, V.int .i64 0, V.int .i64 0, V.int .i64 0, V.int .i64 0, V.bool false, V.int .i64 0]), ([28], Obj.rows 1 (rws (fun n => [V.int .i64 n]) ([] ++ a0_62)) false), ([31], Obj.box [V.int .i64 a2_64.Kind, V.int .i64 a2_64.Pc, V.int .i64 a2_64.V, V.int .i64 a2_64.T, V.int .i64 a2_64.B, V.bool a2_64.Won, V.int .i64 a2_64.State, V.ref [28] 0 (rws (fun n => [V.int .i64 n]) ([] ++ a0_62)).length, V.int .i64 a1_63.Base, V.int .i64 a1_63.Cap, V.int .i64 v3110_1586])], [(Try.f45.ntmps, [(0, V.ptr [31] 0 0), (10, V.ptr [31] 0 0)]), (Try.f8.ntmps, [(7, V.ptr [7] 0 0), (9, V.ptr [31] 0 0)])], [40, 19]⟩) ?_ (fun HJ1587 => ?_)
        ·intro v3110_1586 h
         replace h : go_ring_Step_j141 a0_62 a2_64 x_1582 v3110_1586 = some r := h
         rw [go_ring_Step_j141] at h
         refine SafeOps.nil ?_
         repeat (first | refine sq ?_ | refine sk ?_ | with_reducible first | refine tn ?_ | refine bn ?_)
         refine Safe.region ?_
         refine Qf E_good ?_
         refine Qf E_good ?_
         refine SafeOps.nil ?_
         repeat (first | refine sq ?_ | refine sk ?_ | with_reducible first | refine tn ?_ | refine bn ?_)
         refine Safe.ret ?_
         repeat (first | with_reducible refine thenQ.r ?_ | with_reducible refine blockQ.r ?_)
         refine inQ.gen (vs := [V.int .i64 x_1582]) (v := V.int .i64 x_1582) (.inr rfl) rfl (.tmp (v := V.int .i64 x_1582) rfl .nil) rfl ?_
         refine Q0 E_good rfl (v := V.ptr [31] 0 0) (.fn rfl) ?_
         refine Q0 E_good rfl (v := V.ptr [31] 0 0) (.fn rfl) ?_
         refine Q0 E_good rfl (v := V.ptr [31] 0 2) (.fn rfl) ?_
         refine SafeOps.store (z := Obj.box [V.int .i64 a2_64.Kind, V.int .i64 a2_64.Pc, V.int .i64 x_1582, V.int .i64 a2_64.T, V.int .i64 a2_64.B, V.bool a2_64.Won, V.int .i64 a2_64.State, V.ref [28] 0 (rws (fun n => [V.int .i64 n]) ([] ++ a0_62)).length, V.int .i64 a1_63.Base, V.int .i64 a1_63.Cap, V.int .i64 v3110_1586]) E_good rfl rfl rfl rfl rfl rfl rfl (.boxM (c := 11) rfl rfl (Nat.le_of_ble_eq_true rfl) rfl) ?_
         refine SafeOps.nil ?_
         repeat (first | refine Safe.skip ?_ | with_reducible refine thenQ.n ?_ | with_reducible refine blockQ.n ?_)
         exact Safe.got (HJ1567 (x_1582, v3110_1586) h) (.cov ⟨rfl, rfl, (ut upT_nil), (uo (uo (uo upOb_nil))), (upOut_cons rfl (ut (ut upT_nil)) upOut_nil), rfl⟩)
        ·skip
         refine SafeOps.inline E_good rfl rfl rfl rfl rfl Try.func54 rfl (fun _ _ => Try.call54 _ _) rfl ?_
         repeat (first | refine sq ?_ | refine sk ?_ | with_reducible first | refine tn ?_ | refine bn ?_)
         refine Safe.region ?_
         refine Qf E_good ?_
         refine SafeOps.nil ?_
         repeat (first | refine sq ?_ | refine sk ?_ | with_reducible first | refine tn ?_ | refine bn ?_)
         refine Safe.region ?_
         refine Qf E_good ?_
         refine Q0 E_good rfl (v := V.bool (!(x_1583 == 0))) (.fn rfl) ?_
         refine SafeOps.nil ?_
         repeat (first | refine sq ?_ | refine sk ?_ | with_reducible first | refine tn ?_ | refine bn ?_)
         refine ifG h (fun hc1588 h => ?_) (fun hc1588 h => ?_)
         ·skip
          refine Safe.condK rfl hc1588 ?_
          repeat (first | refine sq ?_ | refine sk ?_ | with_reducible first | refine tn ?_ | refine bn ?_)
          refine Safe.region ?_
          refine Qf E_good ?_
          refine Q0 E_good rfl (v := V.ptr [31] 0 0) (.fn rfl) ?_
          refine Q0 E_good rfl (v := V.ptr [31] 0 10) (.fn rfl) ?_
          refine SafeOps.store (z := Obj.box [V.int .i64 a2_64.Kind, V.int .i64 a2_64.Pc, V.int .i64 a2_64.V, V.int .i64 a2_64.T, V.int .i64 a2_64.B, V.bool a2_64.Won, V.int .i64 a2_64.State, V.ref [28] 0 (rws (fun n => [V.int .i64 n]) ([] ++ a0_62)).length, V.int .i64 a1_63.Base, V.int .i64 a1_63.Cap, V.int .i64 9]) E_good rfl rfl rfl rfl rfl rfl rfl (.boxM (c := 11) rfl rfl (Nat.le_of_ble_eq_true rfl) rfl) ?_
          refine SafeOps.nil ?_
          repeat (first | refine sq ?_ | refine sk ?_ | with_reducible first | refine tn ?_ | refine bn ?_)
          refine Safe.region ?_
          refine Qf E_good ?_
          refine Qf E_good ?_
          refine SafeOps.nil ?_
          repeat (first | refine sq ?_ | refine sk ?_ | with_reducible first | refine tn ?_ | refine bn ?_)
          refine Safe.ret ?_
          repeat (first | with_reducible refine thenQ.r ?_ | with_reducible refine blockQ.r ?_)
          refine inQ.gen (vs := [V.bool (x_1583 == 0)]) (v := V.bool (x_1583 == 0)) (.inr rfl) rfl (.tmp (v := V.bool (x_1583 == 0)) rfl .nil) rfl ?_
          exact SafeOps.got (HJ1587 (9) h) (.cov ⟨rfl, rfl, (ut upT_nil), (uo (uo (uo upOb_nil))), (upOut_cons rfl (ut (ut upT_nil)) (upOut_cons rfl (ut (ut upT_nil)) upOut_nil)), rfl⟩)
         ·skip
          refine Safe.condN rfl hc1588 ?_
          repeat (first | refine sq ?_ | refine sk ?_ | with_reducible first | refine tn ?_ | refine bn ?_)
          refine Safe.region ?_
          refine Qf E_good ?_
          refine Qf E_good ?_
          refine SafeOps.nil ?_
          repeat (first | refine sq ?_ | refine sk ?_ | with_reducible first | refine tn ?_ | refine bn ?_)
          refine Safe.ret ?_
          repeat (first | with_reducible refine thenQ.r ?_ | with_reducible refine blockQ.r ?_)
          refine inQ.gen (vs := [V.bool (x_1583 == 0)]) (v := V.bool (x_1583 == 0)) (.inr rfl) rfl (.tmp (v := V.bool (x_1583 == 0)) rfl .nil) rfl ?_
          exact SafeOps.got (HJ1587 (v3110_1549) h) (.cov ⟨rfl, rfl, (ut upT_nil), (uo (uo (uo upOb_nil))), (upOut_cons rfl (ut (ut upT_nil)) (upOut_cons rfl (ut (ut upT_nil)) upOut_nil)), rfl⟩)
       ·skip
        refine Safe.condN rfl hc1573 ?_
        repeat (first | refine Safe.skip ?_ | with_reducible refine thenQ.n ?_ | with_reducible refine blockQ.n ?_)
        exact Safe.got (HJ1567 (a2_64.V, v3110_1549) h) (.cov ⟨rfl, rfl, (ut upT_nil), (uo (uo (uo upOb_nil))), (upOut_cons rfl (ut (ut upT_nil)) upOut_nil), rfl⟩)
     ·skip
      refine SafeOps.inline E_good rfl rfl rfl rfl rfl Try.func54 rfl (fun _ _ => Try.call54 _ _) rfl ?_
      repeat (first | refine sq ?_ | refine sk ?_ | with_reducible first | refine tn ?_ | refine bn ?_)
      refine Safe.region ?_
      refine Qf E_good ?_
      refine SafeOps.nil ?_
      repeat (first | refine sq ?_ | refine sk ?_ | with_reducible first | refine tn ?_ | refine bn ?_)
      refine Safe.region ?_
      refine Qf E_good ?_
      refine Q0 E_good rfl (v := V.bool (!(decide (a2_64.B ≥ 0)))) (.fn rfl) ?_
      refine SafeOps.nil ?_
      repeat (first | refine sq ?_ | refine sk ?_ | with_reducible first | refine tn ?_ | refine bn ?_)
      refine ifG h (fun hc1589 h => ?_) (fun hc1589 h => ?_)
      ·skip
       refine Safe.condK rfl hc1589 ?_
       repeat (first | refine sq ?_ | refine sk ?_ | with_reducible first | refine tn ?_ | refine bn ?_)
       refine Safe.region ?_
       refine Qf E_good ?_
       refine Q0 E_good rfl (v := V.ptr [31] 0 0) (.fn rfl) ?_
       refine Q0 E_good rfl (v := V.ptr [31] 0 10) (.fn rfl) ?_
       refine SafeOps.store (z := Obj.box [V.int .i64 a2_64.Kind, V.int .i64 a2_64.Pc, V.int .i64 a2_64.V, V.int .i64 a2_64.T, V.int .i64 a2_64.B, V.bool a2_64.Won, V.int .i64 a2_64.State, V.ref [28] 0 (rws (fun n => [V.int .i64 n]) ([] ++ a0_62)).length, V.int .i64 a1_63.Base, V.int .i64 a1_63.Cap, V.int .i64 9]) E_good rfl rfl rfl rfl rfl rfl rfl (.boxM (c := 11) rfl rfl (Nat.le_of_ble_eq_true rfl) rfl) ?_
       refine SafeOps.nil ?_
       repeat (first | refine sq ?_ | refine sk ?_ | with_reducible first | refine tn ?_ | refine bn ?_)
       refine Safe.region ?_
       refine Qf E_good ?_
       refine Qf E_good ?_
       refine SafeOps.nil ?_
       repeat (first | refine sq ?_ | refine sk ?_ | with_reducible first | refine tn ?_ | refine bn ?_)
       refine Safe.ret ?_
       repeat (first | with_reducible refine thenQ.r ?_ | with_reducible refine blockQ.r ?_)
       refine inQ.gen (vs := [V.bool (decide (a2_64.B ≥ 0))]) (v := V.bool (decide (a2_64.B ≥ 0))) (.inr rfl) rfl (.tmp (v := V.bool (decide (a2_64.B ≥ 0))) rfl .nil) rfl ?_
       exact SafeOps.got (HJ1550 (9) h) (.cov ⟨rfl, rfl, (ut (ut upT_nil)), (uo (uo (uo upOb_nil))), (upOut_cons rfl (ut (ut upT_nil)) upOut_nil), rfl⟩)
      ·skip
       refine Safe.condN rfl hc1589 ?_
       repeat (first | refine sq ?_ | refine sk ?_ | with_reducible first | refine tn ?_ | refine bn ?_)
       refine Safe.region ?_
       refine Qf E_good ?_
       refine Qf E_good ?_
       refine SafeOps.nil ?_
       repeat (first | refine sq ?_ | refine sk ?_ | with_reducible first | refine tn ?_ | refine bn ?_)
       refine Safe.ret ?_
       repeat (first | with_reducible refine thenQ.r ?_ | with_reducible refine blockQ.r ?_)
       refine inQ.gen (vs := [V.bool (decide (a2_64.B ≥ 0))]) (v := V.bool (decide (a2_64.B ≥ 0))) (.inr rfl) rfl (.tmp (v := V.bool (decide (a2_64.B ≥ 0))) rfl .nil) rfl ?_
       exact SafeOps.got (HJ1550 (0) h) (.cov ⟨rfl, rfl, (ut (ut upT_nil)), (uo (uo (uo upOb_nil))), (upOut_cons rfl (ut (ut upT_nil)) upOut_nil), rfl⟩)
    refine ifP_G h (fun hq1590 h => ?_) (fun _ h => ?_)
    ·skip
     refine SafeOps.see 38 (u := V.fn 46 []) rfl (up_fn hq1590) ?_
     refine SafeOps.inline E_good rfl rfl rfl rfl rfl Try.func46 rfl (fun _ _ => Try.call46 _ _) rfl ?_
     repeat (first | refine sq ?_ | refine sk ?_ | with_reducible first | refine tn ?_ | refine bn ?_)
     refine Safe.region ?_
     refine Qf E_good ?_
     refine Qf E_good ?_
     refine Qf E_good ?_
     refine Q0 E_good rfl (v := V.ptr [31] 0 0) (.fn rfl) ?_
     refine Q0 E_good rfl (v := V.ptr [31] 0 0) (.fn rfl) ?_
     refine Q0 E_good rfl (v := V.ptr [31] 0 3) (.fn rfl) ?_
     refine Q0 E_good rfl (v := V.int .i64 a2_64.T) (.load rfl rfl (.box rfl rfl) rfl) ?_
     refine Q0 E_good rfl (v := V.bool (decide (a2_64.T ≥ 0))) (.fn rfl) ?_
     refine SafeOps.joinT 1 (fun (v3110_1592 : Int) => go_ring_Step_j142 a0_62 a1_63 a2_64 v3110_1592 = some r) (fun (v3110_1592 : Int) => ⟨Try.f46.ntmps, [(0, V.ptr [31] 0 0), (2, V.ptr [31] 0 0), (10, V.bool (decide (a2_64.T ≥ 0)))], [([7], Obj.box [V.int .i64 0, V.int .i64 0, V.int .i64 0, V.int .i64 0, V.int .i64 0, V.bool false, V.int .i64 0]), ([28], Obj.rows 1 (rws (fun n => [V.int .i64 n]) ([] ++ a0_62)) false), ([31], Obj.box [V.int .i64 a2_64.Kind, V.int .i64 a2_64.Pc, V.int .i64 a2_64.V, V.int .i64 a2_64.T, V.int .i64 a2_64.B, V.bool a2_64.Won, V.int .i64 a2_64.State, V.ref [28] 0 (rws (fun n => [V.int .i64 n]) ([] ++ a0_62)).length, V.int .i64 a1_63.Base, V.int .i64 a1_63.Cap, V.int .i64 v3110_1592])], [(Try.f8.ntmps, [(7, V.ptr [7] 0 0), (9, V.ptr [31] 0 0)])], [40]⟩) ?_ (fun HJ1593 => ?_)
     ·intro v3110_1592 h
      replace h : go_ring_Step_j142 a0_62 a1_63 a2_64 v3110_1592 = some r := h
      rw [go_ring_Step_j142] at h
      refine Qf E_good ?_
      refine ifG h (fun hc1594 h => ?_) (fun hc1594 h => ?_)
      ·skip
       refine SafeOps.quiet0 E_good (congrArg some hc1594) rfl rfl (.fn rfl) ?_
       refine SafeOps.joinT 1 (fun ((v13_1638, v317_1639, v3110_1640) : Bool × (List Int) × Int) => go_ring_Step_j144 a2_64 v13_1638 v317_1639 v3110_1640 = some r) (fun ((v13_1638, v317_1639, v3110_1640) : Bool × (List Int) × Int) => ⟨Try.f46.ntmps, [(0, V.ptr [31] 0 0), (2, V.ptr [31] 0 0), (11, V.bool (decide (a2_64.T ≥ 0))), (13, V.bool v13_1638)], [([7], Obj.box [V.int .i64 0, V.int .i64 0, V.int .i64 0, V.int .i64 0, V.int .i64 0, V.bool false, V.int .i64 0]), ([31], Obj.box [V.int .i64 a2_64.Kind, V.int .i64 a2_64.Pc, V.int .i64 a2_64.V, V.int .i64 a2_64.T, V.int .i64 a2_64.B, V.bool a2_64.Won, V.int .i64 a2_64.State, V.ref [7000, 114, 31, 7] 0 (rws (fun n => [V.int .i64 n]) v317_1639).length, V.int .i64 a1_63.Base, V.int .i64 a1_63.Cap, V.int .i64 v3110_1640]), ([7000, 114, 31, 7], Obj.rows 1 (rws (fun n => [V.int .i64 n]) v317_1639) false)], [(Try.f8.ntmps, [(7, V.ptr [7] 0 0), (9, V.ptr [31] 0 0)])], [40]⟩) ?_ (fun HJ1641 => ?_)
       ·rintro ⟨v13_1638, v317_1639, v3110_1640⟩ h
        replace h : go_ring_Step_j144 a2_64 v13_1638 v317_1639 v3110_1640 = some r := h
        rw [go_ring_Step_j144] at h
        refine Q0 E_good rfl (v := V.bool v13_1638) (.pickK rfl hc1594 rfl) ?_
        refine Q0 E_good rfl (v := V.ptr [31] 0 0) (.fn rfl) ?_
        refine Q0 E_good rfl (v := V.ptr [31] 0 0) (.fn rfl) ?_
        refine Q0 E_good rfl (v := V.ptr [31] 0 5) (.fn rfl) ?_
        refine SafeOps.store (z := Obj.box [V.int .i64 a2_64.Kind, V.int .i64 a2_64.Pc, V.int .i64 a2_64.V, V.int .i64 a2_64.T, V.int .i64 a2_64.B, V.bool v13_1638, V.int .i64 a2_64.State, V.ref [7000, 114, 31, 7] 0 (rws (fun n => [V.int .i64 n]) v317_1639).length, V.int .i64 a1_63.Base, V.int .i64 a1_63.Cap, V.int .i64 v3110_1640]) E_good rfl rfl rfl rfl rfl rfl rfl (.boxM (c := 11) rfl rfl (Nat.le_of_ble_eq_true rfl) rfl) ?_
        refine SafeOps.nil ?_
        repeat (first | refine sq ?_ | refine sk ?_ | with_reducible first | refine tn ?_ | refine bn ?_)
        refine Safe.region ?_
        refine Qf E_good ?_
        refine Q0 E_good rfl (v := V.ptr [31] 0 0) (.fn rfl) ?_
        refine Q0 E_good rfl (v := V.ptr [31] 0 0) (.fn rfl) ?_
        refine Q0 E_good rfl (v := V.ptr [31] 0 1) (.fn rfl) ?_
        refine Q0 E_good rfl (v := V.int .i64 a2_64.Pc) (.load rfl rfl (.box rfl rfl) rfl) ?_
        refine Q0 E_good rfl (v := V.int .i64 (IntKind.i64.wrap (a2_64.Pc + 1))) (.fn rfl) ?_
        refine Q0 E_good rfl (v := V.ptr [31] 0 0) (.fn rfl) ?_
        refine Q0 E_good rfl (v := V.ptr [31] 0 0) (.fn rfl) ?_
        refine Q0 E_good rfl (v := V.ptr [31] 0 1) (.fn rfl) ?_
        refine SafeOps.store (z := Obj.box [V.int .i64 a2_64.Kind, V.int .i64 (IntKind.i64.wrap (a2_64.Pc + 1)), V.int .i64 a2_64.V, V.int .i64 a2_64.T, V.int .i64 a2_64.B, V.bool v13_1638, V.int .i64 a2_64.State, V.ref [7000, 114, 31, 7] 0 (rws (fun n => [V.int .i64 n]) v317_1639).length, V.int .i64 a1_63.Base, V.int .i64 a1_63.Cap, V.int .i64 v3110_1640]) E_good rfl rfl rfl rfl rfl rfl rfl (.boxM (c := 11) rfl rfl (Nat.le_of_ble_eq_true rfl) rfl) ?_
        refine SafeOps.nil ?_
        repeat (first | refine sq ?_ | refine sk ?_ | with_reducible first | refine tn ?_ | refine bn ?_)
        repeat (first | with_reducible refine thenQ.r ?_ | with_reducible refine blockQ.r ?_)
        refine inQ.gen (vs := []) (v := V.tup []) (.inl rfl) rfl .nil rfl ?_
        exact SafeOps.got (HJ1246 (IntKind.i64.wrap (a2_64.Pc + 1), a2_64.V, a2_64.T, a2_64.B, v13_1638, a2_64.State, v317_1639, v3110_1640) h) (.cov ⟨rfl, rfl, (ut (ut upT_nil)), (uo (uo (uo upOb_nil))), upOut_nil, rfl⟩)
       ·skip
        refine SafeOps.inline E_good (congrArg some hc1594) rfl rfl rfl rfl Try.func58 rfl (fun _ _ => Try.call58 _ _) rfl ?_
        repeat (first | refine sq ?_ | refine sk ?_ | with_reducible first | refine tn ?_ | refine bn ?_)
        refine Safe.region ?_
        refine Qf E_good ?_
        refine SafeOps.nil ?_
        repeat (first | refine sq ?_ | refine sk ?_ | with_reducible first | refine tn ?_ | refine bn ?_)
        refine Safe.regionD (n := 25) [] [] E_good mixed rfl ?_
        refine DT 0 [] rfl rfl (fun _ hz => (.fn rfl)) ?_
        refine DT 1 [] rfl rfl (v := V.ptr [31] 0 0) (fun _ hz => (.fn rfl)) ?_
        refine DT 2 [] rfl rfl (v := V.ptr [31] 0 7) (fun _ hz => (.fn rfl)) ?_
        refine DT 3 [] rfl rfl (v := V.ref [28] 0 (rws (fun n => [V.int .i64 n]) ([] ++ a0_62)).length) (fun _ hz => (.load rfl rfl (.box (hz _ _ rfl rfl) rfl) rfl)) ?_
        refine DT 4 [] rfl rfl (fun _ hz => (.fn rfl)) ?_
        refine DT 5 [] rfl rfl (v := V.int .i64 (go_pring_actor_top (ring_actor.mk a2_64 ([] ++ a0_62) a1_63 v3110_1592))) (fun _ hz => (.callS rfl (.cons (.box (hz _ _ rfl rfl) (.cons (.free rfl) (.cons (.free rfl) (.cons (.free rfl) (.cons (.free rfl) (.cons (.free rfl) (.cons (.free rfl) (.cons (.free rfl) (.cons (.full (hz _ _ rfl rfl) rfl) (.cons (.free rfl) (.cons (.free rfl) (.cons (.free rfl) .nil)))))))))))) .nil) (go_pring_actor_top_sc (ring_actor.mk a2_64 ([] ++ a0_62) a1_63 v3110_1592) _ rfl) (.plain rfl) rfl)) ?_
        refine DT 6 [] rfl rfl (fun _ hz => (.fn rfl)) ?_
        refine DT 7 [] rfl rfl (v := V.ptr [31] 0 0) (fun _ hz => (.fn rfl)) ?_
        refine DT 8 [] rfl rfl (v := V.ptr [31] 0 0) (fun _ hz => (.fn rfl)) ?_
        refine DT 9 [] rfl rfl (v := V.ptr [31] 0 3) (fun _ hz => (.fn rfl)) ?_
        refine DT 10 [] rfl rfl (v := V.int .i64 a2_64.T) (fun _ hz => (.load rfl rfl (.box (hz _ _ rfl rfl) rfl) rfl)) ?_
        refine DT 11 [] rfl rfl (fun _ hz => (.fn rfl)) ?_
        refine DT 12 [] rfl rfl (v := V.ptr [31] 0 0) (fun _ hz => (.fn rfl)) ?_
        refine DT 13 [] rfl rfl (v := V.ptr [31] 0 0) (fun _ hz => (.fn rfl)) ?_
        refine DT 14 [] rfl rfl (v := V.ptr [31] 0 3) (fun _ hz => (.fn rfl)) ?_
        refine DT 15 [] rfl rfl (v := V.int .i64 a2_64.T) (fun _ hz => (.load rfl rfl (.box (hz _ _ rfl rfl) rfl) rfl)) ?_
        refine DT 16 [] rfl rfl (v := V.int .i64 (IntKind.i64.wrap (a2_64.T + 1))) (fun _ hz => (.fn rfl)) ?_
        refine bindG h ?_
        rintro ⟨x_1642, x_1643, x_1644⟩ he1645 h
        refine DAny.only (i := 17) rfl (by kernel_rfl) (.quiet rfl rfl rfl (v := V.tup [V.ref [40, 13, 24, 0] 0 (rws (fun n => [V.int .i64 n]) x_1642).length, V.bool x_1643, V.int .i64 x_1644]) (.callS rfl (.cons (.full rfl rfl) (.cons (.free rfl) (.cons (.free rfl) (.cons (.free rfl) .nil)))) (go_cell_Cas_sc ([] ++ a0_62) (go_pring_actor_top (ring_actor.mk a2_64 ([] ++ a0_62) a1_63 v3110_1592)) a2_64.T (IntKind.i64.wrap (a2_64.T + 1)) _ he1645) (.tupL (.cons (.ownM (fun _ => rfl)) (.cons (.plain rfl) (.cons (.plain rfl) .nil)))) rfl) rfl ?_)
        refine DT 18 [] rfl rfl (fun _ hz => (.fn rfl)) ?_
        refine DT 19 [] rfl rfl (fun _ hz => (.fn rfl)) ?_
        refine DT 20 [] rfl rfl (fun _ hz => (.fn rfl)) ?_
        refine DT 21 [] rfl rfl (fun _ hz => (.fn rfl)) ?_
        refine DT 22 [] rfl rfl (fun _ hz => (.fn rfl)) ?_
        refine DT 23 [] rfl rfl (fun _ hz => (.fn rfl)) ?_
        refine DT 24 [] rfl rfl (fun _ hz => (.fn rfl)) ?_
        refine DAny.nil (by kernel_rfl) ?_
        repeat (first | refine sq ?_ | refine sk ?_ | with_reducible first | refine tn ?_ | refine bn ?_)
        refine Safe.region ?_
        refine Qf E_good ?_
        refine Qf E_good ?_
        refine Q0 E_good rfl (v := V.bool (x_1644 == 0)) (.fn rfl) ?_
        refine SafeOps.joinT 1 (fun (v3110_1647 : Int) => go_ring_Step_j145 a0_62 a2_64 x_1642 x_1643 x_1644 v3110_1647 = some r) (fun (v3110_1647 : Int) => ⟨Try.f58.ntmps, [(0, V.ptr [31] 0 0), (3, V.ref [40, 13, 24, 0] 0 (rws (fun n => [V.int .i64 n]) x_1642).length), (4, V.bool x_1643), (31, V.bool (x_1644 == 0))], [([7], Obj.box [V.int .i64 0, V.int .i64 0, V.int .i64 0, V.int .i64 0, V.int .i64 0, V.bool false, V.int .i64 0]), ([28], Obj.rows 1 (rws (fun n => [V.int .i64 n]) ([] ++ a0_62)) false), ([31], Obj.box [V.int .i64 a2_64.Kind, V.int .i64 a2_64.Pc, V.int .i64 a2_64.V, V.int .i64 a2_64.T, V.int .i64 a2_64.B, V.bool a2_64.Won, V.int .i64 a2_64.State, V.ref [28] 0 (rws (fun n => [V.int .i64 n]) ([] ++ a0_62)).length, V.int .i64 a1_63.Base, V.int .i64 a1_63.Cap, V.int .i64 v3110_1647]), ([40, 13, 24, 0], Obj.rows 1 (rws (fun n => [V.int .i64 n]) x_1642) false)], [(Try.f46.ntmps, [(0, V.ptr [31] 0 0), (2, V.ptr [31] 0 0), (11, V.bool (decide (a2_64.T ≥ 0)))]), (Try.f8.ntmps, [(7, V.ptr [7] 0 0), (9, V.ptr [31] 0 0)])], [40, 13]⟩) ?_ (fun HJ1648 => ?_)
        ·intro v3110_1647 h
         replace h : go_ring_Step_j145 a0_62 a2_64 x_1642 x_1643 x_1644 v3110_1647 = some r := h
         rw [go_ring_Step_j145] at h
         refine SafeOps.nil ?_
         repeat (first | refine sq ?_ | refine sk ?_ | with_reducible first | refine tn ?_ | refine bn ?_)
         refine ifG h (fun hc1649 h => ?_) (fun hc1649 h => ?_)
         ·skip
          refine Safe.condK rfl hc1649 ?_
          repeat (first | refine sq ?_ | refine sk ?_ | with_reducible first | refine tn ?_ | refine bn ?_)
          refine Safe.region ?_
          refine Qf E_good ?_
          refine Qf E_good ?_
          refine Q0 E_good rfl (v := V.ptr [31] 0 0) (.fn rfl) ?_
          refine Q0 E_good rfl (v := V.ptr [31] 0 7) (.fn rfl) ?_
          refine SafeOps.store (z := Obj.box [V.int .i64 a2_64.Kind, V.int .i64 a2_64.Pc, V.int .i64 a2_64.V, V.int .i64 a2_64.T, V.int .i64 a2_64.B, V.bool a2_64.Won, V.int .i64 a2_64.State, V.ref [40, 13, 24, 0] 0 (rws (fun n => [V.int .i64 n]) x_1642).length, V.int .i64 a1_63.Base, V.int .i64 a1_63.Cap, V.int .i64 v3110_1647]) E_good rfl rfl rfl rfl rfl rfl rfl (.boxM (c := 11) rfl rfl (Nat.le_of_ble_eq_true rfl) rfl) ?_
          refine SafeOps.nil ?_
          repeat (first | refine sq ?_ | refine sk ?_ | with_reducible first | refine tn ?_ | refine bn ?_)
          refine Safe.region ?_
          refine Qf E_good ?_
          refine Qf E_good ?_
          refine SafeOps.nil ?_
          repeat (first | refine sq ?_ | refine sk ?_ | with_reducible first | refine tn ?_ | refine bn ?_)
          refine Safe.ret ?_
          repeat (first | with_reducible refine thenQ.r ?_ | with_reducible refine blockQ.r ?_)
          refine inQ.gen (vs := [V.bool x_1643]) (v := V.bool x_1643) (.inr rfl) rfl (.tmp (v := V.bool x_1643) rfl .nil) rfl ?_
          exact SafeOps.got (HJ1641 (x_1643, x_1642, v3110_1647) h) (.ren [40, 13, 24, 0] [7000, 114, 31, 7] (.cov ⟨rfl, rfl, (ut (ut (ut (ut upT_nil)))), (uo (uo (uo upOb_nil))), (upOut_cons rfl (ut (ut upT_nil)) upOut_nil), rfl⟩))
         ·skip
          refine Safe.condN rfl hc1649 ?_
          repeat (first | refine sq ?_ | refine sk ?_ | with_reducible first | refine tn ?_ | refine bn ?_)
          refine Safe.region ?_
          refine Qf E_good ?_
          refine Qf E_good ?_
          refine SafeOps.nil ?_
          repeat (first | refine sq ?_ | refine sk ?_ | with_reducible first | refine tn ?_ | refine bn ?_)
          refine Safe.ret ?_
          repeat (first | with_reducible refine thenQ.r ?_ | with_reducible refine blockQ.r ?_)
          refine inQ.gen (vs := [V.bool x_1643]) (v := V.bool x_1643) (.inr rfl) rfl (.tmp (v := V.bool x_1643) rfl .nil) rfl ?_
          exact SafeOps.got (HJ1641 (x_1643, [] ++ a0_62, v3110_1647) h) (.ren [28] [7000, 114, 31, 7] (.cov ⟨rfl, rfl, (ut (ut (ut (ut upT_nil)))), (uo (uo (uo upOb_nil))), (upOut_cons rfl (ut (ut upT_nil)) upOut_nil), rfl⟩))
        ·skip
         refine SafeOps.inline E_good rfl rfl rfl rfl rfl Try.func54 rfl (fun _ _ => Try.call54 _ _) rfl ?_
         repeat (first | refine sq ?_ | refine sk ?_ | with_reducible first | refine tn ?_ | refine bn ?_)
         refine Safe.region ?_
         refine Qf E_good ?_
         refine SafeOps.nil ?_
         repeat (first | refine sq ?_ | refine sk ?_ | with_reducible first | refine tn ?_ | refine bn ?_)
         refine Safe.region ?_
         refine Qf E_good ?_
         refine Q0 E_good rfl (v := V.bool (!(x_1644 == 0))) (.fn rfl) ?_
         refine SafeOps.nil ?_
         repeat (first | refine sq ?_ | refine sk ?_ | with_reducible first | refine tn ?_ | refine bn ?_)
         refine ifG h (fun hc1650 h => ?_) (fun hc1650 h => ?_)
         ·skip
          refine Safe.condK rfl hc1650 ?_
          repeat (first | refine sq ?_ | refine sk ?_ | with_reducible first | refine tn ?_ | refine bn ?_)
          refine Safe.region ?_
          refine Qf E_good ?_
          refine Q0 E_good rfl (v := V.ptr [31] 0 0) (.fn rfl) ?_
          refine Q0 E_good rfl (v := V.ptr [31] 0 10) (.fn rfl) ?_
          refine SafeOps.store (z := Obj.box [V.int .i64 a2_64.Kind, V.int .i64 a2_64.Pc, V.int .i64 a2_64.V, V.int .i64 a2_64.T, V.int .i64 a2_64.B, V.bool a2_64.Won, V.int .i64 a2_64.State, V.ref [28] 0 (rws (fun n => [V.int .i64 n]) ([] ++ a0_62)).length, V.int .i64 a1_63.Base, V.int .i64 a1_63.Cap, V.int .i64 9]) E_good rfl rfl rfl rfl rfl rfl rfl (.boxM (c := 11) rfl rfl (Nat.le_of_ble_eq_true rfl) rfl) ?_
          refine SafeOps.nil ?_
          repeat (first | refine sq ?_ | refine sk ?_ | with_reducible first | refine tn ?_ | refine bn ?_)
          refine Safe.region ?_
          refine Qf E_good ?_
          refine Qf E_good ?_
          refine SafeOps.nil ?_
          repeat (first | refine sq ?_ | refine sk ?_ | with_reducible first | refine tn ?_ | refine bn ?_)
          refine Safe.ret ?_
          repeat (first | with_reducible refine thenQ.r ?_ | with_reducible refine blockQ.r ?_)
          refine inQ.gen (vs := [V.bool (x_1644 == 0)]) (v := V.bool (x_1644 == 0)) (.inr rfl) rfl (.tmp (v := V.bool (x_1644 == 0)) rfl .nil) rfl ?_
          exact SafeOps.got (HJ1648 (9) h) (.cov ⟨rfl, rfl, (ut (ut (ut (ut upT_nil)))), (uo (uo (uo (uo upOb_nil)))), (upOut_cons rfl (ut (ut (ut upT_nil))) (upOut_cons rfl (ut (ut upT_nil)) upOut_nil)), rfl⟩)
         ·skip
          refine Safe.condN rfl hc1650 ?_
          repeat (first | refine sq ?_ | refine sk ?_ | with_reducible first | refine tn ?_ | refine bn ?_)
          refine Safe.region ?_
          refine Qf E_good ?_
          refine Qf E_good ?_
          refine SafeOps.nil ?_
          repeat (first | refine sq ?_ | refine sk ?_ | with_reducible first | refine tn ?_ | refine bn ?_)
          refine Safe.ret ?_
          repeat (first | with_reducible refine thenQ.r ?_ | with_reducible refine blockQ.r ?_)
          refine inQ.gen (vs := [V.bool (x_1644 == 0)]) (v := V.bool (x_1644 == 0)) (.inr rfl) rfl (.tmp (v := V.bool (x_1644 == 0)) rfl .nil) rfl ?_
          exact SafeOps.got (HJ1648 (v3110_1592) h) (.cov ⟨rfl, rfl, (ut (ut (ut (ut upT_nil)))), (uo (uo (uo (uo upOb_nil)))), (upOut_cons rfl (ut (ut (ut upT_nil))) (upOut_cons rfl (ut (ut upT_nil)) upOut_nil)), rfl⟩)
      ·skip
       refine SafeOps.skip (congrArg some hc1594) rfl rfl ?_
       refine SafeOps.skip (congrArg some hc1594) rfl rfl ?_
       refine Q0 E_good rfl (v := V.bool false) (.pickK rfl hc1594 rfl) ?_
       refine Q0 E_good rfl (v := V.ptr [31] 0 0) (.fn rfl) ?_
       refine Q0 E_good rfl (v := V.ptr [31] 0 0) (.fn rfl) ?_
       refine Q0 E_good rfl (v := V.ptr [31] 0 5) (.fn rfl) ?_
       refine SafeOps.store (z := Obj.box [V.int .i64 a2_64.Kind, V.int .i64 a2_64.Pc, V.int .i64 a2_64.V, V.int .i64 a2_64.T, V.int .i64 a2_64.B, V.bool false, V.int .i64 a2_64.State, V.ref [28] 0 (rws (fun n => [V.int .i64 n]) ([] ++ a0_62)).length, V.int .i64 a1_63.Base, V.int .i64 a1_63.Cap, V.int .i64 v3110_1592]) E_good rfl rfl rfl rfl rfl rfl rfl (.boxM (c := 11) rfl rfl (Nat.le_of_ble_eq_true rfl) rfl) ?_
       refine SafeOps.nil ?_
       repeat (first | refine sq ?_ | refine sk ?_ | with_reducible first | refine tn ?_ | refine bn ?_)
       refine Safe.region ?_
       refine Qf E_good ?_
       refine Q0 E_good rfl (v := V.ptr [31] 0 0) (.fn rfl) ?_
       refine Q0 E_good rfl (v := V.ptr [31] 0 0) (.fn rfl) ?_
       refine Q0 E_good rfl (v := V.ptr [31] 0 1) (.fn rfl) ?_
       refine Q0 E_good rfl (v := V.int .i64 a2_64.Pc) (.load rfl rfl (.box rfl rfl) rfl) ?_
       refine Q0 E_good rfl (v := V.int .i64 (IntKind.i64.wrap (a2_64.Pc + 1))) (.fn rfl) ?_
       refine Q0 E_good rfl (v := V.ptr [31] 0 0) (.fn rfl) ?_
       refine Q0 E_good rfl (v := V.ptr [31] 0 0) (.fn rfl) ?_
       refine Q0 E_good rfl (v := V.ptr [31] 0 1) (.fn rfl) ?_
       refine SafeOps.store (z := Obj.box [V.int .i64 a2_64.Kind, V.int .i64 (IntKind.i64.wrap (a2_64.Pc + 1)), V.int .i64 a2_64.V, V.int .i64 a2_64.T, V.int .i64 a2_64.B, V.bool false, V.int .i64 a2_64.State, V.ref [28] 0 (rws (fun n => [V.int .i64 n]) ([] ++ a0_62)).length, V.int .i64 a1_63.Base, V.int .i64 a1_63.Cap, V.int .i64 v3110_1592]) E_good rfl rfl rfl rfl rfl rfl rfl (.boxM (c := 11) rfl rfl (Nat.le_of_ble_eq_true rfl) rfl) ?_
       refine SafeOps.nil ?_
       repeat (first | refine sq ?_ | refine sk ?_ | with_reducible first | refine tn ?_ | refine bn ?_)
       repeat (first | with_reducible refine thenQ.r ?_ | with_reducible refine blockQ.r ?_)
       refine inQ.gen (vs := []) (v := V.tup []) (.inl rfl) rfl .nil rfl ?_
       exact SafeOps.got (HJ1246 (IntKind.i64.wrap (a2_64.Pc + 1), a2_64.V, a2_64.T, a2_64.B, false, a2_64.State, [] ++ a0_62, v3110_1592) h) (.ren [28] [7000, 114, 31, 7] (.cov ⟨rfl, rfl, (ut (ut upT_nil)), (uo (uo (uo upOb_nil))), upOut_nil, rfl⟩))
     ·skip
      refine SafeOps.inline E_good rfl rfl rfl rfl rfl Try.func54 rfl (fun _ _ => Try.call54 _ _) rfl ?_
      repeat (first | refine sq ?_ | refine sk ?_ | with_reducible first | refine tn ?_ | refine bn ?_)
      refine Safe.region ?_
      refine Qf E_good ?_
      refine SafeOps.nil ?_
      repeat (first | refine sq ?_ | refine sk ?_ | with_reducible first | refine tn ?_ | refine bn ?_)
      refine Safe.region ?_
      refine Qf E_good ?_
      refine Q0 E_good rfl (v := V.bool (!(decide (a2_64.T ≥ 0)))) (.fn rfl) ?_
      refine SafeOps.nil ?_
      repeat (first | refine sq ?_ | refine sk ?_ | with_reducible first | refine tn ?_ | refine bn ?_)
      refine ifG h (fun hc1651 h => ?_) (fun hc1651 h => ?_)
      ·skip
       refine Safe.condK rfl hc1651 ?_
       repeat (first | refine sq ?_ | refine sk ?_ | with_reducible first | refine tn ?_ | refine bn ?_)
       refine Safe.region ?_
       refine Qf E_good ?_
       refine Q0 E_good rfl (v := V.ptr [31] 0 0) (.fn rfl) ?_
       refine Q0 E_good rfl (v := V.ptr [31] 0 10) (.fn rfl) ?_
       refine SafeOps.store (z := Obj.box [V.int .i64 a2_64.Kind, V.int .i64 a2_64.Pc, V.int .i64 a2_64.V, V.int .i64 a2_64.T, V.int .i64 a2_64.B, V.bool a2_64.Won, V.int .i64 a2_64.State, V.ref [28] 0 (rws (fun n => [V.int .i64 n]) ([] ++ a0_62)).length, V.int .i64 a1_63.Base, V.int .i64 a1_63.Cap, V.int .i64 9]) E_good rfl rfl rfl rfl rfl rfl rfl (.boxM (c := 11) rfl rfl (Nat.le_of_ble_eq_true rfl) rfl) ?_
       refine SafeOps.nil ?_
       repeat (first | refine sq ?_ | refine sk ?_ | with_reducible first | refine tn ?_ | refine bn ?_)
       refine Safe.region ?_
       refine Qf E_good ?_
       refine Qf E_good ?_
       refine SafeOps.nil ?_
       repeat (first | refine sq ?_ | refine sk ?_ | with_reducible first | refine tn ?_ | refine bn ?_)
       refine Safe.ret ?_
       repeat (first | with_reducible refine thenQ.r ?_ | with_reducible refine blockQ.r ?_)
       refine inQ.gen (vs := [V.bool (decide (a2_64.T ≥ 0))]) (v := V.bool (decide (a2_64.T ≥ 0))) (.inr rfl) rfl (.tmp (v := V.bool (decide (a2_64.T ≥ 0))) rfl .nil) rfl ?_
       exact SafeOps.got (HJ1593 (9) h) (.cov ⟨rfl, rfl, (ut (ut (ut upT_nil))), (uo (uo (uo upOb_nil))), (upOut_cons rfl (ut (ut upT_nil)) upOut_nil), rfl⟩)
      ·skip
       refine Safe.condN rfl hc1651 ?_
       repeat (first | refine sq ?_ | refine sk ?_ | with_reducible first | refine tn ?_ | refine bn ?_)
       refine Safe.region ?_
       refine Qf E_good ?_
       refine Qf E_good ?_
       refine SafeOps.nil ?_
       repeat (first | refine sq ?_ | refine sk ?_ | with_reducible first | refine tn ?_ | refine bn ?_)
       refine Safe.ret ?_
       repeat (first | with_reducible refine thenQ.r ?_ | with_reducible refine blockQ.r ?_)
       refine inQ.gen (vs := [V.bool (decide (a2_64.T ≥ 0))]) (v := V.bool (decide (a2_64.T ≥ 0))) (.inr rfl) rfl (.tmp (v := V.bool (decide (a2_64.T ≥ 0))) rfl .nil) rfl ?_
       exact SafeOps.got (HJ1593 (0) h) (.cov ⟨rfl, rfl, (ut (ut (ut upT_nil))), (uo (uo (uo upOb_nil))), (upOut_cons rfl (ut (ut upT_nil)) upOut_nil), rfl⟩)
    refine ifP_G h (fun hq1652 h => ?_) (fun _ h => ?_)
    ·skip
     refine SafeOps.see 38 (u := V.fn 47 []) rfl (up_fn hq1652) ?_
     refine SafeOps.inline E_good rfl rfl rfl rfl rfl Try.func47 rfl (fun _ _ => Try.call47 _ _) rfl ?_
     repeat (first | refine sq ?_ | refine sk ?_ | with_reducible first | refine tn ?_ | refine bn ?_)
     refine Safe.region ?_
     refine Qf E_good ?_
     refine Qf E_good ?_
     refine Q0 E_good rfl (v := V.ptr [31] 0 0) (.fn rfl) ?_
     refine Q0 E_good rfl (v := V.ptr [31] 0 0) (.fn rfl) ?_
     refine Q0 E_good rfl (v := V.ptr [31] 0 3) (.fn rfl) ?_
     refine Q0 E_good rfl (v := V.int .i64 a2_64.T) (.load rfl rfl (.box rfl rfl) rfl) ?_
     refine Q0 E_good rfl (v := V.bool (decide (a2_64.T ≥ 0))) (.fn rfl) ?_
     refine SafeOps.joinT 1 (fun (v3110_1654 : Int) => go_ring_Step_j146 a0_62 a1_63 a2_64 v3110_1654 = some r) (fun (v3110_1654 : Int) => ⟨Try.f47.ntmps, [(0, V.ptr [31] 0 0), (9, V.bool (decide (a2_64.T ≥ 0)))], [([7], Obj.box [V.int .i64 0, V.int .i64 0, V.int .i64 0, V.int .i64 0, V.int .i64 0, V.bool false, V.int .i64 0]), ([28], Obj.rows 1 (rws (fun n => [V.int .i64 n]) ([] ++ a0_62)) false), ([31], Obj.box [V.int .i64 a2_64.Kind, V.int .i64 a2_64.Pc, V.int .i64 a2_64.V, V.int .i64 a2_64.T, V.int .i64 a2_64.B, V.bool a2_64.Won, V.int .i64 a2_64.State, V.ref [28] 0 (rws (fun n => [V.int .i64 n]) ([] ++ a0_62)).length, V.int .i64 a1_63.Base, V.int .i64 a1_63.Cap, V.int .i64 v3110_1654])], [(Try.f8.ntmps, [(7, V.ptr [7] 0 0), (9, V.ptr [31] 0 0)])], [40]⟩) ?_ (fun HJ1655 => ?_)
     ·intro v3110_1654 h
      replace h : go_ring_Step_j146 a0_62 a1_63 a2_64 v3110_1654 = some r := h
      rw [go_ring_Step_j146] at h
      refine SafeOps.nil ?_
      repeat (first | refine sq ?_ | refine sk ?_ | with_reducible first | refine tn ?_ | refine bn ?_)
      refine Safe.joinT (fun ((v317_1666, v3110_1667) : (List Int) × Int) => go_ring_Step_j149 a2_64 v317_1666 v3110_1667 = some r) (fun ((v317_1666, v3110_1667) : (List Int) × Int) => ⟨Try.f47.ntmps, [(0, V.ptr [31] 0 0)], [([7], Obj.box [V.int .i64 0, V.int .i64 0, V.int .i64 0, V.int .i64 0, V.int .i64 0, V.bool false, V.int .i64 0]), ([31], Obj.box [V.int .i64 a2_64.Kind, V.int .i64 a2_64.Pc, V.int .i64 a2_64.V, V.int .i64 a2_64.T, V.int .i64 a2_64.B, V.bool a2_64.Won, V.int .i64 a2_64.State, V.ref [7000, 114, 31, 7] 0 (rws (fun n => [V.int .i64 n]) v317_1666).length, V.int .i64 a1_63.Base, V.int .i64 a1_63.Cap, V.int .i64 v3110_1667]), ([7000, 114, 31, 7], Obj.rows 1 (rws (fun n => [V.int .i64 n]) v317_1666) false)], [(Try.f8.ntmps, [(7, V.ptr [7] 0 0), (9, V.ptr [31] 0 0)])], [40]⟩) ?_ (fun HJ1668 => ?_)
      ·rintro ⟨v317_1666, v3110_1667⟩ h
       replace h : go_ring_Step_j149 a2_64 v317_1666 v3110_1667 = some r := h
       rw [go_ring_Step_j149] at h
       repeat (first | refine sq ?_ | refine sk ?_ | with_reducible first | refine tn ?_ | refine bn ?_)
       refine Safe.region ?_
       refine Qf E_good ?_
       refine Q0 E_good rfl (v := V.ptr [31] 0 0) (.fn rfl) ?_
       refine Q0 E_good rfl (v := V.ptr [31] 0 0) (.fn rfl) ?_
       refine Q0 E_good rfl (v := V.ptr [31] 0 6) (.fn rfl) ?_
       refine SafeOps.store (z := Obj.box [V.int .i64 a2_64.Kind, V.int .i64 a2_64.Pc, V.int .i64 a2_64.V, V.int .i64 a2_64.T, V.int .i64 a2_64.B, V.bool a2_64.Won, V.int .i64 2, V.ref [7000, 114, 31, 7] 0 (rws (fun n => [V.int .i64 n]) v317_1666).length, V.int .i64 a1_63.Base, V.int .i64 a1_63.Cap, V.int .i64 v3110_1667]) E_good rfl rfl rfl rfl rfl rfl rfl (.boxM (c := 11) rfl rfl (Nat.le_of_ble_eq_true rfl) rfl) ?_
       refine SafeOps.nil ?_
       repeat (first | refine sq ?_ | refine sk ?_ | with_reducible first | refine tn ?_ | refine bn ?_)
       refine Safe.region ?_
       refine Qf E_good ?_
       refine Q0 E_good rfl (v := V.ptr [31] 0 0) (.fn rfl) ?_
       refine Q0 E_good rfl (v := V.ptr [31] 0 0) (.fn rfl) ?_
       refine Q0 E_good rfl (v := V.ptr [31] 0 5) (.fn rfl) ?_
       refine Q0 E_good rfl (v := V.bool a2_64.Won) (.load rfl rfl (.box rfl rfl) rfl) ?_
       refine SafeOps.nil ?_
       repeat (first | refine sq ?_ | refine sk ?_ | with_reducible first | refine tn ?_ | refine bn ?_)
       refine ifG h (fun hc1669 h => ?_) (fun hc1669 h => ?_)
       ·skip
        refine Safe.condK rfl hc1669 ?_
        repeat (first | refine sq ?_ | refine sk ?_ | with_reducible first | refine tn ?_ | refine bn ?_)
        refine Safe.region ?_
        refine Qf E_good ?_
        refine Q0 E_good rfl (v := V.ptr [31] 0 0) (.fn rfl) ?_
        refine Q0 E_good rfl (v := V.ptr [31] 0 0) (.fn rfl) ?_
        refine Q0 E_good rfl (v := V.ptr [31] 0 6) (.fn rfl) ?_
        refine SafeOps.store (z := Obj.box [V.int .i64 a2_64.Kind, V.int .i64 a2_64.Pc, V.int .i64 a2_64.V, V.int .i64 a2_64.T, V.int .i64 a2_64.B, V.bool a2_64.Won, V.int .i64 1, V.ref [7000, 114, 31, 7] 0 (rws (fun n => [V.int .i64 n]) v317_1666).length, V.int .i64 a1_63.Base, V.int .i64 a1_63.Cap, V.int .i64 v3110_1667]) E_good rfl rfl rfl rfl rfl rfl rfl (.boxM (c := 11) rfl rfl (Nat.le_of_ble_eq_true rfl) rfl) ?_
        refine SafeOps.nil ?_
        repeat (first | refine sq ?_ | refine sk ?_ | with_reducible first | refine tn ?_ | refine bn ?_)
        repeat (first | with_reducible refine thenQ.r ?_ | with_reducible refine blockQ.r ?_)
        refine inQ.gen (vs := []) (v := V.tup []) (.inl rfl) rfl .nil rfl ?_
        exact SafeOps.got (HJ1246 (a2_64.Pc, a2_64.V, a2_64.T, a2_64.B, a2_64.Won, 1, v317_1666, v3110_1667) h) (.cov ⟨rfl, rfl, (ut (ut upT_nil)), (uo (uo (uo upOb_nil))), upOut_nil, rfl⟩)
       ·skip
        refine Safe.condN rfl hc1669 ?_
        repeat (first | refine sq ?_ | refine sk ?_ | with_reducible first | refine tn ?_ | refine bn ?_)
        repeat (first | with_reducible refine thenQ.r ?_ | with_reducible refine blockQ.r ?_)
        refine inQ.gen (vs := []) (v := V.tup []) (.inl rfl) rfl .nil rfl ?_
        exact SafeOps.got (HJ1246 (a2_64.Pc, a2_64.V, a2_64.T, a2_64.B, a2_64.Won, 2, v317_1666, v3110_1667) h) (.cov ⟨rfl, rfl, (ut (ut upT_nil)), (uo (uo (uo upOb_nil))), upOut_nil, rfl⟩)
      ·skip
       refine ifG h (fun hc1670 h => ?_) (fun hc1670 h => ?_)
       ·skip
        refine Safe.condK rfl hc1670 ?_
        repeat (first | refine sq ?_ | refine sk ?_ | with_reducible first | refine tn ?_ | refine bn ?_)
        refine Safe.regionD (n := 10) [] [9] E_good mixed rfl ?_
        refine DT 0 [] rfl rfl (fun _ hz => (.fn rfl)) ?_
        refine DT 1 [] rfl rfl (fun _ hz => (.fn rfl)) ?_
        refine DT 2 [] rfl rfl (v := V.int .i64 (go_pring_actor_bottom (ring_actor.mk a2_64 ([] ++ a0_62) a1_63 v3110_1654))) (fun _ hz => (.callS rfl (.cons (.box (hz _ _ rfl rfl) (.cons (.free rfl) (.cons (.free rfl) (.cons (.free rfl) (.cons (.free rfl) (.cons (.free rfl) (.cons (.free rfl) (.cons (.free rfl) (.cons (.full (hz _ _ rfl rfl) rfl) (.cons (.free rfl) (.cons (.free rfl) (.cons (.free rfl) .nil)))))))))))) .nil) (go_pring_actor_bottom_sc (ring_actor.mk a2_64 ([] ++ a0_62) a1_63 v3110_1654) _ rfl) (.plain rfl) rfl)) ?_
        refine DT 3 [] rfl rfl (fun _ hz => (.fn rfl)) ?_
        refine DT 4 [] rfl rfl (v := V.ptr [31] 0 0) (fun _ hz => (.fn rfl)) ?_
        refine DT 5 [] rfl rfl (v := V.ptr [31] 0 0) (fun _ hz => (.fn rfl)) ?_
        refine DT 6 [] rfl rfl (v := V.ptr [31] 0 3) (fun _ hz => (.fn rfl)) ?_
        refine DT 7 [] rfl rfl (v := V.int .i64 a2_64.T) (fun _ hz => (.load rfl rfl (.box (hz _ _ rfl rfl) rfl) rfl)) ?_
        refine DT 8 [] rfl rfl (v := V.int .i64 (IntKind.i64.wrap (a2_64.T + 1))) (fun _ hz => (.fn rfl)) ?_
        refine DAny.onlyS (i := 9) rfl (by kernel_rfl) rfl ?_
        refine SafeOps.joinT 1 (fun ((v317_1678, v3110_1679) : (List Int) × Int) => go_ring_Step_j151 a2_64 v317_1678 v3110_1679 = some r) (fun ((v317_1678, v3110_1679) : (List Int) × Int) => ⟨Try.f47.ntmps, [(0, V.ptr [31] 0 0)], [([7], Obj.box [V.int .i64 0, V.int .i64 0, V.int .i64 0, V.int .i64 0, V.int .i64 0, V.bool false, V.int .i64 0]), ([31], Obj.box [V.int .i64 a2_64.Kind, V.int .i64 a2_64.Pc, V.int .i64 a2_64.V, V.int .i64 a2_64.T, V.int .i64 a2_64.B, V.bool a2_64.Won, V.int .i64 a2_64.State, V.ref [7000, 114, 31, 7] 0 (rws (fun n => [V.int .i64 n]) v317_1678).length, V.int .i64 a1_63.Base, V.int .i64 a1_63.Cap, V.int .i64 v3110_1679]), ([7000, 114, 31, 7], Obj.rows 1 (rws (fun n => [V.int .i64 n]) v317_1678) false)], [(Try.f8.ntmps, [(7, V.ptr [7] 0 0), (9, V.ptr [31] 0 0)])], [40]⟩) ?_ (fun HJ1680 => ?_)
        ·rintro ⟨v317_1678, v3110_1679⟩ h
         replace h : go_ring_Step_j151 a2_64 v317_1678 v3110_1679 = some r := h
         rw [go_ring_Step_j151] at h
         refine SafeOps.nil ⟨rfl, ?_⟩
         refine DAny.nil (by kernel_rfl) ?_
         repeat (first | refine Safe.skip ?_ | with_reducible refine thenQ.n ?_ | with_reducible refine blockQ.n ?_)
         exact Safe.got (HJ1668 (v317_1678, v3110_1679) h) (.cov ⟨rfl, rfl, (ut upT_nil), (uo (uo (uo upOb_nil))), (upOut_cons rfl (ut (ut upT_nil)) upOut_nil), rfl⟩)
        ·skip
         refine SafeOps.inline E_good rfl rfl rfl rfl rfl Try.func57 rfl (fun _ _ => Try.call57 _ _) rfl ?_
         repeat (first | refine sq ?_ | refine sk ?_ | with_reducible first | refine tn ?_ | refine bn ?_)
         refine Safe.region ?_
         refine Qf E_good ?_
         refine Q0 E_good rfl (v := V.ptr [31] 0 0) (.fn rfl) ?_
         refine Q0 E_good rfl (v := V.ptr [31] 0 7) (.fn rfl) ?_
         refine Q0 E_good rfl (v := V.ref [28] 0 (rws (fun n => [V.int .i64 n]) ([] ++ a0_62)).length) (.load rfl rfl (.box rfl rfl) rfl) ?_
         refine Qf E_good ?_
         refine Qf E_good ?_
         refine bindG h ?_
         rintro ⟨x_1681, x_1682⟩ he1683 h
         refine SafeOps.quiet E_good rfl rfl rfl (v := V.tup [V.ref [40, 19, 15, 0] 0 (rws (fun n => [V.int .i64 n]) x_1681).length, V.int .i64 x_1682]) (.callS rfl (.cons (.full rfl rfl) (.cons (.free rfl) (.cons (.free rfl) .nil))) (go_cell_Store_sc ([] ++ a0_62) (go_pring_actor_bottom (ring_actor.mk a2_64 ([] ++ a0_62) a1_63 v3110_1654)) (IntKind.i64.wrap (a2_64.T + 1)) _ he1683) (.tupL (.cons (.ownM (fun _ => rfl)) (.cons (.plain rfl) .nil))) rfl) rfl ?_
         refine Qf E_good ?_
         refine Qf E_good ?_
         refine Qf E_good ?_
         refine Qf E_good ?_
         refine Qf E_good ?_
         refine SafeOps.nil ?_
         repeat (first | refine sq ?_ | refine sk ?_ | with_reducible first | refine tn ?_ | refine bn ?_)
         refine Safe.region ?_
         refine Qf E_good ?_
         refine Qf E_good ?_
         refine Q0 E_good rfl (v := V.bool (x_1682 == 0)) (.fn rfl) ?_
         refine SafeOps.joinT 1 (fun (v3110_1685 : Int) => go_ring_Step_j152 a0_62 a2_64 x_1681 x_1682 v3110_1685 = some r) (fun (v3110_1685 : Int) => ⟨Try.f57.ntmps, [(0, V.ptr [31] 0 0), (6, V.ref [40, 19, 15, 0] 0 (rws (fun n => [V.int .i64 n]) x_1681).length), (21, V.bool (x_1682 == 0))], [([7], Obj.box [V.int .i64 0, V.int .i64 0, V.int .i64 0, V.int .i64 0, V.int .i64 0, V.bool false, V.int .i64 0]), ([28], Obj.rows 1 (rws (fun n => [V.int .i64 n]) ([] ++ a0_62)) false), ([31], Obj.box [V.int .i64 a2_64.Kind, V.int .i64 a2_64.Pc, V.int .i64 a2_64.V, V.int .i64 a2_64.T, V.int .i64 a2_64.B, V.bool a2_64.Won, V.int .i64 a2_64.State, V.ref [28] 0 (rws (fun n => [V.int .i64 n]) ([] ++ a0_62)).length, V.int .i64 a1_63.Base, V.int .i64 a1_63.Cap, V.int .i64 v3110_1685]), ([40, 19, 15, 0], Obj.rows 1 (rws (fun n => [V.int .i64 n]) x_1681) false)], [(Try.f47.ntmps, [(0, V.ptr [31] 0 0)]), (Try.f8.ntmps, [(7, V.ptr [7] 0 0), (9, V.ptr [31] 0 0)])], [40, 19]⟩) ?_ (fun HJ1686 => ?_)
         ·intro v3110_1685 h
          replace h : go_ring_Step_j152 a0_62 a2_64 x_1681 x_1682 v3110_1685 = some r := h
          rw [go_ring_Step_j152] at h
          refine SafeOps.nil ?_
          repeat (first | refine sq ?_ | refine sk ?_ | with_reducible first | refine tn ?_ | refine bn ?_)
          refine ifG h (fun hc1687 h => ?_) (fun hc1687 h => ?_)
          ·skip
           refine Safe.condK rfl hc1687 ?_
           repeat (first | refine sq ?_ | refine sk ?_ | with_reducible first | refine tn ?_ | refine bn ?_)
           refine Safe.region ?_
           refine Qf E_good ?_
           refine Qf E_good ?_
           refine Q0 E_good rfl (v := V.ptr [31] 0 0) (.fn rfl) ?_
           refine Q0 E_good rfl (v := V.ptr [31] 0 7) (.fn rfl) ?_
           refine SafeOps.store (z := Obj.box [V.int .i64 a2_64.Kind, V.int .i64 a2_64.Pc, V.int .i64 a2_64.V, V.int .i64 a2_64.T, V.int .i64 a2_64.B, V.bool a2_64.Won, V.int .i64 a2_64.State, V.ref [40, 19, 15, 0] 0 (rws (fun n => [V.int .i64 n]) x_1681).length, V.int .i64 a1_63.Base, V.int .i64 a1_63.Cap, V.int .i64 v3110_1685]) E_good rfl rfl rfl rfl rfl rfl rfl (.boxM (c := 11) rfl rfl (Nat.le_of_ble_eq_true rfl) rfl) ?_
           refine SafeOps.nil ?_
           repeat (first | refine sq ?_ | refine sk ?_ | with_reducible first | refine tn ?_ | refine bn ?_)
           repeat (first | with_reducible refine thenQ.r ?_ | with_reducible refine blockQ.r ?_)
           refine inQ.gen (vs := []) (v := V.tup []) (.inl rfl) rfl .nil rfl ?_
           exact SafeOps.got (HJ1680 (x_1681, v3110_1685) h) (.ren [40, 19, 15, 0] [7000, 114, 31, 7] (.cov ⟨rfl, rfl, (ut upT_nil), (uo (uo (uo upOb_nil))), (upOut_cons rfl (ut (ut upT_nil)) upOut_nil), rfl⟩))
          ·skip
           refine Safe.condN rfl hc1687 ?_
           repeat (first | refine sq ?_ | refine sk ?_ | with_reducible first | refine tn ?_ | refine bn ?_)
           repeat (first | with_reducible refine thenQ.r ?_ | with_reducible refine blockQ.r ?_)
           refine inQ.gen (vs := []) (v := V.tup []) (.inl rfl) rfl .nil rfl ?_
           exact SafeOps.got (HJ1680 ([] ++ a0_62, v3110_1685) h) (.ren [28] [7000, 114, 31, 7] (.cov ⟨rfl, rfl, (ut upT_nil), (uo (uo (uo upOb_nil))), (upOut_cons rfl (ut (ut upT_nil)) upOut_nil), rfl⟩))
         ·skip
          refine SafeOps.inline E_good rfl rfl rfl rfl rfl Try.func54 rfl (fun _ _ => Try.call54 _ _) rfl ?_
          repeat (first | refine sq ?_ | refine sk ?_ | with_reducible first | refine tn ?_ | refine bn ?_)
          refine Safe.region ?_
          refine Qf E_good ?_
          refine SafeOps.nil ?_
          repeat (first | refine sq ?_ | refine sk ?_ | with_reducible first | refine tn ?_ | refine bn ?_)
          refine Safe.region ?_
          refine Qf E_good ?_
          refine Q0 E_good rfl (v := V.bool (!(x_1682 == 0))) (.fn rfl) ?_
          refine SafeOps.nil ?_
          repeat (first | refine sq ?_ | refine sk ?_ | with_reducible first | refine tn ?_ | refine bn ?_)
          refine ifG h (fun hc1688 h => ?_) (fun hc1688 h => ?_)
          ·skip
           refine Safe.condK rfl hc1688 ?_
           repeat (first | refine sq ?_ | refine sk ?_ | with_reducible first | refine tn ?_ | refine bn ?_)
           refine Safe.region ?_
           refine Qf E_good ?_
           refine Q0 E_good rfl (v := V.ptr [31] 0 0) (.fn rfl) ?_
           refine Q0 E_good rfl (v := V.ptr [31] 0 10) (.fn rfl) ?_
           refine SafeOps.store (z := Obj.box [V.int .i64 a2_64.Kind, V.int .i64 a2_64.Pc, V.int .i64 a2_64.V, V.int .i64 a2_64.T, V.int .i64 a2_64.B, V.bool a2_64.Won, V.int .i64 a2_64.State, V.ref [28] 0 (rws (fun n => [V.int .i64 n]) ([] ++ a0_62)).length, V.int .i64 a1_63.Base, V.int .i64 a1_63.Cap, V.int .i64 9]) E_good rfl rfl rfl rfl rfl rfl rfl (.boxM (c := 11) rfl rfl (Nat.le_of_ble_eq_true rfl) rfl) ?_
           refine SafeOps.nil ?_
           repeat (first | refine sq ?_ | refine sk ?_ | with_reducible first | refine tn ?_ | refine bn ?_)
           refine Safe.region ?_
           refine Qf E_good ?_
           refine Qf E_good ?_
           refine SafeOps.nil ?_
           repeat (first | refine sq ?_ | refine sk ?_ | with_reducible first | refine tn ?_ | refine bn ?_)
           refine Safe.ret ?_
           repeat (first | with_reducible refine thenQ.r ?_ | with_reducible refine blockQ.r ?_)
           refine inQ.gen (vs := [V.bool (x_1682 == 0)]) (v := V.bool (x_1682 == 0)) (.inr rfl) rfl (.tmp (v := V.bool (x_1682 == 0)) rfl .nil) rfl ?_
           exact SafeOps.got (HJ1686 (9) h) (.cov ⟨rfl, rfl, (ut (ut (ut upT_nil))), (uo (uo (uo (uo upOb_nil)))), (upOut_cons rfl (ut upT_nil) (upOut_cons rfl (ut (ut upT_nil)) upOut_nil)), rfl⟩)
          ·skip
           refine Safe.condN rfl hc1688 ?_
           repeat (first | refine sq ?_ | refine sk ?_ | with_reducible first | refine tn ?_ | refine bn ?_)
           refine Safe.region ?_
           refine Qf E_good ?_
           refine Qf E_good ?_
           refine SafeOps.nil ?_
           repeat (first | refine sq ?_ | refine sk ?_ | with_reducible first | refine tn ?_ | refine bn ?_)
           refine Safe.ret ?_
           repeat (first | with_reducible refine thenQ.r ?_ | with_reducible refine blockQ.r ?_)
           refine inQ.gen (vs := [V.bool (x_1682 == 0)]) (v := V.bool (x_1682 == 0)) (.inr rfl) rfl (.tmp (v := V.bool (x_1682 == 0)) rfl .nil) rfl ?_
           exact SafeOps.got (HJ1686 (v3110_1654) h) (.cov ⟨rfl, rfl, (ut (ut (ut upT_nil))), (uo (uo (uo (uo upOb_nil)))), (upOut_cons rfl (ut upT_nil) (upOut_cons rfl (ut (ut upT_nil)) upOut_nil)), rfl⟩)
       ·skip
        refine Safe.condN rfl hc1670 ?_
        repeat (first | refine Safe.skip ?_ | with_reducible refine thenQ.n ?_ | with_reducible refine blockQ.n ?_)
        exact Safe.got (HJ1668 ([] ++ a0_62, v3110_1654) h) (.ren [28] [7000, 114, 31, 7] (.cov ⟨rfl, rfl, (ut upT_nil), (uo (uo (uo upOb_nil))), (upOut_cons rfl (ut (ut upT_nil)) upOut_nil), rfl⟩))
     ·skip
      refine SafeOps.inline E_good rfl rfl rfl rfl rfl Try.func54 rfl (fun _ _ => Try.call54 _ _) rfl ?_
      repeat (first | refine sq ?_ | refine sk ?_ | with_reducible first | refine tn ?_ | refine bn ?_)
      refine Safe.region ?_
      refine Qf E_good ?_
      refine SafeOps.nil ?_
      repeat (first | refine sq ?_ | refine sk ?_ | with_reducible first | refine tn ?_ | refine bn ?_)
      refine Safe.region ?_
      refine Qf E_good ?_
      refine Q0 E_good rfl (v := V.bool (!(decide (a2_64.T ≥ 0)))) (.fn rfl) ?_
      refine SafeOps.nil ?_
      repeat (first | refine sq ?_ | refine sk ?_ | with_reducible first | refine tn ?_ | refine bn ?_)
      refine ifG h (fun hc1689 h => ?_) (fun hc1689 h => ?_)
      ·skip
       refine Safe.condK rfl hc1689 ?_
       repeat (first | refine sq ?_ | refine sk ?_ | with_reducible first | refine tn ?_ | refine bn ?_)
       refine Safe.region ?_
       refine Qf E_good ?_
       refine Q0 E_good rfl (v := V.ptr [31] 0 0) (.fn rfl) ?_
       refine Q0 E_good rfl (v := V.ptr [31] 0 10) (.fn rfl) ?_
       refine SafeOps.store (z := Obj.box [V.int .i64 a2_64.Kind, V.int .i64 a2_64.Pc, V.int .i64 a2_64.V, V.int .i64 a2_64.T, V.int .i64 a2_64.B, V.bool a2_64.Won, V.int .i64 a2_64.State, V.ref [28] 0 (rws (fun n => [V.int .i64 n]) ([] ++ a0_62)).length, V.int .i64 a1_63.Base, V.int .i64 a1_63.Cap, V.int .i64 9]) E_good rfl rfl rfl rfl rfl rfl rfl (.boxM (c := 11) rfl rfl (Nat.le_of_ble_eq_true rfl) rfl) ?_
       refine SafeOps.nil ?_
       repeat (first | refine sq ?_ | refine sk ?_ | with_reducible first | refine tn ?_ | refine bn ?_)
       refine Safe.region ?_
       refine Qf E_good ?_
       refine Qf E_good ?_
       refine SafeOps.nil ?_
       repeat (first | refine sq ?_ | refine sk ?_ | with_reducible first | refine tn ?_ | refine bn ?_)
       refine Safe.ret ?_
       repeat (first | with_reducible refine thenQ.r ?_ | with_reducible refine blockQ.r ?_)
       refine inQ.gen (vs := [V.bool (decide (a2_64.T ≥ 0))]) (v := V.bool (decide (a2_64.T ≥ 0))) (.inr rfl) rfl (.tmp (v := V.bool (decide (a2_64.T ≥ 0))) rfl .nil) rfl ?_
       exact SafeOps.got (HJ1655 (9) h) (.cov ⟨rfl, rfl, (ut (ut upT_nil)), (uo (uo (uo upOb_nil))), (upOut_cons rfl (ut (ut upT_nil)) upOut_nil), rfl⟩)
      ·skip
       refine Safe.condN rfl hc1689 ?_
       repeat (first | refine sq ?_ | refine sk ?_ | with_reducible first | refine tn ?_ | refine bn ?_)
       refine Safe.region ?_
       refine Qf E_good ?_
       refine Qf E_good ?_
       refine SafeOps.nil ?_
       repeat (first | refine sq ?_ | refine sk ?_ | with_reducible first | refine tn ?_ | refine bn ?_)
       refine Safe.ret ?_
       repeat (first | with_reducible refine thenQ.r ?_ | with_reducible refine blockQ.r ?_)
       refine inQ.gen (vs := [V.bool (decide (a2_64.T ≥ 0))]) (v := V.bool (decide (a2_64.T ≥ 0))) (.inr rfl) rfl (.tmp (v := V.bool (decide (a2_64.T ≥ 0))) rfl .nil) rfl ?_
       exact SafeOps.got (HJ1655 (0) h) (.cov ⟨rfl, rfl, (ut (ut upT_nil)), (uo (uo (uo upOb_nil))), (upOut_cons rfl (ut (ut upT_nil)) upOut_nil), rfl⟩)
    refine ifP_G h (fun hq1690 h => ?_) (fun _ h => ?_)
    ·skip
     refine SafeOps.see 38 (u := V.fn 48 []) rfl (up_fn hq1690) ?_
     refine SafeOps.inline E_good rfl rfl rfl rfl rfl Try.func48 rfl (fun _ _ => Try.call48 _ _) rfl ?_
     repeat (first | refine sq ?_ | refine sk ?_ | with_reducible first | refine tn ?_ | refine bn ?_)
     refine Safe.region ?_
     refine Qf E_good ?_
     refine Qf E_good ?_
     refine Qf E_good ?_
     refine Q0 E_good rfl (v := V.int .i64 (go_pring_actor_bottom (ring_actor.mk a2_64 ([] ++ a0_62) a1_63 0))) (.callS rfl (.cons (.box rfl (.cons (.free rfl) (.cons (.free rfl) (.cons (.free rfl) (.cons (.free rfl) (.cons (.free rfl) (.cons (.free rfl) (.cons (.free rfl) (.cons (.full rfl rfl) (.cons (.free rfl) (.cons (.free rfl) (.cons (.free rfl) .nil)))))))))))) .nil) (go_pring_actor_bottom_sc (ring_actor.mk a2_64 ([] ++ a0_62) a1_63 0) _ rfl) (.plain rfl) rfl) ?_
     refine SafeOps.inline E_good rfl rfl rfl rfl rfl Try.func28 rfl (fun _ _ => Try.call28 _ _) rfl ?_
     repeat (first | refine sq ?_ | refine sk ?_ | with_reducible first | refine tn ?_ | refine bn ?_)
     refine Safe.region ?_
     refine Qf E_good ?_
     refine SafeOps.nil ?_
     repeat (first | refine sq ?_ | refine sk ?_ | with_reducible first | refine tn ?_ | refine bn ?_)
     refine Safe.region ?_
     refine Qf E_good ?_
     refine Qf E_good ?_
     refine SafeOps.inline E_good rfl rfl rfl rfl rfl Try.func31 rfl (fun _ _ => Try.call31 _ _) rfl ?_
     repeat (first | refine sq ?_ | refine sk ?_ | with_reducible first | refine tn ?_ | refine bn ?_)
     refine Safe.region ?_
     refine Qf E_good ?_
     refine SafeOps.nil ?_
     repeat (first | refine sq ?_ | refine sk ?_ | with_reducible first | refine tn ?_ | refine bn ?_)
     refine Safe.region ?_
     refine Qf E_good ?_
     refine Q0 E_good rfl (v := V.ptr [31] 0 0) (.fn rfl) ?_
     refine Q0 E_good rfl (v := V.ptr [31] 0 7) (.fn rfl) ?_
     refine Q0 E_good rfl (v := V.ref [28] 0 (rws (fun n => [V.int .i64 n]) ([] ++ a0_62)).length) (.load rfl rfl (.box rfl rfl) rfl) ?_
     refine Qf E_good ?_
     refine bindG h ?_
     rintro ⟨x_1713, x_1714⟩ he1715 h
     refine Q0 E_good rfl (v := V.tup [V.int .i64 x_1713, V.int .i64 x_1714]) (.callS rfl (.cons (.full rfl rfl) (.cons (.free rfl) .nil)) (go_cell_Load_sc ([] ++ a0_62) (go_pring_actor_bottom (ring_actor.mk a2_64 ([] ++ a0_62) a1_63 0)) _ he1715) (.tupL (.cons (.plain rfl) (.cons (.plain rfl) .nil))) rfl) ?_
     refine Qf E_good ?_
     refine Qf E_good ?_
     refine Qf E_good ?_
     refine Qf E_good ?_
     refine Qf E_good ?_
     refine SafeOps.nil ?_
     repeat (first | refine sq ?_ | refine sk ?_ | with_reducible first | refine tn ?_ | refine bn ?_)
     refine Safe.region ?_
     refine Qf E_good ?_
     refine Qf E_good ?_
     refine Q0 E_good rfl (v := V.bool (x_1714 == 0)) (.fn rfl) ?_
     refine SafeOps.joinT 1 (fun (v3110_1717 : Int) => go_ring_Step_j157 a0_62 a2_64 x_1713 v3110_1717 = some r) (fun (v3110_1717 : Int) => ⟨Try.f31.ntmps, [(5, V.int .i64 x_1713)], [([7], Obj.box [V.int .i64 0, V.int .i64 0, V.int .i64 0, V.int .i64 0, V.int .i64 0, V.bool false, V.int .i64 0]), ([28], Obj.rows 1 (rws (fun n => [V.int .i64 n]) ([] ++ a0_62)) false), ([31], Obj.box [V.int .i64 a2_64.Kind, V.int .i64 a2_64.Pc, V.int .i64 a2_64.V, V.int .i64 a2_64.T, V.int .i64 a2_64.B, V.bool a2_64.Won, V.int .i64 a2_64.State, V.ref [28] 0 (rws (fun n => [V.int .i64 n]) ([] ++ a0_62)).length, V.int .i64 a1_63.Base, V.int .i64 a1_63.Cap, V.int .i64 v3110_1717])], [(Try.f28.ntmps, [(0, V.ptr [31] 0 0), (2, V.int .i64 (-1))]), (Try.f48.ntmps, [(0, V.ptr [31] 0 0), (2, V.ptr [31] 0 0)]), (Try.f8.ntmps, [(7, V.ptr [7] 0 0), (9, V.ptr [31] 0 0)])], [40, 6, 10]⟩) ?_ (fun HJ1718 => ?_)
     ·intro v3110_1717 h
      replace h : go_ring_Step_j157 a0_62 a2_64 x_1713 v3110_1717 = some r := h
      rw [go_ring_Step_j157] at h
      refine SafeOps.nil ?_
      repeat (first | refine sq ?_ | refine sk ?_ | with_reducible first | refine tn ?_ | refine bn ?_)
      refine Safe.region ?_
      refine Qf E_good ?_
      refine Qf E_good ?_
      refine SafeOps.nil ?_
      repeat (first | refine sq ?_ | refine sk ?_ | with_reducible first | refine tn ?_ | refine bn ?_)
      refine Safe.ret ?_
      repeat (first | with_reducible refine thenQ.r ?_ | with_reducible refine blockQ.r ?_)
      refine inQ.gen (vs := [V.int .i64 x_1713]) (v := V.int .i64 x_1713) (.inr rfl) rfl (.tmp (v := V.int .i64 x_1713) rfl .nil) rfl ?_
      refine Qf E_good ?_
      refine SafeOps.nil ?_
      repeat (first | refine sq ?_ | refine sk ?_ | with_reducible first | refine tn ?_ | refine bn ?_)
      refine Safe.region ?_
      refine Qf E_good ?_
      refine Qf E_good ?_
      refine Qf E_good ?_
      refine Q0 E_good rfl (v := V.bool (decide (x_1713 ≥ (-1)))) (.fn rfl) ?_
      refine Qf E_good ?_
      refine SafeOps.bjoin 3 18 (b := ((decide (x_1713 ≥ (-1))) && (decide (x_1713 ≤ 1099511627776)))) (b1 := decide (x_1713 ≤ 1099511627776)) (b0 := false) (fun hc1719 K => ?_) (fun hc1719 K => ?_) bj_and ?_
      ·skip
       refine SafeOps.quiet0 E_good (congrArg some hc1719) rfl rfl (.fn rfl) ?_
       refine SafeOps.quiet0 E_good (congrArg some hc1719) rfl rfl (v := V.bool (decide (x_1713 ≤ 1099511627776))) (.fn rfl) ?_
       refine Q0 E_good rfl (v := V.bool (decide (x_1713 ≤ 1099511627776))) (.pickK rfl hc1719 rfl) ?_
       exact SafeOps.drop' 3 rfl rfl rfl K
      ·skip
       refine SafeOps.skip (congrArg some hc1719) rfl rfl ?_
       refine SafeOps.skip (congrArg some hc1719) rfl rfl ?_
       refine Q0 E_good rfl (v := V.bool false) (.pickK rfl hc1719 rfl) ?_
       exact SafeOps.drop' 3 rfl rfl rfl K
      refine SafeOps.joinT 1 (fun (v3110_1721 : Int) => go_ring_Step_j158 a0_62 a2_64 x_1713 v3110_1721 = some r) (fun (v3110_1721 : Int) => ⟨Try.f28.ntmps, [(7, V.int .i64 x_1713)], [([7], Obj.box [V.int .i64 0, V.int .i64 0, V.int .i64 0, V.int .i64 0, V.int .i64 0, V.bool false, V.int .i64 0]), ([28], Obj.rows 1 (rws (fun n => [V.int .i64 n]) ([] ++ a0_62)) false), ([31], Obj.box [V.int .i64 a2_64.Kind, V.int .i64 a2_64.Pc, V.int .i64 a2_64.V, V.int .i64 a2_64.T, V.int .i64 a2_64.B, V.bool a2_64.Won, V.int .i64 a2_64.State, V.ref [28] 0 (rws (fun n => [V.int .i64 n]) ([] ++ a0_62)).length, V.int .i64 a1_63.Base, V.int .i64 a1_63.Cap, V.int .i64 v3110_1721])], [(Try.f48.ntmps, [(0, V.ptr [31] 0 0), (2, V.ptr [31] 0 0)]), (Try.f8.ntmps, [(7, V.ptr [7] 0 0), (9, V.ptr [31] 0 0)])], [40, 6]⟩) ?_ (fun HJ1722 => ?_)
      ·intro v3110_1721 h
       replace h : go_ring_Step_j158 a0_62 a2_64 x_1713 v3110_1721 = some r := h
       rw [go_ring_Step_j158] at h
       refine SafeOps.nil ?_
       repeat (first | refine sq ?_ | refine sk ?_ | with_reducible first | refine tn ?_ | refine bn ?_)
       refine Safe.region ?_
       refine Qf E_good ?_
       refine Qf E_good ?_
       refine SafeOps.nil ?_
       repeat (first | refine sq ?_ | refine sk ?_ | with_reducible first | refine tn ?_ | refine bn ?_)
       refine Safe.ret ?_
       repeat (first | with_reducible refine thenQ.r ?_ | with_reducible refine blockQ.r ?_)
       refine inQ.gen (vs := [V.int .i64 x_1713]) (v := V.int .i64 x_1713) (.inr rfl) rfl (.tmp (v := V.int .i64 x_1713) rfl .nil) rfl ?_
       refine Q0 E_good rfl (v := V.ptr [31] 0 0) (.fn rfl) ?_
       refine Q0 E_good rfl (v := V.ptr [31] 0 0) (.fn rfl) ?_
       refine Q0 E_good rfl (v := V.ptr [31] 0 4) (.fn rfl) ?_
       refine SafeOps.store (z := Obj.box [V.int .i64 a2_64.Kind, V.int .i64 a2_64.Pc, V.int .i64 a2_64.V, V.int .i64 a2_64.T, V.int .i64 x_1713, V.bool a2_64.Won, V.int .i64 a2_64.State, V.ref [28] 0 (rws (fun n => [V.int .i64 n]) ([] ++ a0_62)).length, V.int .i64 a1_63.Base, V.int .i64 a1_63.Cap, V.int .i64 v3110_1721]) E_good rfl rfl rfl rfl rfl rfl rfl (.boxM (c := 11) rfl rfl (Nat.le_of_ble_eq_true rfl) rfl) ?_
       refine SafeOps.nil ?_
       repeat (first | refine sq ?_ | refine sk ?_ | with_reducible first | refine tn ?_ | refine bn ?_)
       refine Safe.regionD (n := 14) [] [13] E_good mixed rfl ?_
       refine DT 0 [] rfl rfl (fun _ hz => (.fn rfl)) ?_
       refine DT 1 [] rfl rfl (fun _ hz => (.fn rfl)) ?_
       refine DT 2 [] rfl rfl (v := V.ptr [31] 0 0) (fun _ hz => (.fn rfl)) ?_
       refine DT 3 [] rfl rfl (v := V.ptr [31] 0 0) (fun _ hz => (.fn rfl)) ?_
       refine DT 4 [] rfl rfl (v := V.ptr [31] 0 4) (fun _ hz => (.fn rfl)) ?_
       refine DT 5 [] rfl rfl (v := V.int .i64 x_1713) (fun _ hz => (.load rfl rfl (.box (hz _ _ rfl rfl) rfl) rfl)) ?_
       refine DT 6 [] rfl rfl (fun _ hz => (.fn rfl)) ?_
       refine DT 7 [] rfl rfl (v := V.ptr [31] 0 0) (fun _ hz => (.fn rfl)) ?_
       refine DT 8 [] rfl rfl (v := V.ptr [31] 0 0) (fun _ hz => (.fn rfl)) ?_
       refine DT 9 [] rfl rfl (v := V.ptr [31] 0 3) (fun _ hz => (.fn rfl)) ?_
       refine DT 10 [] rfl rfl (v := V.int .i64 a2_64.T) (fun _ hz => (.load rfl rfl (.box (hz _ _ rfl rfl) rfl) rfl)) ?_
       refine DT 11 [] rfl rfl (v := V.int .i64 (IntKind.i64.wrap (x_1713 - a2_64.T))) (fun _ hz => (.fn rfl)) ?_
       refine DT 12 [] rfl rfl (v := V.bool (decide ((IntKind.i64.wrap (x_1713 - a2_64.T)) < 1))) (fun _ hz => (.fn rfl)) ?_
       refine DAny.onlyS (i := 13) rfl (by kernel_rfl) rfl ?_
       refine SafeOps.joinT 1 (fun ((v311_1724, v316_1725) : Int × Int) => go_ring_Step_j159 a0_62 a2_64 x_1713 v3110_1721 v311_1724 v316_1725 = some r) (fun ((v311_1724, v316_1725) : Int × Int) => ⟨Try.f48.ntmps, [], [([7], Obj.box [V.int .i64 0, V.int .i64 0, V.int .i64 0, V.int .i64 0, V.int .i64 0, V.bool false, V.int .i64 0]), ([28], Obj.rows 1 (rws (fun n => [V.int .i64 n]) ([] ++ a0_62)) false), ([31], Obj.box [V.int .i64 a2_64.Kind, V.int .i64 v311_1724, V.int .i64 a2_64.V, V.int .i64 a2_64.T, V.int .i64 x_1713, V.bool a2_64.Won, V.int .i64 v316_1725, V.ref [28] 0 (rws (fun n => [V.int .i64 n]) ([] ++ a0_62)).length, V.int .i64 a1_63.Base, V.int .i64 a1_63.Cap, V.int .i64 v3110_1721])], [(Try.f8.ntmps, [(7, V.ptr [7] 0 0), (9, V.ptr [31] 0 0)])], [40]⟩) ?_ (fun HJ1726 => ?_)
       ·rintro ⟨v311_1724, v316_1725⟩ h
        replace h : go_ring_Step_j159 a0_62 a2_64 x_1713 v3110_1721 v311_1724 v316_1725 = some r := h
        rw [go_ring_Step_j159] at h
        refine SafeOps.nil ⟨rfl, ?_⟩
        refine DAny.nil (by kernel_rfl) ?_
        repeat (first | refine sq ?_ | refine sk ?_ | with_reducible first | refine tn ?_ | refine bn ?_)
        repeat (first | with_reducible refine thenQ.r ?_ | with_reducible refine blockQ.r ?_)
        refine inQ.gen (vs := []) (v := V.tup []) (.inl rfl) rfl .nil rfl ?_
        exact SafeOps.got (HJ1246 (v311_1724, a2_64.V, a2_64.T, x_1713, a2_64.Won, v316_1725, [] ++ a0_62, v3110_1721) h) (.ren [28] [7000, 114, 31, 7] (.cov ⟨rfl, rfl, (ut (ut upT_nil)), (uo (uo (uo upOb_nil))), upOut_nil, rfl⟩))
       ·skip
        refine SafeOps.inline E_good rfl rfl rfl rfl rfl Try.func56 rfl (fun _ _ => Try.call56 _ _) rfl ?_
        repeat (first | refine sq ?_ | refine sk ?_ | with_reducible first | refine tn ?_ | refine bn ?_)
        refine Safe.region ?_
        refine Qf E_good ?_
        refine SafeOps.nil ?_
        repeat (first | refine sq ?_ | refine sk ?_ | with_reducible first | refine tn ?_ | refine bn ?_)
        refine ifG h (fun hc1727 h => ?_) (fun hc1727 h => ?_)
        ·skip
         refine Safe.condK rfl hc1727 ?_
         repeat (first | refine sq ?_ | refine sk ?_ | with_reducible first | refine tn ?_ | refine bn ?_)
         refine Safe.region ?_
         refine Qf E_good ?_
         refine Qf E_good ?_
         refine Q0 E_good rfl (v := V.ptr [31] 0 0) (.fn rfl) ?_
         refine Q0 E_good rfl (v := V.ptr [31] 0 0) (.fn rfl) ?_
         refine Q0 E_good rfl (v := V.ptr [31] 0 6) (.fn rfl) ?_
         refine SafeOps.store (z := Obj.box [V.int .i64 a2_64.Kind, V.int .i64 a2_64.Pc, V.int .i64 a2_64.V, V.int .i64 a2_64.T, V.int .i64 x_1713, V.bool a2_64.Won, V.int .i64 2, V.ref [28] 0 (rws (fun n => [V.int .i64 n]) ([] ++ a0_62)).length, V.int .i64 a1_63.Base, V.int .i64 a1_63.Cap, V.int .i64 v3110_1721]) E_good rfl rfl rfl rfl rfl rfl rfl (.boxM (c := 11) rfl rfl (Nat.le_of_ble_eq_true rfl) rfl) ?_
         refine SafeOps.nil ?_
         repeat (first | refine sq ?_ | refine sk ?_ | with_reducible first | refine tn ?_ | refine bn ?_)
         refine Safe.ret ?_
         repeat (first | with_reducible refine thenQ.r ?_ | with_reducible refine blockQ.r ?_)
         refine inQ.gen (vs := []) (v := V.tup []) (.inr rfl) rfl .nil rfl ?_
         exact SafeOps.got (HJ1726 (a2_64.Pc, 2) h) (.cov ⟨rfl, rfl, upT_nil, (uo (uo (uo upOb_nil))), (upOut_cons rfl (ut (ut upT_nil)) upOut_nil), rfl⟩)
        ·skip
         refine Safe.condN rfl hc1727 ?_
         repeat (first | refine sq ?_ | refine sk ?_ | with_reducible first | refine tn ?_ | refine bn ?_)
         refine Safe.region ?_
         refine Qf E_good ?_
         refine Qf E_good ?_
         refine Q0 E_good rfl (v := V.ptr [31] 0 0) (.fn rfl) ?_
         refine Q0 E_good rfl (v := V.ptr [31] 0 0) (.fn rfl) ?_
         refine Q0 E_good rfl (v := V.ptr [31] 0 1) (.fn rfl) ?_
         refine SafeOps.store (z := Obj.box [V.int .i64 a2_64.Kind, V.int .i64 2, V.int .i64 a2_64.V, V.int .i64 a2_64.T, V.int .i64 x_1713, V.bool a2_64.Won, V.int .i64 a2_64.State, V.ref [28] 0 (rws (fun n => [V.int .i64 n]) ([] ++ a0_62)).length, V.int .i64 a1_63.Base, V.int .i64 a1_63.Cap, V.int .i64 v3110_1721]) E_good rfl rfl rfl rfl rfl rfl rfl (.boxM (c := 11) rfl rfl (Nat.le_of_ble_eq_true rfl) rfl) ?_
         refine SafeOps.nil ?_
         repeat (first | refine sq ?_ | refine sk ?_ | with_reducible first | refine tn ?_ | refine bn ?_)
         repeat (first | with_reducible refine thenQ.r ?_ | with_reducible refine blockQ.r ?_)
         refine inQ.gen (vs := []) (v := V.tup []) (.inl rfl) rfl .nil rfl ?_
         exact SafeOps.got (HJ1726 (2, a2_64.State) h) (.cov ⟨rfl, rfl, upT_nil, (uo (uo (uo upOb_nil))), (upOut_cons rfl (ut (ut upT_nil)) upOut_nil), rfl⟩)
      ·skip
       refine SafeOps.inline E_good rfl rfl rfl rfl rfl Try.func54 rfl (fun _ _ => Try.call54 _ _) rfl ?_
       repeat (first | refine sq ?_ | refine sk ?_ | with_reducible first | refine tn ?_ | refine bn ?_)
       refine Safe.region ?_
       refine Qf E_good ?_
       refine SafeOps.nil ?_
       repeat (first | refine sq ?_ | refine sk ?_ | with_reducible first | refine tn ?_ | refine bn ?_)
       refine Safe.region ?_
       refine Qf E_good ?_
       refine Q0 E_good rfl (v := V.bool (!((decide (x_1713 ≥ (-1))) && (decide (x_1713 ≤ 1099511627776))))) (.fn rfl) ?_
       refine SafeOps.nil ?_
       repeat (first | refine sq ?_ | refine sk ?_ | with_reducible first | refine tn ?_ | refine bn ?_)
       refine ifG h (fun hc1728 h => ?_) (fun hc1728 h => ?_)
       ·skip
        refine Safe.condK rfl hc1728 ?_
        repeat (first | refine sq ?_ | refine sk ?_ | with_reducible first | refine tn ?_ | refine bn ?_)
        refine Safe.region ?_
        refine Qf E_good ?_
        refine Q0 E_good rfl (v := V.ptr [31] 0 0) (.fn rfl) ?_
        refine Q0 E_good rfl (v := V.ptr [31] 0 10) (.fn rfl) ?_
        refine SafeOps.store (z := Obj.box [V.int .i64 a2_64.Kind, V.int .i64 a2_64.Pc, V.int .i64 a2_64.V, V.int .i64 a2_64.T, V.int .i64 a2_64.B, V.bool a2_64.Won, V.int .i64 a2_64.State, V.ref [28] 0 (rws (fun n => [V.int .i64 n]) ([] ++ a0_62)).length, V.int .i64 a1_63.Base, V.int .i64 a1_63.Cap, V.int .i64 9]) E_good rfl rfl rfl rfl rfl rfl rfl (.boxM (c := 11) rfl rfl (Nat.le_of_ble_eq_true rfl) rfl) ?_
        refine SafeOps.nil ?_
        repeat (first | refine sq ?_ | refine sk ?_ | with_reducible first | refine tn ?_ | refine bn ?_)
        refine Safe.region ?_
        refine Qf E_good ?_
        refine Qf E_good ?_
        refine SafeOps.nil ?_
        repeat (first | refine sq ?_ | refine sk ?_ | with_reducible first | refine tn ?_ | refine bn ?_)
        refine Safe.ret ?_
        repeat (first | with_reducible refine thenQ.r ?_ | with_reducible refine blockQ.r ?_)
        refine inQ.gen (vs := [V.bool ((decide (x_1713 ≥ (-1))) && (decide (x_1713 ≤ 1099511627776)))]) (v := V.bool ((decide (x_1713 ≥ (-1))) && (decide (x_1713 ≤ 1099511627776)))) (.inr rfl) rfl (.tmp (v := V.bool ((decide (x_1713 ≥ (-1))) && (decide (x_1713 ≤ 1099511627776)))) rfl .nil) rfl ?_
        exact SafeOps.got (HJ1722 (9) h) (.cov ⟨rfl, rfl, (ut upT_nil), (uo (uo (uo upOb_nil))), (upOut_cons rfl (ut (ut upT_nil)) (upOut_cons rfl (ut (ut upT_nil)) upOut_nil)), rfl⟩)
       ·skip
        refine Safe.condN rfl hc1728 ?_
        repeat (first | refine sq ?_ | refine sk ?_ | with_reducible first | refine tn ?_ | refine bn ?_)
        refine Safe.region ?_
        refine Qf E_good ?_
        refine Qf E_good ?_
        refine SafeOps.nil ?_
        repeat (first | refine sq ?_ | refine sk ?_ | with_reducible first | refine tn ?_ | refine bn ?_)
        refine Safe.ret ?_
        repeat (first | with_reducible refine thenQ.r ?_ | with_reducible refine blockQ.r ?_)
        refine inQ.gen (vs := [V.bool ((decide (x_1713 ≥ (-1))) && (decide (x_1713 ≤ 1099511627776)))]) (v := V.bool ((decide (x_1713 ≥ (-1))) && (decide (x_1713 ≤ 1099511627776)))) (.inr rfl) rfl (.tmp (v := V.bool ((decide (x_1713 ≥ (-1))) && (decide (x_1713 ≤ 1099511627776)))) rfl .nil) rfl ?_
        exact SafeOps.got (HJ1722 (v3110_1717) h) (.cov ⟨rfl, rfl, (ut upT_nil), (uo (uo (uo upOb_nil))), (upOut_cons rfl (ut (ut upT_nil)) (upOut_cons rfl (ut (ut upT_nil)) upOut_nil)), rfl⟩)
     ·skip
      refine SafeOps.inline E_good rfl rfl rfl rfl rfl Try.func54 rfl (fun _ _ => Try.call54 _ _) rfl ?_
      repeat (first | refine sq ?_ | refine sk ?_ | with_reducible first | refine tn ?_ | refine bn ?_)
      refine Safe.region ?_
      refine Qf E_good ?_
      refine SafeOps.nil ?_
      repeat (first | refine sq ?_ | refine sk ?_ | with_reducible first | refine tn ?_ | refine bn ?_)
      refine Safe.region ?_
      refine Qf E_good ?_
      refine Q0 E_good rfl (v := V.bool (!(x_1714 == 0))) (.fn rfl) ?_
      refine SafeOps.nil ?_
      repeat (first | refine sq ?_ | refine sk ?_ | with_reducible first | refine tn ?_ | refine bn ?_)
      refine ifG h (fun hc1729 h => ?_) (fun hc1729 h => ?_)
      ·skip
       refine Safe.condK rfl hc1729 ?_
       repeat (first | refine sq ?_ | refine sk ?_ | with_reducible first | refine tn ?_ | refine bn ?_)
       refine Safe.region ?_
       refine Qf E_good ?_
       refine Q0 E_good rfl (v := V.ptr [31] 0 0) (.fn rfl) ?_
       refine Q0 E_good rfl (v := V.ptr [31] 0 10) (.fn rfl) ?_
       refine SafeOps.store (z := Obj.box [V.int .i64 a2_64.Kind, V.int .i64 a2_64.Pc, V.int .i64 a2_64.V, V.int .i64 a2_64.T, V.int .i64 a2_64.B, V.bool a2_64.Won, V.int .i64 a2_64.State, V.ref [28] 0 (rws (fun n => [V.int .i64 n]) ([] ++ a0_62)).length, V.int .i64 a1_63.Base, V.int .i64 a1_63.Cap, V.int .i64 9]) E_good rfl rfl rfl rfl rfl rfl rfl (.boxM (c := 11) rfl rfl (Nat.le_of_ble_eq_true rfl) rfl) ?_
       refine SafeOps.nil ?_
       repeat (first | refine sq ?_ | refine sk ?_ | with_reducible first | refine tn ?_ | refine bn ?_)
       refine Safe.region ?_
       refine Qf E_good ?_
       refine Qf E_good ?_
       refine SafeOps.nil ?_
       repeat (first | refine sq ?_ | refine sk ?_ | with_reducible first | refine tn ?_ | refine bn ?_)
       refine Safe.ret ?_
       repeat (first | with_reducible refine thenQ.r ?_ | with_reducible refine blockQ.r ?_)
       refine inQ.gen (vs := [V.bool (x_1714 == 0)]) (v := V.bool (x_1714 == 0)) (.inr rfl) rfl (.tmp (v := V.bool (x_1714 == 0)) rfl .nil) rfl ?_
       exact SafeOps.got (HJ1718 (9) h) (.cov ⟨rfl, rfl, (ut upT_nil), (uo (uo (uo upOb_nil))), (upOut_cons rfl (ut (ut upT_nil)) (upOut_cons rfl (ut (ut upT_nil)) (upOut_cons rfl (ut (ut upT_nil)) upOut_nil))), rfl⟩)
      ·skip
       refine Safe.condN rfl hc1729 ?_
       repeat (first | refine sq ?_ | refine sk ?_ | with_reducible first | refine tn ?_ | refine bn ?_)
       refine Safe.region ?_
       refine Qf E_good ?_
       refine Qf E_good ?_
       refine SafeOps.nil ?_
       repeat (first | refine sq ?_ | refine sk ?_ | with_reducible first | refine tn ?_ | refine bn ?_)
       refine Safe.ret ?_
       repeat (first | with_reducible refine thenQ.r ?_ | with_reducible refine blockQ.r ?_)
       refine inQ.gen (vs := [V.bool (x_1714 == 0)]) (v := V.bool (x_1714 == 0)) (.inr rfl) rfl (.tmp (v := V.bool (x_1714 == 0)) rfl .nil) rfl ?_
       exact SafeOps.got (HJ1718 (0) h) (.cov ⟨rfl, rfl, (ut upT_nil), (uo (uo (uo upOb_nil))), (upOut_cons rfl (ut (ut upT_nil)) (upOut_cons rfl (ut (ut upT_nil)) (upOut_cons rfl (ut (ut upT_nil)) upOut_nil))), rfl⟩)
    refine ifP_G h (fun hq1730 h => ?_) (fun _ h => ?_)
    ·skip
     refine SafeOps.see 38 (u := V.fn 49 []) rfl (up_fn hq1730) ?_
     refine SafeOps.inline E_good rfl rfl rfl rfl rfl Try.func49 rfl (fun _ _ => Try.call49 _ _) rfl ?_
     repeat (first | refine sq ?_ | refine sk ?_ | with_reducible first | refine tn ?_ | refine bn ?_)
     refine Safe.region ?_
     refine Qf E_good ?_
     refine Qf E_good ?_
     refine Q0 E_good rfl (v := V.ptr [31] 0 0) (.fn rfl) ?_
     refine Q0 E_good rfl (v := V.ptr [31] 0 0) (.fn rfl) ?_
     refine Q0 E_good rfl (v := V.ptr [31] 0 3) (.fn rfl) ?_
     refine Q0 E_good rfl (v := V.int .i64 a2_64.T) (.load rfl rfl (.box rfl rfl) rfl) ?_
     refine Q0 E_good rfl (v := V.bool (decide (a2_64.T ≥ 0))) (.fn rfl) ?_
     refine SafeOps.joinT 1 (fun (v3110_1732 : Int) => go_ring_Step_j160 a0_62 a1_63 a2_64 v3110_1732 = some r) (fun (v3110_1732 : Int) => ⟨Try.f49.ntmps, [(0, V.ptr [31] 0 0), (9, V.bool (decide (a2_64.T ≥ 0)))], [([7], Obj.box [V.int .i64 0, V.int .i64 0, V.int .i64 0, V.int .i64 0, V.int .i64 0, V.bool false, V.int .i64 0]), ([28], Obj.rows 1 (rws (fun n => [V.int .i64 n]) ([] ++ a0_62)) false), ([31], Obj.box [V.int .i64 a2_64.Kind, V.int .i64 a2_64.Pc, V.int .i64 a2_64.V, V.int .i64 a2_64.T, V.int .i64 a2_64.B, V.bool a2_64.Won, V.int .i64 a2_64.State, V.ref [28] 0 (rws (fun n => [V.int .i64 n]) ([] ++ a0_62)).length, V.int .i64 a1_63.Base, V.int .i64 a1_63.Cap, V.int .i64 v3110_1732])], [(Try.f8.ntmps, [(7, V.ptr [7] 0 0), (9, V.ptr [31] 0 0)])], [40]⟩) ?_ (fun HJ1733 => ?_)
     ·intro v3110_1732 h
      replace h : go_ring_Step_j160 a0_62 a1_63 a2_64 v3110_1732 = some r := h
      rw [go_ring_Step_j160] at h
      refine SafeOps.nil ?_
      repeat (first | refine sq ?_ | refine sk ?_ | with_reducible first | refine tn ?_ | refine bn ?_)
      refine Safe.joinT (fun ((v312_1748, v3110_1749) : Int × Int) => go_ring_Step_j163 a0_62 a2_64 v312_1748 v3110_1749 = some r) (fun ((v312_1748, v3110_1749) : Int × Int) => ⟨Try.f49.ntmps, [(0, V.ptr [31] 0 0)], [([7], Obj.box [V.int .i64 0, V.int .i64 0, V.int .i64 0, V.int .i64 0, V.int .i64 0, V.bool false, V.int .i64 0]), ([28], Obj.rows 1 (rws (fun n => [V.int .i64 n]) ([] ++ a0_62)) false), ([31], Obj.box [V.int .i64 a2_64.Kind, V.int .i64 a2_64.Pc, V.int .i64 v312_1748, V.int .i64 a2_64.T, V.int .i64 a2_64.B, V.bool a2_64.Won, V.int .i64 a2_64.State, V.ref [28] 0 (rws (fun n => [V.int .i64 n]) ([] ++ a0_62)).length, V.int .i64 a1_63.Base, V.int .i64 a1_63.Cap, V.int .i64 v3110_1749])], [(Try.f8.ntmps, [(7, V.ptr [7] 0 0), (9, V.ptr [31] 0 0)])], [40]⟩) ?_ (fun HJ1750 => ?_)
      ·rintro ⟨v312_1748, v3110_1749⟩ h
       replace h : go_ring_Step_j163 a0_62 a2_64 v312_1748 v3110_1749 = some r := h
       rw [go_ring_Step_j163] at h
       repeat (first | refine sq ?_ | refine sk ?_ | with_reducible first | refine tn ?_ | refine bn ?_)
       refine Safe.region ?_
       refine Qf E_good ?_
       refine Q0 E_good rfl (v := V.ptr [31] 0 0) (.fn rfl) ?_
       refine Q0 E_good rfl (v := V.ptr [31] 0 0) (.fn rfl) ?_
       refine Q0 E_good rfl (v := V.ptr [31] 0 1) (.fn rfl) ?_
       refine Q0 E_good rfl (v := V.int .i64 a2_64.Pc) (.load rfl rfl (.box rfl rfl) rfl) ?_
       refine Q0 E_good rfl (v := V.int .i64 (IntKind.i64.wrap (a2_64.Pc + 1))) (.fn rfl) ?_
       refine Q0 E_good rfl (v := V.ptr [31] 0 0) (.fn rfl) ?_
       refine Q0 E_good rfl (v := V.ptr [31] 0 0) (.fn rfl) ?_
       refine Q0 E_good rfl (v := V.ptr [31] 0 1) (.fn rfl) ?_
       refine SafeOps.store (z := Obj.box [V.int .i64 a2_64.Kind, V.int .i64 (IntKind.i64.wrap (a2_64.Pc + 1)), V.int .i64 v312_1748, V.int .i64 a2_64.T, V.int .i64 a2_64.B, V.bool a2_64.Won, V.int .i64 a2_64.State, V.ref [28] 0 (rws (fun n => [V.int .i64 n]) ([] ++ a0_62)).length, V.int .i64 a1_63.Base, V.int .i64 a1_63.Cap, V.int .i64 v3110_1749]) E_good rfl rfl rfl rfl rfl rfl rfl (.boxM (c := 11) rfl rfl (Nat.le_of_ble_eq_true rfl) rfl) ?_
       refine SafeOps.nil ?_
       repeat (first | refine sq ?_ | refine sk ?_ | with_reducible first | refine tn ?_ | refine bn ?_)
       repeat (first | with_reducible refine thenQ.r ?_ | with_reducible refine blockQ.r ?_)
       refine inQ.gen (vs := []) (v := V.tup []) (.inl rfl) rfl .nil rfl ?_
       exact SafeOps.got (HJ1246 (IntKind.i64.wrap (a2_64.Pc + 1), v312_1748, a2_64.T, a2_64.B, a2_64.Won, a2_64.State, [] ++ a0_62, v3110_1749) h) (.ren [28] [7000, 114, 31, 7] (.cov ⟨rfl, rfl, (ut (ut upT_nil)), (uo (uo (uo upOb_nil))), upOut_nil, rfl⟩))
      ·skip
       refine ifG h (fun hc1751 h => ?_) (fun hc1751 h => ?_)
       ·skip
        refine Safe.condK rfl hc1751 ?_
        repeat (first | refine sq ?_ | refine sk ?_ | with_reducible first | refine tn ?_ | refine bn ?_)
        refine Safe.region ?_
        refine Qf E_good ?_
        refine Qf E_good ?_
        refine Qf E_good ?_
        refine Qf E_good ?_
        refine Q0 E_good rfl (v := V.ptr [31] 0 0) (.fn rfl) ?_
        refine Q0 E_good rfl (v := V.ptr [31] 0 0) (.fn rfl) ?_
        refine Q0 E_good rfl (v := V.ptr [31] 0 3) (.fn rfl) ?_
        refine Q0 E_good rfl (v := V.int .i64 a2_64.T) (.load rfl rfl (.box rfl rfl) rfl) ?_
        refine bindG h ?_
        intro x_1752 he1753 h
        refine Q0 E_good rfl (v := V.int .i64 x_1752) (.callS rfl (.cons (.box rfl (.cons (.free rfl) (.cons (.free rfl) (.cons (.free rfl) (.cons (.free rfl) (.cons (.free rfl) (.cons (.free rfl) (.cons (.free rfl) (.cons (.full rfl rfl) (.cons (.free rfl) (.cons (.free rfl) (.cons (.free rfl) .nil)))))))))))) (.cons (.free rfl) .nil)) (go_pring_actor_slot_sc (ring_actor.mk a2_64 ([] ++ a0_62) a1_63 v3110_1732) a2_64.T _ he1753) (.plain rfl) rfl) ?_
        refine SafeOps.inline E_good rfl rfl rfl rfl rfl Try.func31 rfl (fun _ _ => Try.call31 _ _) rfl ?_
        repeat (first | refine sq ?_ | refine sk ?_ | with_reducible first | refine tn ?_ | refine bn ?_)
        refine Safe.region ?_
        refine Qf E_good ?_
        refine SafeOps.nil ?_
        repeat (first | refine sq ?_ | refine sk ?_ | with_reducible first | refine tn ?_ | refine bn ?_)
        refine Safe.region ?_
        refine Qf E_good ?_
        refine Q0 E_good rfl (v := V.ptr [31] 0 0) (.fn rfl) ?_
        refine Q0 E_good rfl (v := V.ptr [31] 0 7) (.fn rfl) ?_
        refine Q0 E_good rfl (v := V.ref [28] 0 (rws (fun n => [V.int .i64 n]) ([] ++ a0_62)).length) (.load rfl rfl (.box rfl rfl) rfl) ?_
        refine Qf E_good ?_
        refine bindG h ?_
        rintro ⟨x_1760, x_1761⟩ he1762 h
        refine Q0 E_good rfl (v := V.tup [V.int .i64 x_1760, V.int .i64 x_1761]) (.callS rfl (.cons (.full rfl rfl) (.cons (.free rfl) .nil)) (go_cell_Load_sc ([] ++ a0_62) x_1752 _ he1762) (.tupL (.cons (.plain rfl) (.cons (.plain rfl) .nil))) rfl) ?_
        refine Qf E_good ?_
        refine Qf E_good ?_
        refine Qf E_good ?_
        refine Qf E_good ?_
        refine Qf E_good ?_
        refine SafeOps.nil ?_
        repeat (first | refine sq ?_ | refine sk ?_ | with_reducible first | refine tn ?_ | refine bn ?_)
        refine Safe.region ?_
        refine Qf E_good ?_
        refine Qf E_good ?_
        refine Q0 E_good rfl (v := V.bool (x_1761 == 0)) (.fn rfl) ?_
        refine SafeOps.joinT 1 (fun (v3110_1764 : Int) => go_ring_Step_j165 a0_62 a2_64 x_1760 v3110_1764 = some r) (fun (v3110_1764 : Int) => ⟨Try.f31.ntmps, [(5, V.int .i64 x_1760)], [([7], Obj.box [V.int .i64 0, V.int .i64 0, V.int .i64 0, V.int .i64 0, V.int .i64 0, V.bool false, V.int .i64 0]), ([28], Obj.rows 1 (rws (fun n => [V.int .i64 n]) ([] ++ a0_62)) false), ([31], Obj.box [V.int .i64 a2_64.Kind, V.int .i64 a2_64.Pc, V.int .i64 a2_64.V, V.int .i64 a2_64.T, V.int .i64 a2_64.B, V.bool a2_64.Won, V.int .i64 a2_64.State, V.ref [28] 0 (rws (fun n => [V.int .i64 n]) ([] ++ a0_62)).length, V.int .i64 a1_63.Base, V.int .i64 a1_63.Cap, V.int .i64 v3110_1764])], [(Try.f49.ntmps, [(0, V.ptr [31] 0 0), (10, V.ptr [31] 0 0)]), (Try.f8.ntmps, [(7, V.ptr [7] 0 0), (9, V.ptr [31] 0 0)])], [40, 19]⟩) ?_ (fun HJ1765 => ?_)
        ·intro v3110_1764 h
         replace h : go_ring_Step_j165 a0_62 a2_64 x_1760 v3110_1764 = some r := h
         rw [go_ring_Step_j165] at h
         refine SafeOps.nil ?_
         repeat (first | refine sq ?_ | refine sk ?_ | with_reducible first | refine tn ?_ | refine bn ?_)
         refine Safe.region ?_
         refine Qf E_good ?_
         refine Qf E_good ?_
         refine SafeOps.nil ?_
         repeat (first | refine sq ?_ | refine sk ?_ | with_reducible first | refine tn ?_ | refine bn ?_)
         refine Safe.ret ?_
         repeat (first | with_reducible refine thenQ.r ?_ | with_reducible refine blockQ.r ?_)
         refine inQ.gen (vs := [V.int .i64 x_1760]) (v := V.int .i64 x_1760) (.inr rfl) rfl (.tmp (v := V.int .i64 x_1760) rfl .nil) rfl ?_
         refine Q0 E_good rfl (v := V.ptr [31] 0 0) (.fn rfl) ?_
         refine Q0 E_good rfl (v := V.ptr [31] 0 0) (.fn rfl) ?_
         refine Q0 E_good rfl (v := V.ptr [31] 0 2) (.fn rfl) ?_
         refine SafeOps.store (z := Obj.box [V.int .i64 a2_64.Kind, V.int .i64 a2_64.Pc, V.int .i64 x_1760, V.int .i64 a2_64.T, V.int .i64 a2_64.B, V.bool a2_64.Won, V.int .i64 a2_64.State, V.ref [28] 0 (rws (fun n => [V.int .i64 n]) ([] ++ a0_62)).length, V.int .i64 a1_63.Base, V.int .i64 a1_63.Cap, V.int .i64 v3110_1764]) E_good rfl rfl rfl rfl rfl rfl rfl (.boxM (c := 11) rfl rfl (Nat.le_of_ble_eq_true rfl) rfl) ?_
         refine SafeOps.nil ?_
         repeat (first | refine Safe.skip ?_ | with_reducible refine thenQ.n ?_ | with_reducible refine blockQ.n ?_)
         exact Safe.got (HJ1750 (x_1760, v3110_1764) h) (.cov ⟨rfl, rfl, (ut upT_nil), (uo (uo (uo upOb_nil))), (upOut_cons rfl (ut (ut upT_nil)) upOut_nil), rfl⟩)
        ·skip
         refine SafeOps.inline E_good rfl rfl rfl rfl rfl Try.func54 rfl (fun _ _ => Try.call54 _ _) rfl ?_
         repeat (first | refine sq ?_ | refine sk ?_ | with_reducible first | refine tn ?_ | refine bn ?_)
         refine Safe.region ?_
         refine Qf E_good ?_
         refine SafeOps.nil ?_
         repeat (first | refine sq ?_ | refine sk ?_ | with_reducible first | refine tn ?_ | refine bn ?_)
         refine Safe.region ?_
         refine Qf E_good ?_
         refine Q0 E_good rfl (v := V.bool (!(x_1761 == 0))) (.fn rfl) ?_
         refine SafeOps.nil ?_
         repeat (first | refine sq ?_ | refine sk ?_ | with_reducible first | refine tn ?_ | refine bn ?_)
         refine ifG h (fun hc1766 h => ?_) (fun hc1766 h => ?_)
         ·skip
          refine Safe.condK rfl hc1766 ?_
          repeat (first | refine sq ?_ | refine sk ?_ | with_reducible first | refine tn ?_ | refine bn ?_)
          refine Safe.region ?_
          refine Qf E_good ?_
          refine Q0 E_good rfl (v := V.ptr [31] 0 0) (.fn rfl) ?_
          refine Q0 E_good rfl (v := V.ptr [31] 0 10) (.fn rfl) ?_
          refine SafeOps.store (z := Obj.box [V.int .i64 a2_64.Kind, V.int .i64 a2_64.Pc, V.int .i64 a2_64.V, V.int .i64 a2_64.T, V.int .i64 a2_64.B, V.bool a2_64.Won, V.int .i64 a2_64.State, V.ref [28] 0 (rws (fun n => [V.int .i64 n]) ([] ++ a0_62)).length, V.int .i64 a1_63.Base, V.int .i64 a1_63.Cap, V.int .i64 9]) E_good rfl rfl rfl rfl rfl rfl rfl (.boxM (c := 11) rfl rfl (Nat.le_of_ble_eq_true rfl) rfl) ?_
          refine SafeOps.nil ?_
          repeat (first | refine sq ?_ | refine sk ?_ | with_reducible first | refine tn ?_ | refine bn ?_)
          refine Safe.region ?_
          refine Qf E_good ?_
          refine Qf E_good ?_
          refine SafeOps.nil ?_
          repeat (first | refine sq ?_ | refine sk ?_ | with_reducible first | refine tn ?_ | refine bn ?_)
          refine Safe.ret ?_
          repeat (first | with_reducible refine thenQ.r ?_ | with_reducible refine blockQ.r ?_)
          refine inQ.gen (vs := [V.bool (x_1761 == 0)]) (v := V.bool (x_1761 == 0)) (.inr rfl) rfl (.tmp (v := V.bool (x_1761 == 0)) rfl .nil) rfl ?_
          exact SafeOps.got (HJ1765 (9) h) (.cov ⟨rfl, rfl, (ut upT_nil), (uo (uo (uo upOb_nil))), (upOut_cons rfl (ut (ut upT_nil)) (upOut_cons rfl (ut (ut upT_nil)) upOut_nil)), rfl⟩)
         ·skip
          refine Safe.condN rfl hc1766 ?_
          repeat (first | refine sq ?_ | refine sk ?_ | with_reducible first | refine tn ?_ | refine bn ?_)
          refine Safe.region ?_
          refine Qf E_good ?_
          refine Qf E_good ?_
          refine SafeOps.nil ?_
          repeat (first | refine sq ?_ | refine sk ?_ | with_reducible first | refine tn ?_ | refine bn ?_)
          refine Safe.ret ?_
          repeat (first | with_reducible refine thenQ.r ?_ | with_reducible refine blockQ.r ?_)
          refine inQ.gen (vs := [V.bool (x_1761 == 0)]) (v := V.bool (x_1761 == 0)) (.inr rfl) rfl (.tmp (v := V.bool (x_1761 == 0)) rfl .nil) rfl ?_
          exact SafeOps.got (HJ1765 (v3110_1732) h) (.cov ⟨rfl, rfl, (ut upT_nil), (uo (uo (uo upOb_nil))), (upOut_cons rfl (ut (ut upT_nil)) (upOut_cons rfl (ut (ut upT_nil)) upOut_nil)), rfl⟩)
       ·skip
        refine Safe.condN rfl hc1751 ?_
        repeat (first | refine Safe.skip ?_ | with_reducible refine thenQ.n ?_ | with_reducible refine blockQ.n ?_)
        exact Safe.got (HJ1750 (a2_64.V, v3110_1732) h) (.cov ⟨rfl, rfl, (ut upT_nil), (uo (uo (uo upOb_nil))), (upOut_cons rfl (ut (ut upT_nil)) upOut_nil), rfl⟩)
     ·skip
      refine SafeOps.inline E_good rfl rfl rfl rfl rfl Try.func54 rfl (fun _ _ => Try.call54 _ _) rfl ?_
      repeat (first | refine sq ?_ | refine sk ?_ | with_reducible first | refine tn ?_ | refine bn ?_)
      refine Safe.region ?_
      refine Qf E_good ?_
      refine SafeOps.nil ?_
      repeat (first | refine sq ?_ | refine sk ?_ | with_reducible first | refine tn ?_ | refine bn ?_)
      refine Safe.region ?_
      refine Qf E_good ?_
      refine Q0 E_good rfl (v := V.bool (!(decide (a2_64.T ≥ 0)))) (.fn rfl) ?_
      refine SafeOps.nil ?_
      repeat (first | refine sq ?_ | refine sk ?_ | with_reducible first | refine tn ?_ | refine bn ?_)
      refine ifG h (fun hc1767 h => ?_) (fun hc1767 h => ?_)
      ·skip
       refine Safe.condK rfl hc1767 ?_
       repeat (first | refine sq ?_ | refine sk ?_ | with_reducible first | refine tn ?_ | refine bn ?_)
       refine Safe.region ?_
       refine Qf E_good ?_
       refine Q0 E_good rfl (v := V.ptr [31] 0 0) (.fn rfl) ?_
       refine Q0 E_good rfl (v := V.ptr [31] 0 10) (.fn rfl) ?_
       refine SafeOps.store (z := Obj.box [V.int .i64 a2_64.Kind, V.int .i64 a2_64.Pc, V.int .i64 a2_64.V, V.int .i64 a2_64.T, V.int .i64 a2_64.B, V.bool a2_64.Won, V.int .i64 a2_64.State, V.ref [28] 0 (rws (fun n => [V.int .i64 n]) ([] ++ a0_62)).length, V.int .i64 a1_63.Base, V.int .i64 a1_63.Cap, V.int .i64 9]) E_good rfl rfl rfl rfl rfl rfl rfl (.boxM (c := 11) rfl rfl (Nat.le_of_ble_eq_true rfl) rfl) ?_
       refine SafeOps.nil ?_
       repeat (first | refine sq ?_ | refine sk ?_ | with_reducible first | refine tn ?_ | refine bn ?_)
       refine Safe.region ?_
       refine Qf E_good ?_
       refine Qf E_good ?_
       refine SafeOps.nil ?_
       repeat (first | refine sq ?_ | refine sk ?_ | with_reducible first | refine tn ?_ | refine bn ?_)
       refine Safe.ret ?_
       repeat (first | with_reducible refine thenQ.r ?_ | with_reducible refine blockQ.r ?_)
       refine inQ.gen (vs := [V.bool (decide (a2_64.T ≥ 0))]) (v := V.bool (decide (a2_64.T ≥ 0))) (.inr rfl) rfl (.tmp (v := V.bool (decide (a2_64.T ≥ 0))) rfl .nil) rfl ?_
       exact SafeOps.got (HJ1733 (9) h) (.cov ⟨rfl, rfl, (ut (ut upT_nil)), (uo (uo (uo upOb_nil))), (upOut_cons rfl (ut (ut upT_nil)) upOut_nil), rfl⟩)
      ·skip
       refine Safe.condN rfl hc1767 ?_
       repeat (first | refine sq ?_ | refine sk ?_ | with_reducible first | refine tn ?_ | refine bn ?_)
       refine Safe.region ?_
       refine Qf E_good ?_
       refine Qf E_good ?_
       refine SafeOps.nil ?_
       repeat (first | refine sq ?_ | refine sk ?_ | with_reducible first | refine tn ?_ | refine bn ?_)
       refine Safe.ret ?_
       repeat (first | with_reducible refine thenQ.r ?_ | with_reducible refine blockQ.r ?_)
       refine inQ.gen (vs := [V.bool (decide (a2_64.T ≥ 0))]) (v := V.bool (decide (a2_64.T ≥ 0))) (.inr rfl) rfl (.tmp (v := V.bool (decide (a2_64.T ≥ 0))) rfl .nil) rfl ?_
       exact SafeOps.got (HJ1733 (0) h) (.cov ⟨rfl, rfl, (ut (ut upT_nil)), (uo (uo (uo upOb_nil))), (upOut_cons rfl (ut (ut upT_nil)) upOut_nil), rfl⟩)
    refine ifP_G h (fun hq1768 h => ?_) (fun _ h => ?_)
    ·skip
     refine SafeOps.see 38 (u := V.fn 50 []) rfl (up_fn hq1768) ?_
     refine SafeOps.inline E_good rfl rfl rfl rfl rfl Try.func50 rfl (fun _ _ => Try.call50 _ _) rfl ?_
     repeat (first | refine sq ?_ | refine sk ?_ | with_reducible first | refine tn ?_ | refine bn ?_)
     refine Safe.region ?_
     refine Qf E_good ?_
     refine Q0 E_good rfl (v := V.ptr [31] 0 0) (.fn rfl) ?_
     refine Q0 E_good rfl (v := V.ptr [31] 0 0) (.fn rfl) ?_
     refine Q0 E_good rfl (v := V.ptr [31] 0 6) (.fn rfl) ?_
     refine SafeOps.store (z := Obj.box [V.int .i64 a2_64.Kind, V.int .i64 a2_64.Pc, V.int .i64 a2_64.V, V.int .i64 a2_64.T, V.int .i64 a2_64.B, V.bool a2_64.Won, V.int .i64 4, V.ref [28] 0 (rws (fun n => [V.int .i64 n]) ([] ++ a0_62)).length, V.int .i64 a1_63.Base, V.int .i64 a1_63.Cap, V.int .i64 0]) E_good rfl rfl rfl rfl rfl rfl rfl (.boxM (c := 11) rfl rfl (Nat.le_of_ble_eq_true rfl) rfl) ?_
     refine SafeOps.nil ?_
     repeat (first | refine sq ?_ | refine sk ?_ | with_reducible first | refine tn ?_ | refine bn ?_)
     refine Safe.region ?_
     refine Qf E_good ?_
     refine Qf E_good ?_
     refine Q0 E_good rfl (v := V.ptr [31] 0 0) (.fn rfl) ?_
     refine Q0 E_good rfl (v := V.ptr [31] 0 0) (.fn rfl) ?_
     refine Q0 E_good rfl (v := V.ptr [31] 0 3) (.fn rfl) ?_
     refine Q0 E_good rfl (v := V.int .i64 a2_64.T) (.load rfl rfl (.box rfl rfl) rfl) ?_
     refine Q0 E_good rfl (v := V.bool (decide (a2_64.T ≥ 0))) (.fn rfl) ?_
     refine SafeOps.joinT 1 (fun (v3110_1770 : Int) => go_ring_Step_j166 a0_62 a1_63 a2_64 v3110_1770 = some r) (fun (v3110_1770 : Int) => ⟨Try.f50.ntmps, [(0, V.ptr [31] 0 0), (13, V.bool (decide (a2_64.T ≥ 0)))], [([7], Obj.box [V.int .i64 0, V.int .i64 0, V.int .i64 0, V.int .i64 0, V.int .i64 0, V.bool false, V.int .i64 0]), ([28], Obj.rows 1 (rws (fun n => [V.int .i64 n]) ([] ++ a0_62)) false), ([31], Obj.box [V.int .i64 a2_64.Kind, V.int .i64 a2_64.Pc, V.int .i64 a2_64.V, V.int .i64 a2_64.T, V.int .i64 a2_64.B, V.bool a2_64.Won, V.int .i64 4, V.ref [28] 0 (rws (fun n => [V.int .i64 n]) ([] ++ a0_62)).length, V.int .i64 a1_63.Base, V.int .i64 a1_63.Cap, V.int .i64 v3110_1770])], [(Try.f8.ntmps, [(7, V.ptr [7] 0 0), (9, V.ptr [31] 0 0)])], [40]⟩) ?_ (fun HJ1771 => ?_)
     ·intro v3110_1770 h
      replace h : go_ring_Step_j166 a0_62 a1_63 a2_64 v3110_1770 = some r := h
      rw [go_ring_Step_j166] at h
      refine Qf E_good ?_
      refine ifG h (fun hc1772 h => ?_) (fun hc1772 h => ?_)
      ·skip
       refine SafeOps.quiet0 E_good (congrArg some hc1772) rfl rfl (.fn rfl) ?_
       refine SafeOps.joinT 1 (fun ((v16_1817, v317_1818, v3110_1819) : Bool × (List Int) × Int) => go_ring_Step_j168 a2_64 v16_1817 v317_1818 v3110_1819 = some r) (fun ((v16_1817, v317_1818, v3110_1819) : Bool × (List Int) × Int) => ⟨Try.f50.ntmps, [(0, V.ptr [31] 0 0), (14, V.bool (decide (a2_64.T ≥ 0))), (16, V.bool v16_1817)], [([7], Obj.box [V.int .i64 0, V.int .i64 0, V.int .i64 0, V.int .i64 0, V.int .i64 0, V.bool false, V.int .i64 0]), ([31], Obj.box [V.int .i64 a2_64.Kind, V.int .i64 a2_64.Pc, V.int .i64 a2_64.V, V.int .i64 a2_64.T, V.int .i64 a2_64.B, V.bool a2_64.Won, V.int .i64 4, V.ref [7000, 114, 31, 7] 0 (rws (fun n => [V.int .i64 n]) v317_1818).length, V.int .i64 a1_63.Base, V.int .i64 a1_63.Cap, V.int .i64 v3110_1819]), ([7000, 114, 31, 7], Obj.rows 1 (rws (fun n => [V.int .i64 n]) v317_1818) false)], [(Try.f8.ntmps, [(7, V.ptr [7] 0 0), (9, V.ptr [31] 0 0)])], [40]⟩) ?_ (fun HJ1820 => ?_)
       ·rintro ⟨v16_1817, v317_1818, v3110_1819⟩ h
        replace h : go_ring_Step_j168 a2_64 v16_1817 v317_1818 v3110_1819 = some r := h
        rw [go_ring_Step_j168] at h
        refine Q0 E_good rfl (v := V.bool v16_1817) (.pickK rfl hc1772 rfl) ?_
        refine SafeOps.nil ?_
        repeat (first | refine sq ?_ | refine sk ?_ | with_reducible first | refine tn ?_ | refine bn ?_)
        refine ifG h (fun hc1821 h => ?_) (fun hc1821 h => ?_)
        ·skip
         refine Safe.condK rfl hc1821 ?_
         repeat (first | refine sq ?_ | refine sk ?_ | with_reducible first | refine tn ?_ | refine bn ?_)
         refine Safe.region ?_
         refine Qf E_good ?_
         refine Q0 E_good rfl (v := V.ptr [31] 0 0) (.fn rfl) ?_
         refine Q0 E_good rfl (v := V.ptr [31] 0 0) (.fn rfl) ?_
         refine Q0 E_good rfl (v := V.ptr [31] 0 6) (.fn rfl) ?_
         refine SafeOps.store (z := Obj.box [V.int .i64 a2_64.Kind, V.int .i64 a2_64.Pc, V.int .i64 a2_64.V, V.int .i64 a2_64.T, V.int .i64 a2_64.B, V.bool a2_64.Won, V.int .i64 1, V.ref [7000, 114, 31, 7] 0 (rws (fun n => [V.int .i64 n]) v317_1818).length, V.int .i64 a1_63.Base, V.int .i64 a1_63.Cap, V.int .i64 v3110_1819]) E_good rfl rfl rfl rfl rfl rfl rfl (.boxM (c := 11) rfl rfl (Nat.le_of_ble_eq_true rfl) rfl) ?_
         refine SafeOps.nil ?_
         repeat (first | refine sq ?_ | refine sk ?_ | with_reducible first | refine tn ?_ | refine bn ?_)
         repeat (first | with_reducible refine thenQ.r ?_ | with_reducible refine blockQ.r ?_)
         refine inQ.gen (vs := []) (v := V.tup []) (.inl rfl) rfl .nil rfl ?_
         exact SafeOps.got (HJ1246 (a2_64.Pc, a2_64.V, a2_64.T, a2_64.B, a2_64.Won, 1, v317_1818, v3110_1819) h) (.cov ⟨rfl, rfl, (ut (ut upT_nil)), (uo (uo (uo upOb_nil))), upOut_nil, rfl⟩)
        ·skip
         refine Safe.condN rfl hc1821 ?_
         repeat (first | refine sq ?_ | refine sk ?_ | with_reducible first | refine tn ?_ | refine bn ?_)
         repeat (first | with_reducible refine thenQ.r ?_ | with_reducible refine blockQ.r ?_)
         refine inQ.gen (vs := []) (v := V.tup []) (.inl rfl) rfl .nil rfl ?_
         exact SafeOps.got (HJ1246 (a2_64.Pc, a2_64.V, a2_64.T, a2_64.B, a2_64.Won, 4, v317_1818, v3110_1819) h) (.cov ⟨rfl, rfl, (ut (ut upT_nil)), (uo (uo (uo upOb_nil))), upOut_nil, rfl⟩)
       ·skip
        refine SafeOps.inline E_good (congrArg some hc1772) rfl rfl rfl rfl Try.func58 rfl (fun _ _ => Try.call58 _ _) rfl ?_
        repeat (first | refine sq ?_ | refine sk ?_ | with_reducible first | refine tn ?_ | refine bn ?_)
        refine Safe.region ?_
        refine Qf E_good ?_
        refine SafeOps.nil ?_
        repeat (first | refine sq ?_ | refine sk ?_ | with_reducible first | refine tn ?_ | refine bn ?_)
        refine Safe.regionD (n := 25) [] [] E_good mixed rfl ?_
        refine DT 0 [] rfl rfl (fun _ hz => (.fn rfl)) ?_
        refine DT 1 [] rfl rfl (v := V.ptr [31] 0 0) (fun _ hz => (.fn rfl)) ?_
        refine DT 2 [] rfl rfl (v := V.ptr [31] 0 7) (fun _ hz => (.fn rfl)) ?_
        refine DT 3 [] rfl rfl (v := V.ref [28] 0 (rws (fun n => [V.int .i64 n]) ([] ++ a0_62)).length) (fun _ hz => (.load rfl rfl (.box (hz _ _ rfl rfl) rfl) rfl)) ?_
        refine DT 4 [] rfl rfl (fun _ hz => (.fn rfl)) ?_
        refine DT 5 [] rfl rfl (v := V.int .i64 (go_pring_actor_top (ring_actor.mk (api_Hand.mk a2_64.Kind a2_64.Pc a2_64.V a2_64.T a2_64.B a2_64.Won 4) ([] ++ a0_62) a1_63 v3110_1770))) (fun _ hz => (.callS rfl (.cons (.box (hz _ _ rfl rfl) (.cons (.free rfl) (.cons (.free rfl) (.cons (.free rfl) (.cons (.free rfl) (.cons (.free rfl) (.cons (.free rfl) (.cons (.free rfl) (.cons (.full (hz _ _ rfl rfl) rfl) (.cons (.free rfl) (.cons (.free rfl) (.cons (.free rfl) .nil)))))))))))) .nil) (go_pring_actor_top_sc (ring_actor.mk (api_Hand.mk a2_64.Kind a2_64.Pc a2_64.V a2_64.T a2_64.B a2_64.Won 4) ([] ++ a0_62) a1_63 v3110_1770) _ rfl) (.plain rfl) rfl)) ?_
        refine DT 6 [] rfl rfl (fun _ hz => (.fn rfl)) ?_
        refine DT 7 [] rfl rfl (v := V.ptr [31] 0 0) (fun _ hz => (.fn rfl)) ?_
        refine DT 8 [] rfl rfl (v := V.ptr [31] 0 0) (fun _ hz => (.fn rfl)) ?_
        refine DT 9 [] rfl rfl (v := V.ptr [31] 0 3) (fun _ hz => (.fn rfl)) ?_
        refine DT 10 [] rfl rfl (v := V.int .i64 a2_64.T) (fun _ hz => (.load rfl rfl (.box (hz _ _ rfl rfl) rfl) rfl)) ?_
        refine DT 11 [] rfl rfl (fun _ hz => (.fn rfl)) ?_
        refine DT 12 [] rfl rfl (v := V.ptr [31] 0 0) (fun _ hz => (.fn rfl)) ?_
        refine DT 13 [] rfl rfl (v := V.ptr [31] 0 0) (fun _ hz => (.fn rfl)) ?_
        refine DT 14 [] rfl rfl (v := V.ptr [31] 0 3) (fun _ hz => (.fn rfl)) ?_
        refine DT 15 [] rfl rfl (v := V.int .i64 a2_64.T) (fun _ hz => (.load rfl rfl (.box (hz _ _ rfl rfl) rfl) rfl)) ?_
        refine DT 16 [] rfl rfl (v := V.int .i64 (IntKind.i64.wrap (a2_64.T + 1))) (fun _ hz => (.fn rfl)) ?_
        refine bindG h ?_
        rintro ⟨x_1822, x_1823, x_1824⟩ he1825 h
        refine DAny.only (i := 17) rfl (by kernel_rfl) (.quiet rfl rfl rfl (v := V.tup [V.ref [40, 16, 24, 0] 0 (rws (fun n => [V.int .i64 n]) x_1822).length, V.bool x_1823, V.int .i64 x_1824]) (.callS rfl (.cons (.full rfl rfl) (.cons (.free rfl) (.cons (.free rfl) (.cons (.free rfl) .nil)))) (go_cell_Cas_sc ([] ++ a0_62) (go_pring_actor_top (ring_actor.mk (api_Hand.mk a2_64.Kind a2_64.Pc a2_64.V a2_64.T a2_64.B a2_64.Won 4) ([] ++ a0_62) a1_63 v3110_1770)) a2_64.T (IntKind.i64.wrap (a2_64.T + 1)) _ he1825) (.tupL (.cons (.ownM (fun _ => rfl)) (.cons (.plain rfl) (.cons (.plain rfl) .nil)))) rfl) rfl ?_)
        refine DT 18 [] rfl rfl (fun _ hz => (.fn rfl)) ?_
        refine DT 19 [] rfl rfl (fun _ hz => (.fn rfl)) ?_
        refine DT 20 [] rfl rfl (fun _ hz => (.fn rfl)) ?_
        refine DT 21 [] rfl rfl (fun _ hz => (.fn rfl)) ?_
        refine DT 22 [] rfl rfl (fun _ hz => (.fn rfl)) ?_
        refine DT 23 [] rfl rfl (fun _ hz => (.fn rfl)) ?_
        refine DT 24 [] rfl rfl (fun _ hz => (.fn rfl)) ?_
        refine DAny.nil (by kernel_rfl) ?_
        repeat (first | refine sq ?_ | refine sk ?_ | with_reducible first | refine tn ?_ | refine bn ?_)
        refine Safe.region ?_
        refine Qf E_good ?_
        refine Qf E_good ?_
        refine Q0 E_good rfl (v := V.bool (x_1824 == 0)) (.fn rfl) ?_
        refine SafeOps.joinT 1 (fun (v3110_1827 : Int) => go_ring_Step_j169 a0_62 a2_64 x_1822 x_1823 x_1824 v3110_1827 = some r) (fun (v3110_1827 : Int) => ⟨Try.f58.ntmps, [(0, V.ptr [31] 0 0), (3, V.ref [40, 16, 24, 0] 0 (rws (fun n => [V.int .i64 n]) x_1822).length), (4, V.bool x_1823), (31, V.bool (x_1824 == 0))], [([7], Obj.box [V.int .i64 0, V.int .i64 0, V.int .i64 0, V.int .i64 0, V.int .i64 0, V.bool false, V.int .i64 0]), ([28], Obj.rows 1 (rws (fun n => [V.int .i64 n]) ([] ++ a0_62)) false), ([31], Obj.box [V.int .i64 a2_64.Kind, V.int .i64 a2_64.Pc, V.int .i64 a2_64.V, V.int .i64 a2_64.T, V.int .i64 a2_64.B, V.bool a2_64.Won, V.int .i64 4, V.ref [28] 0 (rws (fun n => [V.int .i64 n]) ([] ++ a0_62)).length, V.int .i64 a1_63.Base, V.int .i64 a1_63.Cap, V.int .i64 v3110_1827]), ([40, 16, 24, 0], Obj.rows 1 (rws (fun n => [V.int .i64 n]) x_1822) false)], [(Try.f50.ntmps, [(0, V.ptr [31] 0 0), (14, V.bool (decide (a2_64.T ≥ 0)))]), (Try.f8.ntmps, [(7, V.ptr [7] 0 0), (9, V.ptr [31] 0 0)])], [40, 16]⟩) ?_ (fun HJ1828 => ?_)
        ·intro v3110_1827 h
         replace h : go_ring_Step_j169 a0_62 a2_64 x_1822 x_1823 x_1824 v3110_1827 = some r := h
         rw [go_ring_Step_j169] at h
         refine SafeOps.nil ?_
         repeat (first | refine sq ?_ | refine sk ?_ | with_reducible first | refine tn ?_ | refine bn ?_)
         refine ifG h (fun hc1829 h => ?_) (fun hc1829 h => ?_)
         ·skip
          refine Safe.condK rfl hc1829 ?_
          repeat (first | refine sq ?_ | refine sk ?_ | with_reducible first | refine tn ?_ | refine bn ?_)
          refine Safe.region ?_
          refine Qf E_good ?_
          refine Qf E_good ?_
          refine Q0 E_good rfl (v := V.ptr [31] 0 0) (.fn rfl) ?_
          refine Q0 E_good rfl (v := V.ptr [31] 0 7) (.fn rfl) ?_
          refine SafeOps.store (z := Obj.box [V.int .i64 a2_64.Kind, V.int .i64 a2_64.Pc, V.int .i64 a2_64.V, V.int .i64 a2_64.T, V.int .i64 a2_64.B, V.bool a2_64.Won, V.int .i64 4, V.ref [40, 16, 24, 0] 0 (rws (fun n => [V.int .i64 n]) x_1822).length, V.int .i64 a1_63.Base, V.int .i64 a1_63.Cap, V.int .i64 v3110_1827]) E_good rfl rfl rfl rfl rfl rfl rfl (.boxM (c := 11) rfl rfl (Nat.le_of_ble_eq_true rfl) rfl) ?_
          refine SafeOps.nil ?_
          repeat (first | refine sq ?_ | refine sk ?_ | with_reducible first | refine tn ?_ | refine bn ?_)
          refine Safe.region ?_
          refine Qf E_good ?_
          refine Qf E_good ?_
          refine SafeOps.nil ?_
          repeat (first | refine sq ?_ | refine sk ?_ | with_reducible first | refine tn ?_ | refine bn ?_)
          refine Safe.ret ?_
          repeat (first | with_reducible refine thenQ.r ?_ | with_reducible refine blockQ.r ?_)
          refine inQ.gen (vs := [V.bool x_1823]) (v := V.bool x_1823) (.inr rfl) rfl (.tmp (v := V.bool x_1823) rfl .nil) rfl ?_
          exact SafeOps.got (HJ1820 (x_1823, x_1822, v3110_1827) h) (.ren [40, 16, 24, 0] [7000, 114, 31, 7] (.cov ⟨rfl, rfl, (ut (ut (ut upT_nil))), (uo (uo (uo upOb_nil))), (upOut_cons rfl (ut (ut upT_nil)) upOut_nil), rfl⟩))
         ·skip
          refine Safe.condN rfl hc1829 ?_
          repeat (first | refine sq ?_ | refine sk ?_ | with_reducible first | refine tn ?_ | refine bn ?_)
          refine Safe.region ?_
          refine Qf E_good ?_
          refine Qf E_good ?_
          refine SafeOps.nil ?_
          repeat (first | refine sq ?_ | refine sk ?_ | with_reducible first | refine tn ?_ | refine bn ?_)
          refine Safe.ret ?_
          repeat (first | with_reducible refine thenQ.r ?_ | with_reducible refine blockQ.r ?_)
          refine inQ.gen (vs := [V.bool x_1823]) (v := V.bool x_1823) (.inr rfl) rfl (.tmp (v := V.bool x_1823) rfl .nil) rfl ?_
          exact SafeOps.got (HJ1820 (x_1823, [] ++ a0_62, v3110_1827) h) (.ren [28] [7000, 114, 31, 7] (.cov ⟨rfl, rfl, (ut (ut (ut upT_nil))), (uo (uo (uo upOb_nil))), (upOut_cons rfl (ut (ut upT_nil)) upOut_nil), rfl⟩))
        ·skip
         refine SafeOps.inline E_good rfl rfl rfl rfl rfl Try.func54 rfl (fun _ _ => Try.call54 _ _) rfl ?_
         repeat (first | refine sq ?_ | refine sk ?_ | with_reducible first | refine tn ?_ | refine bn ?_)
         refine Safe.region ?_
         refine Qf E_good ?_
         refine SafeOps.nil ?_
         repeat (first | refine sq ?_ | refine sk ?_ | with_reducible first | refine tn ?_ | refine bn ?_)
         refine Safe.region ?_
         refine Qf E_good ?_
         refine Q0 E_good rfl (v := V.bool (!(x_1824 == 0))) (.fn rfl) ?_
         refine SafeOps.nil ?_
         repeat (first | refine sq ?_ | refine sk ?_ | with_reducible first | refine tn ?_ | refine bn ?_)
         refine ifG h (fun hc1830 h => ?_) (fun hc1830 h => ?_)
         ·skip
          refine Safe.condK rfl hc1830 ?_
          repeat (first | refine sq ?_ | refine sk ?_ | with_reducible first | refine tn ?_ | refine bn ?_)
          refine Safe.region ?_
          refine Qf E_good ?_
          refine Q0 E_good rfl (v := V.ptr [31] 0 0) (.fn rfl) ?_
          refine Q0 E_good rfl (v := V.ptr [31] 0 10) (.fn rfl) ?_
          refine SafeOps.store (z := Obj.box [V.int .i64 a2_64.Kind, V.int .i64 a2_64.Pc, V.int .i64 a2_64.V, V.int .i64 a2_64.T, V.int .i64 a2_64.B, V.bool a2_64.Won, V.int .i64 4, V.ref [28] 0 (rws (fun n => [V.int .i64 n]) ([] ++ a0_62)).length, V.int .i64 a1_63.Base, V.int .i64 a1_63.Cap, V.int .i64 9]) E_good rfl rfl rfl rfl rfl rfl rfl (.boxM (c := 11) rfl rfl (Nat.le_of_ble_eq_true rfl) rfl) ?_
          refine SafeOps.nil ?_
          repeat (first | refine sq ?_ | refine sk ?_ | with_reducible first | refine tn ?_ | refine bn ?_)
          refine Safe.region ?_
          refine Qf E_good ?_
          refine Qf E_good ?_
          refine SafeOps.nil ?_
          repeat (first | refine sq ?_ | refine sk ?_ | with_reducible first | refine tn ?_ | refine bn ?_)
          refine Safe.ret ?_
          repeat (first | with_reducible refine thenQ.r ?_ | with_reducible refine blockQ.r ?_)
          refine inQ.gen (vs := [V.bool (x_1824 == 0)]) (v := V.bool (x_1824 == 0)) (.inr rfl) rfl (.tmp (v := V.bool (x_1824 == 0)) rfl .nil) rfl ?_
          exact SafeOps.got (HJ1828 (9) h) (.cov ⟨rfl, rfl, (ut (ut (ut (ut upT_nil)))), (uo (uo (uo (uo upOb_nil)))), (upOut_cons rfl (ut (ut upT_nil)) (upOut_cons rfl (ut (ut upT_nil)) upOut_nil)), rfl⟩)
         ·skip
          refine Safe.condN rfl hc1830 ?_
          repeat (first | refine sq ?_ | refine sk ?_ | with_reducible first | refine tn ?_ | refine bn ?_)
          refine Safe.region ?_
          refine Qf E_good ?_
          refine Qf E_good ?_
          refine SafeOps.nil ?_
          repeat (first | refine sq ?_ | refine sk ?_ | with_reducible first | refine tn ?_ | refine bn ?_)
          refine Safe.ret ?_
          repeat (first | with_reducible refine thenQ.r ?_ | with_reducible refine blockQ.r ?_)
          refine inQ.gen (vs := [V.bool (x_1824 == 0)]) (v := V.bool (x_1824 == 0)) (.inr rfl) rfl (.tmp (v := V.bool (x_1824 == 0)) rfl .nil) rfl ?_
          exact SafeOps.got (HJ1828 (v3110_1770) h) (.cov ⟨rfl, rfl, (ut (ut (ut (ut upT_nil)))), (uo (uo (uo (uo upOb_nil)))), (upOut_cons rfl (ut (ut upT_nil)) (upOut_cons rfl (ut (ut upT_nil)) upOut_nil)), rfl⟩)
      ·skip
       refine SafeOps.skip (congrArg some hc1772) rfl rfl ?_
       refine SafeOps.skip (congrArg some hc1772) rfl rfl ?_
       refine Q0 E_good rfl (v := V.bool false) (.pickK rfl hc1772 rfl) ?_
       refine SafeOps.nil ?_
       repeat (first | refine sq ?_ | refine sk ?_ | with_reducible first | refine tn ?_ | refine bn ?_)
       refine Safe.condN rfl rfl ?_
       repeat (first | refine sq ?_ | refine sk ?_ | with_reducible first | refine tn ?_ | refine bn ?_)
       repeat (first | with_reducible refine thenQ.r ?_ | with_reducible refine blockQ.r ?_)
       refine inQ.gen (vs := []) (v := V.tup []) (.inl rfl) rfl .nil rfl ?_
       exact SafeOps.got (HJ1246 (a2_64.Pc, a2_64.V, a2_64.T, a2_64.B, a2_64.Won, 4, [] ++ a0_62, v3110_1770) h) (.ren [28] [7000, 114, 31, 7] (.cov ⟨rfl, rfl, (ut (ut upT_nil)), (uo (uo (uo upOb_nil))), upOut_nil, rfl⟩))
     ·skip
      refine SafeOps.inline E_good rfl rfl rfl rfl rfl Try.func54 rfl (fun _ _ => Try.call54 _ _) rfl ?_
      repeat (first | refine sq ?_ | refine sk ?_ | with_reducible first | refine tn ?_ | refine bn ?_)
      refine Safe.region ?_
      refine Qf E_good ?_
      refine SafeOps.nil ?_
      repeat (first | refine sq ?_ | refine sk ?_ | with_reducible first | refine tn ?_ | refine bn ?_)
      refine Safe.region ?_
      refine Qf E_good ?_
      refine Q0 E_good rfl (v := V.bool (!(decide (a2_64.T ≥ 0)))) (.fn rfl) ?_
      refine SafeOps.nil ?_
      repeat (first | refine sq ?_ | refine sk ?_ | with_reducible first | refine tn ?_ | refine bn ?_)
      refine ifG h (fun hc1831 h => ?_) (fun hc1831 h => ?_)
      ·skip
       refine Safe.condK rfl hc1831 ?_
       repeat (first | refine sq ?_ | refine sk ?_ | with_reducible first | refine tn ?_ | refine bn ?_)
       refine Safe.region ?_
       refine Qf E_good ?_
       refine Q0 E_good rfl (v := V.ptr [31] 0 0) (.fn rfl) ?_
       refine Q0 E_good rfl (v := V.ptr [31] 0 10) (.fn rfl) ?_
       refine SafeOps.store (z := Obj.box [V.int .i64 a2_64.Kind, V.int .i64 a2_64.Pc, V.int .i64 a2_64.V, V.int .i64 a2_64.T, V.int .i64 a2_64.B, V.bool a2_64.Won, V.int .i64 4, V.ref [28] 0 (rws (fun n => [V.int .i64 n]) ([] ++ a0_62)).length, V.int .i64 a1_63.Base, V.int .i64 a1_63.Cap, V.int .i64 9]) E_good rfl rfl rfl rfl rfl rfl rfl (.boxM (c := 11) rfl rfl (Nat.le_of_ble_eq_true rfl) rfl) ?_
       refine SafeOps.nil ?_
       repeat (first | refine sq ?_ | refine sk ?_ | with_reducible first | refine tn ?_ | refine bn ?_)
       refine Safe.region ?_
       refine Qf E_good ?_
       refine Qf E_good ?_
       refine SafeOps.nil ?_
       repeat (first | refine sq ?_ | refine sk ?_ | with_reducible first | refine tn ?_ | refine bn ?_)
       refine Safe.ret ?_
       repeat (first | with_reducible refine thenQ.r ?_ | with_reducible refine blockQ.r ?_)
       refine inQ.gen (vs := [V.bool (decide (a2_64.T ≥ 0))]) (v := V.bool (decide (a2_64.T ≥ 0))) (.inr rfl) rfl (.tmp (v := V.bool (decide (a2_64.T ≥ 0))) rfl .nil) rfl ?_
       exact SafeOps.got (HJ1771 (9) h) (.cov ⟨rfl, rfl, (ut (ut upT_nil)), (uo (uo (uo upOb_nil))), (upOut_cons rfl (ut (ut upT_nil)) upOut_nil), rfl⟩)
      ·skip
       refine Safe.condN rfl hc1831 ?_
       repeat (first | refine sq ?_ | refine sk ?_ | with_reducible first | refine tn ?_ | refine bn ?_)
       refine Safe.region ?_
       refine Qf E_good ?_
       refine Qf E_good ?_
       refine SafeOps.nil ?_
       repeat (first | refine sq ?_ | refine sk ?_ | with_reducible first | refine tn ?_ | refine bn ?_)
       refine Safe.ret ?_
       repeat (first | with_reducible refine thenQ.r ?_ | with_reducible refine blockQ.r ?_)
       refine inQ.gen (vs := [V.bool (decide (a2_64.T ≥ 0))]) (v := V.bool (decide (a2_64.T ≥ 0))) (.inr rfl) rfl (.tmp (v := V.bool (decide (a2_64.T ≥ 0))) rfl .nil) rfl ?_
       exact SafeOps.got (HJ1771 (0) h) (.cov ⟨rfl, rfl, (ut (ut upT_nil)), (uo (uo (uo upOb_nil))), (upOut_cons rfl (ut (ut upT_nil)) upOut_nil), rfl⟩)
    cases h
end Go.Proofs.Ytoapmmcoaggekaa
