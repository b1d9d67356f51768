/- Helper lemmas for the claim's theorem: an abstract machine over the model, proved sound; no condition beyond each lemma's own. -/
import Derived.Test.YtoapmmcoaggekaaT0
set_option linter.unusedVariables false
set_option linter.unusedSimpArgs false
set_option linter.unnecessarySimpa false
set_option linter.unusedSectionVars false
namespace Go.Proofs.Ytoapmmcoaggekaa
open Go Go.AM
set_option maxRecDepth 100000
set_option maxHeartbeats 1000000
set_option linter.unusedVariables false
set_option linter.unusedSimpArgs false
variable {gl : List (Nat × List V)}
theorem go_ring_Step_sc (a34 : List Int) (a42 : api_Deque) (a25 : api_Hand) (r : (List Int) × api_Hand × Int) (h : go_ring_Step a34 a42 a25 = some r) : SC Try.prog gl 8 [V.sl 1 (rws (fun n => [I n]) a34), V.agg [I a42.Base, I a42.Cap], V.agg [I a25.Kind, I a25.Pc, I a25.V, I a25.T, I a25.B, V.bool a25.Won, I a25.State]] (V.tup [V.own 1 (rws (fun n => [I n]) r.1), V.agg [I r.2.1.Kind, I r.2.1.Pc, I r.2.1.V, I r.2.1.T, I r.2.1.B, V.bool r.2.1.Won, I r.2.1.State], I r.2.2]) := by
 rw [go_ring_Step] at h
 refine SC.of E_good Try.func8 rfl (fun _ _ => Try.call8 _ _) rfl ?_
 repeat first|apply sq|apply sk|with_reducible first|apply tn|apply bn
 refine Safe.region ?_
 refine SafeOps.quiet1 E_good rfl rfl rfl (.box rfl rfl) rfl ?_
 refine SafeOps.quiet1 E_good rfl rfl rfl (.box rfl rfl) rfl ?_
 refine Qf E_good ?_
 refine SafeOps.quiet1 E_good rfl rfl rfl (.alloc rfl rfl) rfl ?_
 refine Qf E_good ?_
 refine SafeOps.nil ?_
 repeat first|apply sq|apply sk|with_reducible first|apply tn|apply bn
 refine Safe.block ?_
 repeat first|apply sq|apply sk|with_reducible first|apply tn|apply bn
 refine Safe.region ?_
 refine Qf E_good ?_
 refine Q0 E_good rfl (v := V.agg [I a42.Base, I a42.Cap]) (.load rfl rfl (.box rfl rfl) rfl) ?_
 refine Q0 E_good rfl (v := I (go_ring_Check a34 a42)) (.callP rfl rfl (go_ring_Check_sc a34 a42 _ rfl) rfl) ?_
 refine Q0 E_good rfl (v := V.bool ((go_ring_Check a34 a42) != 0)) (.fn rfl) ?_
 refine Qf E_good ?_
 refine SafeOps.bjoin 4 19 (b := (((go_ring_Check a34 a42) != 0) || (!(go_ring_may a25)))) (b1 := true) (b0 := (!(go_ring_may a25))) (fun hc747 K => ?_) (fun hc747 K => ?_) bj_or ?_
 ·skip
  refine sF hc747 ?_
  refine sF hc747 ?_
  refine sF hc747 ?_
  refine Q0 E_good rfl (v := V.bool true) (.pickK rfl hc747 rfl) ?_
  exact SafeOps.drop' 4 rfl rfl rfl K
 ·skip
  refine qF E_good hc747 (v := V.agg [I a25.Kind, I a25.Pc, I a25.V, I a25.T, I a25.B, V.bool a25.Won, I a25.State]) (.load rfl rfl (.box rfl rfl) rfl) ?_
  refine qF E_good hc747 (v := V.bool (go_ring_may a25)) (.callP rfl rfl (go_ring_may_sc a25 _ rfl) rfl) ?_
  refine qF E_good hc747 (v := V.bool (!(go_ring_may a25))) (.fn rfl) ?_
  refine Q0 E_good rfl (v := V.bool (!(go_ring_may a25))) (.pickK rfl hc747 rfl) ?_
  exact SafeOps.drop' 4 rfl rfl rfl K
 refine Qf E_good ?_
 refine SafeOps.nil ?_
 repeat first|apply sq|apply sk|with_reducible first|apply tn|apply bn
 refine ifG h (fun hc748 h => ?_) (fun hc748 h => ?_)
 ·skip
  refine Safe.condK rfl hc748 ?_
  repeat first|apply sq|apply sk|with_reducible first|apply tn|apply bn
  refine Safe.region ?_
  refine Q0 E_good rfl (v := V.agg [I 0, I 0, I 0, I 0, I 0, V.bool false, I 0]) (.fn rfl) ?_
  refine Qf E_good ?_
  refine SafeOps.store (z := Obj.box [I 0, I 0, I 0, I 0, I 0, V.bool false, I 0]) E_good rfl rfl rfl rfl rfl rfl rfl (.boxM (c := 7) rfl rfl (Nat.le_of_ble_eq_true rfl) rfl) ?_
  refine Qf E_good ?_
  refine SafeOps.nil ?_
  repeat first|apply sq|apply sk|with_reducible first|apply tn|apply bn
  refine Safe.ret ?_
  repeat (first | with_reducible refine thenQ.r ?_ | with_reducible refine blockQ.r ?_)
  obtain rfl := Option.some.inj h
  exact retQ.gen (vs := [V.nils, V.agg [I 0, I 0, I 0, I 0, I 0, V.bool false, I 0], I 1]) rfl (.tmp rfl (.cell (v := V.agg [I 0, I 0, I 0, I 0, I 0, V.bool false, I 0]) rfl rfl (.box rfl rfl) rfl (.tmp rfl .nil))) (by exact (.tup (.cons (.nils _) (.cons (.free rfl) (.cons (.free rfl) .nil))))) (by simp) (.inr rfl)
 ·skip
  refine Safe.condN rfl hc748 ?_
  repeat first|apply sq|apply sk|with_reducible first|apply tn|apply bn
  refine Safe.region ?_
  refine Q0 E_good rfl (v := V.ptr [5] 0 6) (.fn rfl) ?_
  refine Q0 E_good rfl (v := I a25.State) (.load rfl rfl (.box rfl rfl) rfl) ?_
  refine Q0 E_good rfl (v := V.bool (a25.State != 0)) (.fn rfl) ?_
  refine Qf E_good ?_
  refine SafeOps.nil ?_
  repeat first|apply sq|apply sk|with_reducible first|apply tn|apply bn
  refine ifG h (fun hc749 h => ?_) (fun hc749 h => ?_)
  ·skip
   refine Safe.condK rfl hc749 ?_
   repeat first|apply sq|apply sk|with_reducible first|apply tn|apply bn
   refine Safe.region ?_
   refine Q0 E_good rfl (v := V.agg [I 0, I 0, I 0, I 0, I 0, V.bool false, I 0]) (.fn rfl) ?_
   refine Qf E_good ?_
   refine SafeOps.store (z := Obj.box [I 0, I 0, I 0, I 0, I 0, V.bool false, I 0]) E_good rfl rfl rfl rfl rfl rfl rfl (.boxM (c := 7) rfl rfl (Nat.le_of_ble_eq_true rfl) rfl) ?_
   refine Qf E_good ?_
   refine SafeOps.nil ?_
   repeat first|apply sq|apply sk|with_reducible first|apply tn|apply bn
   refine Safe.ret ?_
   repeat (first | with_reducible refine thenQ.r ?_ | with_reducible refine blockQ.r ?_)
   obtain rfl := Option.some.inj h
   exact retQ.gen (vs := [V.nils, V.agg [I 0, I 0, I 0, I 0, I 0, V.bool false, I 0], I 9]) rfl (.tmp rfl (.cell (v := V.agg [I 0, I 0, I 0, I 0, I 0, V.bool false, I 0]) rfl rfl (.box rfl rfl) rfl (.tmp rfl .nil))) (by exact (.tup (.cons (.nils _) (.cons (.free rfl) (.cons (.free rfl) .nil))))) (by simp) (.inr rfl)
  ·skip
   refine Safe.condN rfl hc749 ?_
   repeat first|apply sq|apply sk|with_reducible first|apply tn|apply bn
   refine Safe.regionD (n := 7) [] [] E_good mixed rfl ?_
   refine DT 0 [] rfl rfl (v := V.agg [I a25.Kind, I a25.Pc, I a25.V, I a25.T, I a25.B, V.bool a25.Won, I a25.State]) (fun _ hz => (.load rfl rfl (.box (hz _ _ rfl rfl) rfl) rfl)) ?_
   refine DT 1 [] rfl rfl (fun _ hz => (.fn rfl)) ?_
   refine DT 3 [] rfl rfl (v := V.agg [I a42.Base, I a42.Cap]) (fun _ hz => (.load rfl rfl (.box (hz _ _ rfl rfl) rfl) rfl)) ?_
   refine okG h (fun hb750 h => ?_)
   refine DAny.only (i := 2) rfl (by kernel_rfl) (.appendM (fun n => [I n]) (xs := []) (ys := a34) rfl rfl rfl rfl rfl rfl rfl rfl rfl .nils (.sl _) (fun _ => rfl) hb750 rfl ?_)
   refine DT 4 [] rfl rfl (v := V.agg [I a25.Kind, I a25.Pc, I a25.V, I a25.T, I a25.B, V.bool a25.Won, I a25.State, V.ref [28] 0 (rws (fun n => [I n]) ([] ++ a34)).length, I a42.Base, I a42.Cap, I 0]) (fun _ hz => (.fn rfl)) ?_
   refine DAny.only (i := 5) rfl (by kernel_rfl) (.quiet rfl rfl rfl (.box rfl rfl) rfl ?_)
   refine DT 6 [] rfl rfl (fun _ hz => (.fn rfl)) ?_
   refine DAny.nil (by kernel_rfl) ?_
   repeat first|apply sq|apply sk|with_reducible first|apply tn|apply bn
   refine Safe.regionD (n := 9) [] [8] E_good mixed rfl ?_
   refine DT 0 [] rfl rfl (v := V.ptr [5] 0 0) (fun _ hz => (.fn rfl)) ?_
   refine DT 1 [] rfl rfl (v := I a25.Kind) (fun _ hz => (.load rfl rfl (.box (hz _ _ rfl rfl) rfl) rfl)) ?_
   refine letG h ?_
   intro x129 he752 h
   refine DT 2 [] rfl rfl (v := V.sl 1 (rws (fun f : Nat => [V.fn f []]) x129)) (fun _ hz => (.callP rfl rfl (go_ring_accesses_sc a25.Kind _ he752) rfl)) ?_
   refine DT 3 [] rfl rfl (v := V.ptr [5] 0 1) (fun _ hz => (.fn rfl)) ?_
   refine DT 4 [] rfl rfl (v := I a25.Pc) (fun _ hz => (.load rfl rfl (.box (hz _ _ rfl rfl) rfl) rfl)) ?_
   refine okG h (fun hb753 h => ?_)
   refine DT 5 [] rfl rfl (v := V.spt 1 (rws (fun f : Nat => [V.fn f []]) x129) (Int.toNat a25.Pc) 0) (fun _ hz => (.idxSlM (f := (fun f : Nat => [V.fn f []])) rfl rfl rfl rfl rfl hb753)) ?_
   refine DT 6 [] rfl rfl (v := V.fn (gt x129 a25.Pc) []) (fun _ hz => (.load rfl rfl (.sptM (f := (fun f : Nat => [V.fn f []])) hb753 rfl) rfl)) ?_
   refine DT 7 [] rfl rfl (fun _ hz => (.fn rfl)) ?_
   refine DAny.onlyS (i := 8) rfl (by kernel_rfl) rfl ?_
   refine SafeOps.joinT 1 (fun ((v26, v27, v28, v29, v30, v31, v32, v33) : Int × Int × Int × Int × Bool × Int × (List Int) × Int) => go_ring_Step_j81 a25 v26 v27 v28 v29 v30 v31 v32 v33 = some r) (fun ((v26, v27, v28, v29, v30, v31, v32, v33) : Int × Int × Int × Int × Bool × Int × (List Int) × Int) => ⟨Try.f8.ntmps, [(7, V.ptr [7] 0 0), (9, V.ptr [31] 0 0)], [([7], Obj.box [I 0, I 0, I 0, I 0, I 0, V.bool false, I 0]), ([31], Obj.box [I a25.Kind, I v26, I v27, I v28, I v29, V.bool v30, I v31, V.ref [7000, 114, 31, 7] 0 (rws (fun n => [I n]) v32).length, I a42.Base, I a42.Cap, I v33]), ([7000, 114, 31, 7], Obj.rows 1 (rws (fun n => [I n]) v32) false)], [], []⟩) ?_ (fun HJ1246 => ?_)
   ·rintro ⟨v26, v27, v28, v29, v30, v31, v32, v33⟩ h
    replace h : go_ring_Step_j81 a25 v26 v27 v28 v29 v30 v31 v32 v33 = some r := h
    rw [go_ring_Step_j81] at h
    refine SafeOps.nil ⟨rfl, ?_⟩
    refine DAny.nil (by kernel_rfl) ?_
    repeat first|apply sq|apply sk|with_reducible first|apply tn|apply bn
    refine Safe.region ?_
    refine Qf E_good ?_
    refine Q0 E_good rfl (v := V.ptr [31] 0 0) (.fn rfl) ?_
    refine Q0 E_good rfl (v := V.ptr [31] 0 10) (.fn rfl) ?_
    refine Q0 E_good rfl (v := I v33) (.load rfl rfl (.box rfl rfl) rfl) ?_
    refine Q0 E_good rfl (v := V.bool (v33 != 0)) (.fn rfl) ?_
    refine SafeOps.nil ?_
    repeat first|apply sq|apply sk|with_reducible first|apply tn|apply bn
    refine ifG h (fun hc1247 h => ?_) (fun hc1247 h => ?_)
    ·skip
     refine Safe.condK rfl hc1247 ?_
     repeat first|apply sq|apply sk|with_reducible first|apply tn|apply bn
     refine Safe.regionD (n := 8) [(6, [7])] [] E_good mixed rfl ?_
     refine DT 0 [[7]] rfl rfl (v := V.agg [I 0, I 0, I 0, I 0, I 0, V.bool false, I 0]) (fun _ hz => (.fn rfl)) ?_
     refine DT 1 [[7]] rfl rfl (fun _ hz => (.fn rfl)) ?_
     refine DT 2 [[7]] rfl rfl (v := V.ptr [31] 0 0) (fun _ hz => (.fn rfl)) ?_
     refine DT 3 [[7]] rfl rfl (v := V.ptr [31] 0 10) (fun _ hz => (.fn rfl)) ?_
     refine DT 4 [[7]] rfl rfl (v := I v33) (fun _ hz => (.load rfl rfl (.box (hz _ _ rfl rfl) rfl) rfl)) ?_
     refine DT 5 [[7]] rfl rfl (fun _ hz => (.fn rfl)) ?_
     refine DAny.only (i := 6) rfl (by kernel_rfl) (.store (z := Obj.box [I 0, I 0, I 0, I 0, I 0, V.bool false, I 0]) rfl rfl rfl rfl rfl rfl rfl (.boxM (c := 7) rfl rfl (Nat.le_of_ble_eq_true rfl) rfl) rfl ?_)
     refine DT 7 [[7]] rfl rfl (fun _ hz => (.fn rfl)) ?_
     refine DAny.nil (by kernel_rfl) ?_
     repeat first|apply sq|apply sk|with_reducible first|apply tn|apply bn
     refine Safe.ret ?_
     repeat (first | with_reducible refine thenQ.r ?_ | with_reducible refine blockQ.r ?_)
     obtain rfl := Option.some.inj h
     exact retQ.gen (vs := [V.nils, V.agg [I 0, I 0, I 0, I 0, I 0, V.bool false, I 0], I v33]) rfl (.tmp rfl (.cell (v := V.agg [I 0, I 0, I 0, I 0, I 0, V.bool false, I 0]) rfl rfl (.box rfl rfl) rfl (.tmp rfl .nil))) (by exact (.tup (.cons (.nils _) (.cons (.free rfl) (.cons (.free rfl) .nil))))) (by simp) (.inr rfl)
    ·skip
     refine Safe.condN rfl hc1247 ?_
     repeat first|apply sq|apply sk|with_reducible first|apply tn|apply bn
     refine Safe.regionD (n := 11) [(9, [7])] [] E_good mixed rfl ?_
     refine DT 0 [[7]] rfl rfl (fun _ hz => (.fn rfl)) ?_
     refine DT 1 [[7]] rfl rfl (v := V.ptr [31] 0 0) (fun _ hz => (.fn rfl)) ?_
     refine DT 2 [[7]] rfl rfl (v := V.ptr [31] 0 7) (fun _ hz => (.fn rfl)) ?_
     refine DT 3 [[7]] rfl rfl (v := V.ref [7000, 114, 31, 7] 0 (rws (fun n => [I n]) v32).length) (fun _ hz => (.load rfl rfl (.box (hz _ _ rfl rfl) rfl) rfl)) ?_
     refine DT 4 [[7]] rfl rfl (fun _ hz => (.fn rfl)) ?_
     refine DT 5 [[7]] rfl rfl (v := V.ptr [31] 0 0) (fun _ hz => (.fn rfl)) ?_
     refine DT 6 [[7]] rfl rfl (v := V.ptr [31] 0 0) (fun _ hz => (.fn rfl)) ?_
     refine DT 7 [[7]] rfl rfl (v := V.agg [I a25.Kind, I v26, I v27, I v28, I v29, V.bool v30, I v31]) (fun _ hz => (.load rfl rfl (.box (hz _ _ rfl rfl) rfl) rfl)) ?_
     refine DT 8 [[7]] rfl rfl (fun _ hz => (.fn rfl)) ?_
     refine DAny.only (i := 9) rfl (by kernel_rfl) (.store (z := Obj.box [I a25.Kind, I v26, I v27, I v28, I v29, V.bool v30, I v31]) rfl rfl rfl rfl rfl rfl rfl (.boxM (c := 7) rfl rfl (Nat.le_of_ble_eq_true rfl) rfl) rfl ?_)
     refine DT 10 [[7]] rfl rfl (fun _ hz => (.fn rfl)) ?_
     refine DAny.nil (by kernel_rfl) ?_
     repeat first|apply sq|apply sk|with_reducible first|apply tn|apply bn
     refine Safe.ret ?_
     repeat (first | with_reducible refine thenQ.r ?_ | with_reducible refine blockQ.r ?_)
     obtain rfl := Option.some.inj h
     exact retQ.gen (vs := [V.ref [7000, 114, 31, 7] 0 (rws (fun n => [I n]) v32).length, V.agg [I a25.Kind, I v26, I v27, I v28, I v29, V.bool v30, I v31], I 0]) rfl (.tmp rfl (.cell (v := V.agg [I a25.Kind, I v26, I v27, I v28, I v29, V.bool v30, I v31]) rfl rfl (.box rfl rfl) rfl (.tmp rfl .nil))) (by exact (.tup (.cons (.own rfl rfl) (.cons (.free rfl) (.cons (.free rfl) .nil))))) (by simp) (.inr rfl)
   ·skip
    refine ifP_G h (fun hq1248 h => ?_) (fun _ h => ?_)
    ·skip
     refine SafeOps.see 38 (u := V.fn 37 []) rfl (up_fn hq1248) ?_
     refine SafeOps.inline E_good rfl rfl rfl rfl rfl Try.func37 rfl (fun _ _ => Try.call37 _ _) rfl ?_
     repeat first|apply sq|apply sk|with_reducible first|apply tn|apply bn
     refine Safe.region ?_
     refine Qf E_good ?_
     refine Qf E_good ?_
     refine Qf E_good ?_
     refine Q0 E_good rfl (v := I (go_pring_actor_top (ring_actor.mk a25 ([] ++ a34) a42 0))) (.callS rfl (.cons (.box rfl (.cons (.free rfl) (.cons (.free rfl) (.cons (.free rfl) (.cons (.free rfl) (.cons (.free rfl) (.cons (.free rfl) (.cons (.free rfl) (.cons (.full rfl rfl) (.cons (.free rfl) (.cons (.free rfl) (.cons (.free rfl) .nil)))))))))))) .nil) (go_pring_actor_top_sc (ring_actor.mk a25 ([] ++ a34) a42 0) _ rfl) (.plain rfl) rfl) ?_
     refine SafeOps.inline E_good rfl rfl rfl rfl rfl Try.func28 rfl (fun _ _ => Try.call28 _ _) rfl ?_
     repeat first|apply sq|apply sk|with_reducible first|apply tn|apply bn
     refine Safe.region ?_
     refine Qf E_good ?_
     refine SafeOps.nil ?_
     repeat first|apply sq|apply sk|with_reducible first|apply tn|apply bn
     refine Safe.region ?_
     refine Qf E_good ?_
     refine Qf E_good ?_
     refine SafeOps.inline E_good rfl rfl rfl rfl rfl Try.func31 rfl (fun _ _ => Try.call31 _ _) rfl ?_
     repeat first|apply sq|apply sk|with_reducible first|apply tn|apply bn
     refine Safe.region ?_
     refine Qf E_good ?_
     refine SafeOps.nil ?_
     repeat first|apply sq|apply sk|with_reducible first|apply tn|apply bn
     refine Safe.region ?_
     refine Qf E_good ?_
     refine Q0 E_good rfl (v := V.ptr [31] 0 0) (.fn rfl) ?_
     refine Q0 E_good rfl (v := V.ptr [31] 0 7) (.fn rfl) ?_
     refine Q0 E_good rfl (v := V.ref [28] 0 (rws (fun n => [I n]) ([] ++ a34)).length) (.load rfl rfl (.box rfl rfl) rfl) ?_
     refine Qf E_good ?_
     refine bindG h ?_
     rintro ⟨x35, x130⟩ he1273 h
     refine Q0 E_good rfl (v := V.tup [I x35, I x130]) (.callS rfl (.cons (.full rfl rfl) (.cons (.free rfl) .nil)) (go_cell_Load_sc ([] ++ a34) (go_pring_actor_top (ring_actor.mk a25 ([] ++ a34) a42 0)) _ he1273) (.tupL (.cons (.plain rfl) (.cons (.plain rfl) .nil))) rfl) ?_
     refine Qf E_good ?_
     refine Qf E_good ?_
     refine Qf E_good ?_
     refine Qf E_good ?_
     refine Qf E_good ?_
     refine SafeOps.nil ?_
     repeat first|apply sq|apply sk|with_reducible first|apply tn|apply bn
     refine Safe.region ?_
     refine Qf E_good ?_
     refine Qf E_good ?_
     refine Q0 E_good rfl (v := V.bool (x130 == 0)) (.fn rfl) ?_
     refine SafeOps.joinT 1 (fun (v37 : Int) => go_ring_Step_j86 a34 a25 x35 v37 = some r) (fun (v37 : Int) => ⟨Try.f31.ntmps, [(5, I x35)], [([7], Obj.box [I 0, I 0, I 0, I 0, I 0, V.bool false, I 0]), ([28], Obj.rows 1 (rws (fun n => [I n]) ([] ++ a34)) false), ([31], Obj.box [I a25.Kind, I a25.Pc, I a25.V, I a25.T, I a25.B, V.bool a25.Won, I a25.State, V.ref [28] 0 (rws (fun n => [I n]) ([] ++ a34)).length, I a42.Base, I a42.Cap, I v37])], [(Try.f28.ntmps, [(0, V.ptr [31] 0 0), (2, I 0)]), (Try.f37.ntmps, [(0, V.ptr [31] 0 0), (2, V.ptr [31] 0 0)]), (Try.f8.ntmps, [(7, V.ptr [7] 0 0), (9, V.ptr [31] 0 0)])], [40, 6, 10]⟩) ?_ (fun HJ1276 => ?_)
     ·intro v37 h
      replace h : go_ring_Step_j86 a34 a25 x35 v37 = some r := h
      rw [go_ring_Step_j86] at h
      refine SafeOps.nil ?_
      repeat first|apply sq|apply sk|with_reducible first|apply tn|apply bn
      refine Safe.region ?_
      refine Qf E_good ?_
      refine Qf E_good ?_
      refine SafeOps.nil ?_
      repeat first|apply sq|apply sk|with_reducible first|apply tn|apply bn
      refine Safe.ret ?_
      repeat (first | with_reducible refine thenQ.r ?_ | with_reducible refine blockQ.r ?_)
      refine inQ.gen (vs := [I x35]) (v := I x35) (.inr rfl) rfl (.tmp (v := I x35) rfl .nil) rfl ?_
      refine Qf E_good ?_
      refine SafeOps.nil ?_
      repeat first|apply sq|apply sk|with_reducible first|apply tn|apply bn
      refine Safe.region ?_
      refine Qf E_good ?_
      refine Qf E_good ?_
      refine Qf E_good ?_
      refine Q0 E_good rfl (v := V.bool (decide (x35 ≥ 0))) (.fn rfl) ?_
      refine Qf E_good ?_
      refine SafeOps.bjoin 3 18 (b := ((decide (x35 ≥ 0)) && (decide (x35 ≤ 1099511627776)))) (b1 := decide (x35 ≤ 1099511627776)) (b0 := false) (fun hc1277 K => ?_) (fun hc1277 K => ?_) bj_and ?_
      ·skip
       refine qT E_good hc1277 (.fn rfl) ?_
       refine qT E_good hc1277 (v := V.bool (decide (x35 ≤ 1099511627776))) (.fn rfl) ?_
       refine Q0 E_good rfl (v := V.bool (decide (x35 ≤ 1099511627776))) (.pickK rfl hc1277 rfl) ?_
       exact SafeOps.drop' 3 rfl rfl rfl K
      ·skip
       refine sT hc1277 ?_
       refine sT hc1277 ?_
       refine Q0 E_good rfl (v := V.bool false) (.pickK rfl hc1277 rfl) ?_
       exact SafeOps.drop' 3 rfl rfl rfl K
      refine SafeOps.joinT 1 (fun (v36 : Int) => go_ring_Step_j87 a34 a25 x35 v36 = some r) (fun (v36 : Int) => ⟨Try.f28.ntmps, [(7, I x35)], [([7], Obj.box [I 0, I 0, I 0, I 0, I 0, V.bool false, I 0]), ([28], Obj.rows 1 (rws (fun n => [I n]) ([] ++ a34)) false), ([31], Obj.box [I a25.Kind, I a25.Pc, I a25.V, I a25.T, I a25.B, V.bool a25.Won, I a25.State, V.ref [28] 0 (rws (fun n => [I n]) ([] ++ a34)).length, I a42.Base, I a42.Cap, I v36])], [(Try.f37.ntmps, [(0, V.ptr [31] 0 0), (2, V.ptr [31] 0 0)]), (Try.f8.ntmps, [(7, V.ptr [7] 0 0), (9, V.ptr [31] 0 0)])], [40, 6]⟩) ?_ (fun HJ1280 => ?_)
      ·intro v36 h
       replace h : go_ring_Step_j87 a34 a25 x35 v36 = some r := h
       rw [go_ring_Step_j87] at h
       refine SafeOps.nil ?_
       repeat first|apply sq|apply sk|with_reducible first|apply tn|apply bn
       refine Safe.region ?_
       refine Qf E_good ?_
       refine Qf E_good ?_
       refine SafeOps.nil ?_
       repeat first|apply sq|apply sk|with_reducible first|apply tn|apply bn
       refine Safe.ret ?_
       repeat (first | with_reducible refine thenQ.r ?_ | with_reducible refine blockQ.r ?_)
       refine inQ.gen (vs := [I x35]) (v := I x35) (.inr rfl) rfl (.tmp (v := I x35) rfl .nil) rfl ?_
       refine Q0 E_good rfl (v := V.ptr [31] 0 0) (.fn rfl) ?_
       refine Q0 E_good rfl (v := V.ptr [31] 0 0) (.fn rfl) ?_
       refine Q0 E_good rfl (v := V.ptr [31] 0 3) (.fn rfl) ?_
       refine SafeOps.store (z := Obj.box [I a25.Kind, I a25.Pc, I a25.V, I x35, I a25.B, V.bool a25.Won, I a25.State, V.ref [28] 0 (rws (fun n => [I n]) ([] ++ a34)).length, I a42.Base, I a42.Cap, I v36]) E_good rfl rfl rfl rfl rfl rfl rfl (.boxM (c := 11) rfl rfl (Nat.le_of_ble_eq_true rfl) rfl) ?_
       refine SafeOps.nil ?_
       repeat first|apply sq|apply sk|with_reducible first|apply tn|apply bn
       refine Safe.region ?_
       refine Qf E_good ?_
       refine Q0 E_good rfl (v := V.ptr [31] 0 0) (.fn rfl) ?_
       refine Q0 E_good rfl (v := V.ptr [31] 0 0) (.fn rfl) ?_
       refine Q0 E_good rfl (v := V.ptr [31] 0 1) (.fn rfl) ?_
       refine Q0 E_good rfl (v := I a25.Pc) (.load rfl rfl (.box rfl rfl) rfl) ?_
       refine Q0 E_good rfl (v := I (IntKind.i64.wrap (a25.Pc + 1))) (.fn rfl) ?_
       refine Q0 E_good rfl (v := V.ptr [31] 0 0) (.fn rfl) ?_
       refine Q0 E_good rfl (v := V.ptr [31] 0 0) (.fn rfl) ?_
       refine Q0 E_good rfl (v := V.ptr [31] 0 1) (.fn rfl) ?_
       refine SafeOps.store (z := Obj.box [I a25.Kind, I (IntKind.i64.wrap (a25.Pc + 1)), I a25.V, I x35, I a25.B, V.bool a25.Won, I a25.State, V.ref [28] 0 (rws (fun n => [I n]) ([] ++ a34)).length, I a42.Base, I a42.Cap, I v36]) E_good rfl rfl rfl rfl rfl rfl rfl (.boxM (c := 11) rfl rfl (Nat.le_of_ble_eq_true rfl) rfl) ?_
       refine SafeOps.nil ?_
       repeat first|apply sq|apply sk|with_reducible first|apply tn|apply bn
       repeat (first | with_reducible refine thenQ.r ?_ | with_reducible refine blockQ.r ?_)
       refine inQ.gen (vs := []) (v := V.tup []) (.inl rfl) rfl .nil rfl ?_
       exact SafeOps.got (HJ1246 (IntKind.i64.wrap (a25.Pc + 1), a25.V, x35, a25.B, a25.Won, a25.State, [] ++ a34, v36) h) (.ren [28] [7000, 114, 31, 7] (.cov ⟨rfl, rfl, (ut (ut upT_nil)), (uo (uo (uo upOb_nil))), upOut_nil, rfl⟩))
      ·skip
       refine SafeOps.inline E_good rfl rfl rfl rfl rfl Try.func54 rfl (fun _ _ => Try.call54 _ _) rfl ?_
       repeat first|apply sq|apply sk|with_reducible first|apply tn|apply bn
       refine Safe.region ?_
       refine Qf E_good ?_
       refine SafeOps.nil ?_
       repeat first|apply sq|apply sk|with_reducible first|apply tn|apply bn
       refine Safe.region ?_
       refine Qf E_good ?_
       refine Q0 E_good rfl (v := V.bool (!((decide (x35 ≥ 0)) && (decide (x35 ≤ 1099511627776))))) (.fn rfl) ?_
       refine SafeOps.nil ?_
       repeat first|apply sq|apply sk|with_reducible first|apply tn|apply bn
       refine ifG h (fun hc1281 h => ?_) (fun hc1281 h => ?_)
       ·skip
        refine Safe.condK rfl hc1281 ?_
        repeat first|apply sq|apply sk|with_reducible first|apply tn|apply bn
        refine Safe.region ?_
        refine Qf E_good ?_
        refine Q0 E_good rfl (v := V.ptr [31] 0 0) (.fn rfl) ?_
        refine Q0 E_good rfl (v := V.ptr [31] 0 10) (.fn rfl) ?_
        refine SafeOps.store (z := Obj.box [I a25.Kind, I a25.Pc, I a25.V, I a25.T, I a25.B, V.bool a25.Won, I a25.State, V.ref [28] 0 (rws (fun n => [I n]) ([] ++ a34)).length, I a42.Base, I a42.Cap, I 9]) E_good rfl rfl rfl rfl rfl rfl rfl (.boxM (c := 11) rfl rfl (Nat.le_of_ble_eq_true rfl) rfl) ?_
        refine SafeOps.nil ?_
        repeat first|apply sq|apply sk|with_reducible first|apply tn|apply bn
        refine Safe.region ?_
        refine Qf E_good ?_
        refine Qf E_good ?_
        refine SafeOps.nil ?_
        repeat first|apply sq|apply sk|with_reducible first|apply tn|apply bn
        refine Safe.ret ?_
        repeat (first | with_reducible refine thenQ.r ?_ | with_reducible refine blockQ.r ?_)
        refine inQ.gen (vs := [V.bool ((decide (x35 ≥ 0)) && (decide (x35 ≤ 1099511627776)))]) (v := V.bool ((decide (x35 ≥ 0)) && (decide (x35 ≤ 1099511627776)))) (.inr rfl) rfl (.tmp (v := V.bool ((decide (x35 ≥ 0)) && (decide (x35 ≤ 1099511627776)))) rfl .nil) rfl ?_
        exact SafeOps.got (HJ1280 (9) h) (.cov ⟨rfl, rfl, (ut upT_nil), (uo (uo (uo upOb_nil))), (upOut_cons rfl (ut (ut upT_nil)) (upOut_cons rfl (ut (ut upT_nil)) upOut_nil)), rfl⟩)
       ·skip
        refine Safe.condN rfl hc1281 ?_
        repeat first|apply sq|apply sk|with_reducible first|apply tn|apply bn
        refine Safe.region ?_
        refine Qf E_good ?_
        refine Qf E_good ?_
        refine SafeOps.nil ?_
        repeat first|apply sq|apply sk|with_reducible first|apply tn|apply bn
        refine Safe.ret ?_
        repeat (first | with_reducible refine thenQ.r ?_ | with_reducible refine blockQ.r ?_)
        refine inQ.gen (vs := [V.bool ((decide (x35 ≥ 0)) && (decide (x35 ≤ 1099511627776)))]) (v := V.bool ((decide (x35 ≥ 0)) && (decide (x35 ≤ 1099511627776)))) (.inr rfl) rfl (.tmp (v := V.bool ((decide (x35 ≥ 0)) && (decide (x35 ≤ 1099511627776)))) rfl .nil) rfl ?_
        exact SafeOps.got (HJ1280 (v37) h) (.cov ⟨rfl, rfl, (ut upT_nil), (uo (uo (uo upOb_nil))), (upOut_cons rfl (ut (ut upT_nil)) (upOut_cons rfl (ut (ut upT_nil)) upOut_nil)), rfl⟩)
     ·skip
      refine SafeOps.inline E_good rfl rfl rfl rfl rfl Try.func54 rfl (fun _ _ => Try.call54 _ _) rfl ?_
      repeat first|apply sq|apply sk|with_reducible first|apply tn|apply bn
      refine Safe.region ?_
      refine Qf E_good ?_
      refine SafeOps.nil ?_
      repeat first|apply sq|apply sk|with_reducible first|apply tn|apply bn
      refine Safe.region ?_
      refine Qf E_good ?_
      refine Q0 E_good rfl (v := V.bool (!(x130 == 0))) (.fn rfl) ?_
      refine SafeOps.nil ?_
      repeat first|apply sq|apply sk|with_reducible first|apply tn|apply bn
      refine ifG h (fun hc1282 h => ?_) (fun hc1282 h => ?_)
      ·skip
       refine Safe.condK rfl hc1282 ?_
       repeat first|apply sq|apply sk|with_reducible first|apply tn|apply bn
       refine Safe.region ?_
       refine Qf E_good ?_
       refine Q0 E_good rfl (v := V.ptr [31] 0 0) (.fn rfl) ?_
       refine Q0 E_good rfl (v := V.ptr [31] 0 10) (.fn rfl) ?_
       refine SafeOps.store (z := Obj.box [I a25.Kind, I a25.Pc, I a25.V, I a25.T, I a25.B, V.bool a25.Won, I a25.State, V.ref [28] 0 (rws (fun n => [I n]) ([] ++ a34)).length, I a42.Base, I a42.Cap, I 9]) E_good rfl rfl rfl rfl rfl rfl rfl (.boxM (c := 11) rfl rfl (Nat.le_of_ble_eq_true rfl) rfl) ?_
       refine SafeOps.nil ?_
       repeat first|apply sq|apply sk|with_reducible first|apply tn|apply bn
       refine Safe.region ?_
       refine Qf E_good ?_
       refine Qf E_good ?_
       refine SafeOps.nil ?_
       repeat first|apply sq|apply sk|with_reducible first|apply tn|apply bn
       refine Safe.ret ?_
       repeat (first | with_reducible refine thenQ.r ?_ | with_reducible refine blockQ.r ?_)
       refine inQ.gen (vs := [V.bool (x130 == 0)]) (v := V.bool (x130 == 0)) (.inr rfl) rfl (.tmp (v := V.bool (x130 == 0)) rfl .nil) rfl ?_
       exact SafeOps.got (HJ1276 (9) h) (.cov ⟨rfl, rfl, (ut upT_nil), (uo (uo (uo upOb_nil))), (upOut_cons rfl (ut (ut upT_nil)) (upOut_cons rfl (ut (ut upT_nil)) (upOut_cons rfl (ut (ut upT_nil)) upOut_nil))), rfl⟩)
      ·skip
       refine Safe.condN rfl hc1282 ?_
       repeat first|apply sq|apply sk|with_reducible first|apply tn|apply bn
       refine Safe.region ?_
       refine Qf E_good ?_
       refine Qf E_good ?_
       refine SafeOps.nil ?_
       repeat first|apply sq|apply sk|with_reducible first|apply tn|apply bn
       refine Safe.ret ?_
       repeat (first | with_reducible refine thenQ.r ?_ | with_reducible refine blockQ.r ?_)
       refine inQ.gen (vs := [V.bool (x130 == 0)]) (v := V.bool (x130 == 0)) (.inr rfl) rfl (.tmp (v := V.bool (x130 == 0)) rfl .nil) rfl ?_
       exact SafeOps.got (HJ1276 (0) h) (.cov ⟨rfl, rfl, (ut upT_nil), (uo (uo (uo upOb_nil))), (upOut_cons rfl (ut (ut upT_nil)) (upOut_cons rfl (ut (ut upT_nil)) (upOut_cons rfl (ut (ut upT_nil)) upOut_nil))), rfl⟩)
    refine ifP_G h (fun hq1283 h => ?_) (fun _ h => ?_)
    ·skip
     refine SafeOps.see 38 (u := V.fn 38 []) rfl (up_fn hq1283) ?_
     refine SafeOps.inline E_good rfl rfl rfl rfl rfl Try.func38 rfl (fun _ _ => Try.call38 _ _) rfl ?_
     repeat first|apply sq|apply sk|with_reducible first|apply tn|apply bn
     refine Safe.region ?_
     refine Qf E_good ?_
     refine Qf E_good ?_
     refine Qf E_good ?_
     refine Q0 E_good rfl (v := I (go_pring_actor_bottom (ring_actor.mk a25 ([] ++ a34) a42 0))) (.callS rfl (.cons (.box rfl (.cons (.free rfl) (.cons (.free rfl) (.cons (.free rfl) (.cons (.free rfl) (.cons (.free rfl) (.cons (.free rfl) (.cons (.free rfl) (.cons (.full rfl rfl) (.cons (.free rfl) (.cons (.free rfl) (.cons (.free rfl) .nil)))))))))))) .nil) (go_pring_actor_bottom_sc (ring_actor.mk a25 ([] ++ a34) a42 0) _ rfl) (.plain rfl) rfl) ?_
     refine SafeOps.inline E_good rfl rfl rfl rfl rfl Try.func28 rfl (fun _ _ => Try.call28 _ _) rfl ?_
     repeat first|apply sq|apply sk|with_reducible first|apply tn|apply bn
     refine Safe.region ?_
     refine Qf E_good ?_
     refine SafeOps.nil ?_
     repeat first|apply sq|apply sk|with_reducible first|apply tn|apply bn
     refine Safe.region ?_
     refine Qf E_good ?_
     refine Qf E_good ?_
     refine SafeOps.inline E_good rfl rfl rfl rfl rfl Try.func31 rfl (fun _ _ => Try.call31 _ _) rfl ?_
     repeat first|apply sq|apply sk|with_reducible first|apply tn|apply bn
     refine Safe.region ?_
     refine Qf E_good ?_
     refine SafeOps.nil ?_
     repeat first|apply sq|apply sk|with_reducible first|apply tn|apply bn
     refine Safe.region ?_
     refine Qf E_good ?_
     refine Q0 E_good rfl (v := V.ptr [31] 0 0) (.fn rfl) ?_
     refine Q0 E_good rfl (v := V.ptr [31] 0 7) (.fn rfl) ?_
     refine Q0 E_good rfl (v := V.ref [28] 0 (rws (fun n => [I n]) ([] ++ a34)).length) (.load rfl rfl (.box rfl rfl) rfl) ?_
     refine Qf E_good ?_
     refine bindG h ?_
     rintro ⟨x38, x131⟩ he1308 h
     refine Q0 E_good rfl (v := V.tup [I x38, I x131]) (.callS rfl (.cons (.full rfl rfl) (.cons (.free rfl) .nil)) (go_cell_Load_sc ([] ++ a34) (go_pring_actor_bottom (ring_actor.mk a25 ([] ++ a34) a42 0)) _ he1308) (.tupL (.cons (.plain rfl) (.cons (.plain rfl) .nil))) rfl) ?_
     refine Qf E_good ?_
     refine Qf E_good ?_
     refine Qf E_good ?_
     refine Qf E_good ?_
     refine Qf E_good ?_
     refine SafeOps.nil ?_
     repeat first|apply sq|apply sk|with_reducible first|apply tn|apply bn
     refine Safe.region ?_
     refine Qf E_good ?_
     refine Qf E_good ?_
     refine Q0 E_good rfl (v := V.bool (x131 == 0)) (.fn rfl) ?_
     refine SafeOps.joinT 1 (fun (v43 : Int) => go_ring_Step_j92 a34 a42 a25 x38 v43 = some r) (fun (v43 : Int) => ⟨Try.f31.ntmps, [(5, I x38)], [([7], Obj.box [I 0, I 0, I 0, I 0, I 0, V.bool false, I 0]), ([28], Obj.rows 1 (rws (fun n => [I n]) ([] ++ a34)) false), ([31], Obj.box [I a25.Kind, I a25.Pc, I a25.V, I a25.T, I a25.B, V.bool a25.Won, I a25.State, V.ref [28] 0 (rws (fun n => [I n]) ([] ++ a34)).length, I a42.Base, I a42.Cap, I v43])], [(Try.f28.ntmps, [(0, V.ptr [31] 0 0), (2, I 0)]), (Try.f38.ntmps, [(0, V.ptr [31] 0 0), (2, V.ptr [31] 0 0)]), (Try.f8.ntmps, [(7, V.ptr [7] 0 0), (9, V.ptr [31] 0 0)])], [40, 6, 10]⟩) ?_ (fun HJ1311 => ?_)
     ·intro v43 h
      replace h : go_ring_Step_j92 a34 a42 a25 x38 v43 = some r := h
      rw [go_ring_Step_j92] at h
      refine SafeOps.nil ?_
      repeat first|apply sq|apply sk|with_reducible first|apply tn|apply bn
      refine Safe.region ?_
      refine Qf E_good ?_
      refine Qf E_good ?_
      refine SafeOps.nil ?_
      repeat first|apply sq|apply sk|with_reducible first|apply tn|apply bn
      refine Safe.ret ?_
      repeat (first | with_reducible refine thenQ.r ?_ | with_reducible refine blockQ.r ?_)
      refine inQ.gen (vs := [I x38]) (v := I x38) (.inr rfl) rfl (.tmp (v := I x38) rfl .nil) rfl ?_
      refine Qf E_good ?_
      refine SafeOps.nil ?_
      repeat first|apply sq|apply sk|with_reducible first|apply tn|apply bn
      refine Safe.region ?_
      refine Qf E_good ?_
      refine Qf E_good ?_
      refine Qf E_good ?_
      refine Q0 E_good rfl (v := V.bool (decide (x38 ≥ 0))) (.fn rfl) ?_
      refine Qf E_good ?_
      refine SafeOps.bjoin 3 18 (b := ((decide (x38 ≥ 0)) && (decide (x38 ≤ 1099511627776)))) (b1 := decide (x38 ≤ 1099511627776)) (b0 := false) (fun hc1312 K => ?_) (fun hc1312 K => ?_) bj_and ?_
      ·skip
       refine qT E_good hc1312 (.fn rfl) ?_
       refine qT E_good hc1312 (v := V.bool (decide (x38 ≤ 1099511627776))) (.fn rfl) ?_
       refine Q0 E_good rfl (v := V.bool (decide (x38 ≤ 1099511627776))) (.pickK rfl hc1312 rfl) ?_
       exact SafeOps.drop' 3 rfl rfl rfl K
      ·skip
       refine sT hc1312 ?_
       refine sT hc1312 ?_
       refine Q0 E_good rfl (v := V.bool false) (.pickK rfl hc1312 rfl) ?_
       exact SafeOps.drop' 3 rfl rfl rfl K
      refine SafeOps.joinT 1 (fun (v39 : Int) => go_ring_Step_j93 a34 a42 a25 x38 v39 = some r) (fun (v39 : Int) => ⟨Try.f28.ntmps, [(7, I x38)], [([7], Obj.box [I 0, I 0, I 0, I 0, I 0, V.bool false, I 0]), ([28], Obj.rows 1 (rws (fun n => [I n]) ([] ++ a34)) false), ([31], Obj.box [I a25.Kind, I a25.Pc, I a25.V, I a25.T, I a25.B, V.bool a25.Won, I a25.State, V.ref [28] 0 (rws (fun n => [I n]) ([] ++ a34)).length, I a42.Base, I a42.Cap, I v39])], [(Try.f38.ntmps, [(0, V.ptr [31] 0 0), (2, V.ptr [31] 0 0)]), (Try.f8.ntmps, [(7, V.ptr [7] 0 0), (9, V.ptr [31] 0 0)])], [40, 6]⟩) ?_ (fun HJ1315 => ?_)
      ·intro v39 h
       replace h : go_ring_Step_j93 a34 a42 a25 x38 v39 = some r := h
       rw [go_ring_Step_j93] at h
       refine SafeOps.nil ?_
       repeat first|apply sq|apply sk|with_reducible first|apply tn|apply bn
       refine Safe.region ?_
       refine Qf E_good ?_
       refine Qf E_good ?_
       refine SafeOps.nil ?_
       repeat first|apply sq|apply sk|with_reducible first|apply tn|apply bn
       refine Safe.ret ?_
       repeat (first | with_reducible refine thenQ.r ?_ | with_reducible refine blockQ.r ?_)
       refine inQ.gen (vs := [I x38]) (v := I x38) (.inr rfl) rfl (.tmp (v := I x38) rfl .nil) rfl ?_
       refine Q0 E_good rfl (v := V.ptr [31] 0 0) (.fn rfl) ?_
       refine Q0 E_good rfl (v := V.ptr [31] 0 0) (.fn rfl) ?_
       refine Q0 E_good rfl (v := V.ptr [31] 0 4) (.fn rfl) ?_
       refine SafeOps.store (z := Obj.box [I a25.Kind, I a25.Pc, I a25.V, I a25.T, I x38, V.bool a25.Won, I a25.State, V.ref [28] 0 (rws (fun n => [I n]) ([] ++ a34)).length, I a42.Base, I a42.Cap, I v39]) E_good rfl rfl rfl rfl rfl rfl rfl (.boxM (c := 11) rfl rfl (Nat.le_of_ble_eq_true rfl) rfl) ?_
       refine SafeOps.nil ?_
       repeat first|apply sq|apply sk|with_reducible first|apply tn|apply bn
       refine Safe.regionD (n := 19) [] [18] E_good mixed rfl ?_
       refine DT 0 [] rfl rfl (fun _ hz => (.fn rfl)) ?_
       refine DT 1 [] rfl rfl (fun _ hz => (.fn rfl)) ?_
       refine DT 2 [] rfl rfl (v := V.ptr [31] 0 0) (fun _ hz => (.fn rfl)) ?_
       refine DT 3 [] rfl rfl (v := V.ptr [31] 0 0) (fun _ hz => (.fn rfl)) ?_
       refine DT 4 [] rfl rfl (v := V.ptr [31] 0 4) (fun _ hz => (.fn rfl)) ?_
       refine DT 5 [] rfl rfl (v := I x38) (fun _ hz => (.load rfl rfl (.box (hz _ _ rfl rfl) rfl) rfl)) ?_
       refine DT 6 [] rfl rfl (fun _ hz => (.fn rfl)) ?_
       refine DT 7 [] rfl rfl (v := V.ptr [31] 0 0) (fun _ hz => (.fn rfl)) ?_
       refine DT 8 [] rfl rfl (v := V.ptr [31] 0 0) (fun _ hz => (.fn rfl)) ?_
       refine DT 9 [] rfl rfl (v := V.ptr [31] 0 3) (fun _ hz => (.fn rfl)) ?_
       refine DT 10 [] rfl rfl (v := I a25.T) (fun _ hz => (.load rfl rfl (.box (hz _ _ rfl rfl) rfl) rfl)) ?_
       refine DT 11 [] rfl rfl (v := I (IntKind.i64.wrap (x38 - a25.T))) (fun _ hz => (.fn rfl)) ?_
       refine DT 12 [] rfl rfl (fun _ hz => (.fn rfl)) ?_
       refine DT 13 [] rfl rfl (v := V.ptr [31] 0 0) (fun _ hz => (.fn rfl)) ?_
       refine DT 14 [] rfl rfl (v := V.ptr [31] 0 8) (fun _ hz => (.fn rfl)) ?_
       refine DT 15 [] rfl rfl (v := V.ptr [31] 0 9) (fun _ hz => (.fn rfl)) ?_
       refine DT 16 [] rfl rfl (v := I a42.Cap) (fun _ hz => (.load rfl rfl (.box (hz _ _ rfl rfl) rfl) rfl)) ?_
       refine DT 17 [] rfl rfl (v := V.bool (decide ((IntKind.i64.wrap (x38 - a25.T)) ≥ a42.Cap))) (fun _ hz => (.fn rfl)) ?_
       refine DAny.onlyS (i := 18) rfl (by kernel_rfl) rfl ?_
       refine SafeOps.joinT 1 (fun ((v40, v41) : Int × Int) => go_ring_Step_j94 a34 a25 x38 v39 v40 v41 = some r) (fun ((v40, v41) : Int × Int) => ⟨Try.f38.ntmps, [], [([7], Obj.box [I 0, I 0, I 0, I 0, I 0, V.bool false, I 0]), ([28], Obj.rows 1 (rws (fun n => [I n]) ([] ++ a34)) false), ([31], Obj.box [I a25.Kind, I v40, I a25.V, I a25.T, I x38, V.bool a25.Won, I v41, V.ref [28] 0 (rws (fun n => [I n]) ([] ++ a34)).length, I a42.Base, I a42.Cap, I v39])], [(Try.f8.ntmps, [(7, V.ptr [7] 0 0), (9, V.ptr [31] 0 0)])], [40]⟩) ?_ (fun HJ1319 => ?_)
       ·rintro ⟨v40, v41⟩ h
        replace h : go_ring_Step_j94 a34 a25 x38 v39 v40 v41 = some r := h
        rw [go_ring_Step_j94] at h
        refine SafeOps.nil ⟨rfl, ?_⟩
        refine DAny.nil (by kernel_rfl) ?_
        repeat first|apply sq|apply sk|with_reducible first|apply tn|apply bn
        repeat (first | with_reducible refine thenQ.r ?_ | with_reducible refine blockQ.r ?_)
        refine inQ.gen (vs := []) (v := V.tup []) (.inl rfl) rfl .nil rfl ?_
        exact SafeOps.got (HJ1246 (v40, a25.V, a25.T, x38, a25.Won, v41, [] ++ a34, v39) h) (.ren [28] [7000, 114, 31, 7] (.cov ⟨rfl, rfl, (ut (ut upT_nil)), (uo (uo (uo upOb_nil))), upOut_nil, rfl⟩))
       ·skip
        refine SafeOps.inline E_good rfl rfl rfl rfl rfl Try.func56 rfl (fun _ _ => Try.call56 _ _) rfl ?_
        repeat first|apply sq|apply sk|with_reducible first|apply tn|apply bn
        refine Safe.region ?_
        refine Qf E_good ?_
        refine SafeOps.nil ?_
        repeat first|apply sq|apply sk|with_reducible first|apply tn|apply bn
        refine ifG h (fun hc1320 h => ?_) (fun hc1320 h => ?_)
        ·skip
         refine Safe.condK rfl hc1320 ?_
         repeat first|apply sq|apply sk|with_reducible first|apply tn|apply bn
         refine Safe.region ?_
         refine Qf E_good ?_
         refine Qf E_good ?_
         refine Q0 E_good rfl (v := V.ptr [31] 0 0) (.fn rfl) ?_
         refine Q0 E_good rfl (v := V.ptr [31] 0 0) (.fn rfl) ?_
         refine Q0 E_good rfl (v := V.ptr [31] 0 6) (.fn rfl) ?_
         refine SafeOps.store (z := Obj.box [I a25.Kind, I a25.Pc, I a25.V, I a25.T, I x38, V.bool a25.Won, I 3, V.ref [28] 0 (rws (fun n => [I n]) ([] ++ a34)).length, I a42.Base, I a42.Cap, I v39]) E_good rfl rfl rfl rfl rfl rfl rfl (.boxM (c := 11) rfl rfl (Nat.le_of_ble_eq_true rfl) rfl) ?_
         refine SafeOps.nil ?_
         repeat first|apply sq|apply sk|with_reducible first|apply tn|apply bn
         refine Safe.ret ?_
         repeat (first | with_reducible refine thenQ.r ?_ | with_reducible refine blockQ.r ?_)
         refine inQ.gen (vs := []) (v := V.tup []) (.inr rfl) rfl .nil rfl ?_
         exact SafeOps.got (HJ1319 (a25.Pc, 3) h) (.cov ⟨rfl, rfl, upT_nil, (uo (uo (uo upOb_nil))), (upOut_cons rfl (ut (ut upT_nil)) upOut_nil), rfl⟩)
        ·skip
         refine Safe.condN rfl hc1320 ?_
         repeat first|apply sq|apply sk|with_reducible first|apply tn|apply bn
         refine Safe.region ?_
         refine Qf E_good ?_
         refine Qf E_good ?_
         refine Q0 E_good rfl (v := V.ptr [31] 0 0) (.fn rfl) ?_
         refine Q0 E_good rfl (v := V.ptr [31] 0 0) (.fn rfl) ?_
         refine Q0 E_good rfl (v := V.ptr [31] 0 1) (.fn rfl) ?_
         refine SafeOps.store (z := Obj.box [I a25.Kind, I 2, I a25.V, I a25.T, I x38, V.bool a25.Won, I a25.State, V.ref [28] 0 (rws (fun n => [I n]) ([] ++ a34)).length, I a42.Base, I a42.Cap, I v39]) E_good rfl rfl rfl rfl rfl rfl rfl (.boxM (c := 11) rfl rfl (Nat.le_of_ble_eq_true rfl) rfl) ?_
         refine SafeOps.nil ?_
         repeat first|apply sq|apply sk|with_reducible first|apply tn|apply bn
         repeat (first | with_reducible refine thenQ.r ?_ | with_reducible refine blockQ.r ?_)
         refine inQ.gen (vs := []) (v := V.tup []) (.inl rfl) rfl .nil rfl ?_
         exact SafeOps.got (HJ1319 (2, a25.State) h) (.cov ⟨rfl, rfl, upT_nil, (uo (uo (uo upOb_nil))), (upOut_cons rfl (ut (ut upT_nil)) upOut_nil), rfl⟩)
      ·skip
       refine SafeOps.inline E_good rfl rfl rfl rfl rfl Try.func54 rfl (fun _ _ => Try.call54 _ _) rfl ?_
       repeat first|apply sq|apply sk|with_reducible first|apply tn|apply bn
       refine Safe.region ?_
       refine Qf E_good ?_
       refine SafeOps.nil ?_
       repeat first|apply sq|apply sk|with_reducible first|apply tn|apply bn
       refine Safe.region ?_
       refine Qf E_good ?_
       refine Q0 E_good rfl (v := V.bool (!((decide (x38 ≥ 0)) && (decide (x38 ≤ 1099511627776))))) (.fn rfl) ?_
       refine SafeOps.nil ?_
       repeat first|apply sq|apply sk|with_reducible first|apply tn|apply bn
       refine ifG h (fun hc1321 h => ?_) (fun hc1321 h => ?_)
       ·skip
        refine Safe.condK rfl hc1321 ?_
        repeat first|apply sq|apply sk|with_reducible first|apply tn|apply bn
        refine Safe.region ?_
        refine Qf E_good ?_
        refine Q0 E_good rfl (v := V.ptr [31] 0 0) (.fn rfl) ?_
        refine Q0 E_good rfl (v := V.ptr [31] 0 10) (.fn rfl) ?_
        refine SafeOps.store (z := Obj.box [I a25.Kind, I a25.Pc, I a25.V, I a25.T, I a25.B, V.bool a25.Won, I a25.State, V.ref [28] 0 (rws (fun n => [I n]) ([] ++ a34)).length, I a42.Base, I a42.Cap, I 9]) E_good rfl rfl rfl rfl rfl rfl rfl (.boxM (c := 11) rfl rfl (Nat.le_of_ble_eq_true rfl) rfl) ?_
        refine SafeOps.nil ?_
        repeat first|apply sq|apply sk|with_reducible first|apply tn|apply bn
        refine Safe.region ?_
        refine Qf E_good ?_
        refine Qf E_good ?_
        refine SafeOps.nil ?_
        repeat first|apply sq|apply sk|with_reducible first|apply tn|apply bn
        refine Safe.ret ?_
        repeat (first | with_reducible refine thenQ.r ?_ | with_reducible refine blockQ.r ?_)
        refine inQ.gen (vs := [V.bool ((decide (x38 ≥ 0)) && (decide (x38 ≤ 1099511627776)))]) (v := V.bool ((decide (x38 ≥ 0)) && (decide (x38 ≤ 1099511627776)))) (.inr rfl) rfl (.tmp (v := V.bool ((decide (x38 ≥ 0)) && (decide (x38 ≤ 1099511627776)))) rfl .nil) rfl ?_
        exact SafeOps.got (HJ1315 (9) h) (.cov ⟨rfl, rfl, (ut upT_nil), (uo (uo (uo upOb_nil))), (upOut_cons rfl (ut (ut upT_nil)) (upOut_cons rfl (ut (ut upT_nil)) upOut_nil)), rfl⟩)
       ·skip
        refine Safe.condN rfl hc1321 ?_
        repeat first|apply sq|apply sk|with_reducible first|apply tn|apply bn
        refine Safe.region ?_
        refine Qf E_good ?_
        refine Qf E_good ?_
        refine SafeOps.nil ?_
        repeat first|apply sq|apply sk|with_reducible first|apply tn|apply bn
        refine Safe.ret ?_
        repeat (first | with_reducible refine thenQ.r ?_ | with_reducible refine blockQ.r ?_)
        refine inQ.gen (vs := [V.bool ((decide (x38 ≥ 0)) && (decide (x38 ≤ 1099511627776)))]) (v := V.bool ((decide (x38 ≥ 0)) && (decide (x38 ≤ 1099511627776)))) (.inr rfl) rfl (.tmp (v := V.bool ((decide (x38 ≥ 0)) && (decide (x38 ≤ 1099511627776)))) rfl .nil) rfl ?_
        exact SafeOps.got (HJ1315 (v43) h) (.cov ⟨rfl, rfl, (ut upT_nil), (uo (uo (uo upOb_nil))), (upOut_cons rfl (ut (ut upT_nil)) (upOut_cons rfl (ut (ut upT_nil)) upOut_nil)), rfl⟩)
     ·skip
      refine SafeOps.inline E_good rfl rfl rfl rfl rfl Try.func54 rfl (fun _ _ => Try.call54 _ _) rfl ?_
      repeat first|apply sq|apply sk|with_reducible first|apply tn|apply bn
      refine Safe.region ?_
      refine Qf E_good ?_
      refine SafeOps.nil ?_
      repeat first|apply sq|apply sk|with_reducible first|apply tn|apply bn
      refine Safe.region ?_
      refine Qf E_good ?_
      refine Q0 E_good rfl (v := V.bool (!(x131 == 0))) (.fn rfl) ?_
      refine SafeOps.nil ?_
      repeat first|apply sq|apply sk|with_reducible first|apply tn|apply bn
      refine ifG h (fun hc1322 h => ?_) (fun hc1322 h => ?_)
      ·skip
       refine Safe.condK rfl hc1322 ?_
       repeat first|apply sq|apply sk|with_reducible first|apply tn|apply bn
       refine Safe.region ?_
       refine Qf E_good ?_
       refine Q0 E_good rfl (v := V.ptr [31] 0 0) (.fn rfl) ?_
       refine Q0 E_good rfl (v := V.ptr [31] 0 10) (.fn rfl) ?_
       refine SafeOps.store (z := Obj.box [I a25.Kind, I a25.Pc, I a25.V, I a25.T, I a25.B, V.bool a25.Won, I a25.State, V.ref [28] 0 (rws (fun n => [I n]) ([] ++ a34)).length, I a42.Base, I a42.Cap, I 9]) E_good rfl rfl rfl rfl rfl rfl rfl (.boxM (c := 11) rfl rfl (Nat.le_of_ble_eq_true rfl) rfl) ?_
       refine SafeOps.nil ?_
       repeat first|apply sq|apply sk|with_reducible first|apply tn|apply bn
       refine Safe.region ?_
       refine Qf E_good ?_
       refine Qf E_good ?_
       refine SafeOps.nil ?_
       repeat first|apply sq|apply sk|with_reducible first|apply tn|apply bn
       refine Safe.ret ?_
       repeat (first | with_reducible refine thenQ.r ?_ | with_reducible refine blockQ.r ?_)
       refine inQ.gen (vs := [V.bool (x131 == 0)]) (v := V.bool (x131 == 0)) (.inr rfl) rfl (.tmp (v := V.bool (x131 == 0)) rfl .nil) rfl ?_
       exact SafeOps.got (HJ1311 (9) h) (.cov ⟨rfl, rfl, (ut upT_nil), (uo (uo (uo upOb_nil))), (upOut_cons rfl (ut (ut upT_nil)) (upOut_cons rfl (ut (ut upT_nil)) (upOut_cons rfl (ut (ut upT_nil)) upOut_nil))), rfl⟩)
      ·skip
       refine Safe.condN rfl hc1322 ?_
       repeat first|apply sq|apply sk|with_reducible first|apply tn|apply bn
       refine Safe.region ?_
       refine Qf E_good ?_
       refine Qf E_good ?_
       refine SafeOps.nil ?_
       repeat first|apply sq|apply sk|with_reducible first|apply tn|apply bn
       refine Safe.ret ?_
       repeat (first | with_reducible refine thenQ.r ?_ | with_reducible refine blockQ.r ?_)
       refine inQ.gen (vs := [V.bool (x131 == 0)]) (v := V.bool (x131 == 0)) (.inr rfl) rfl (.tmp (v := V.bool (x131 == 0)) rfl .nil) rfl ?_
       exact SafeOps.got (HJ1311 (0) h) (.cov ⟨rfl, rfl, (ut upT_nil), (uo (uo (uo upOb_nil))), (upOut_cons rfl (ut (ut upT_nil)) (upOut_cons rfl (ut (ut upT_nil)) (upOut_cons rfl (ut (ut upT_nil)) upOut_nil))), rfl⟩)
    refine ifP_G h (fun hq1323 h => ?_) (fun _ h => ?_)
    ·skip
     refine SafeOps.see 38 (u := V.fn 39 []) rfl (up_fn hq1323) ?_
     refine SafeOps.inline E_good rfl rfl rfl rfl rfl Try.func39 rfl (fun _ _ => Try.call39 _ _) rfl ?_
     repeat first|apply sq|apply sk|with_reducible first|apply tn|apply bn
     refine Safe.region ?_
     refine Qf E_good ?_
     refine Qf E_good ?_
     refine Q0 E_good rfl (v := V.ptr [31] 0 0) (.fn rfl) ?_
     refine Q0 E_good rfl (v := V.ptr [31] 0 0) (.fn rfl) ?_
     refine Q0 E_good rfl (v := V.ptr [31] 0 4) (.fn rfl) ?_
     refine Q0 E_good rfl (v := I a25.B) (.load rfl rfl (.box rfl rfl) rfl) ?_
     refine Q0 E_good rfl (v := V.bool (decide (a25.B ≥ 0))) (.fn rfl) ?_
     refine SafeOps.joinT 1 (fun (v51 : Int) => go_ring_Step_j95 a34 a42 a25 v51 = some r) (fun (v51 : Int) => ⟨Try.f39.ntmps, [(0, V.ptr [31] 0 0), (9, V.bool (decide (a25.B ≥ 0)))], [([7], Obj.box [I 0, I 0, I 0, I 0, I 0, V.bool false, I 0]), ([28], Obj.rows 1 (rws (fun n => [I n]) ([] ++ a34)) false), ([31], Obj.box [I a25.Kind, I a25.Pc, I a25.V, I a25.T, I a25.B, V.bool a25.Won, I a25.State, V.ref [28] 0 (rws (fun n => [I n]) ([] ++ a34)).length, I a42.Base, I a42.Cap, I v51])], [(Try.f8.ntmps, [(7, V.ptr [7] 0 0), (9, V.ptr [31] 0 0)])], [40]⟩) ?_ (fun HJ1326 => ?_)
     ·intro v51 h
      replace h : go_ring_Step_j95 a34 a42 a25 v51 = some r := h
      rw [go_ring_Step_j95] at h
      refine SafeOps.nil ?_
      repeat first|apply sq|apply sk|with_reducible first|apply tn|apply bn
      refine Safe.joinT (fun ((v44, v45) : (List Int) × Int) => go_ring_Step_j98 a25 v44 v45 = some r) (fun ((v44, v45) : (List Int) × Int) => ⟨Try.f39.ntmps, [(0, V.ptr [31] 0 0)], [([7], Obj.box [I 0, I 0, I 0, I 0, I 0, V.bool false, I 0]), ([31], Obj.box [I a25.Kind, I a25.Pc, I a25.V, I a25.T, I a25.B, V.bool a25.Won, I a25.State, V.ref [7000, 114, 31, 7] 0 (rws (fun n => [I n]) v44).length, I a42.Base, I a42.Cap, I v45]), ([7000, 114, 31, 7], Obj.rows 1 (rws (fun n => [I n]) v44) false)], [(Try.f8.ntmps, [(7, V.ptr [7] 0 0), (9, V.ptr [31] 0 0)])], [40]⟩) ?_ (fun HJ1341 => ?_)
      ·rintro ⟨v44, v45⟩ h
       replace h : go_ring_Step_j98 a25 v44 v45 = some r := h
       rw [go_ring_Step_j98] at h
       repeat first|apply sq|apply sk|with_reducible first|apply tn|apply bn
       refine Safe.region ?_
       refine Qf E_good ?_
       refine Q0 E_good rfl (v := V.ptr [31] 0 0) (.fn rfl) ?_
       refine Q0 E_good rfl (v := V.ptr [31] 0 0) (.fn rfl) ?_
       refine Q0 E_good rfl (v := V.ptr [31] 0 1) (.fn rfl) ?_
       refine Q0 E_good rfl (v := I a25.Pc) (.load rfl rfl (.box rfl rfl) rfl) ?_
       refine Q0 E_good rfl (v := I (IntKind.i64.wrap (a25.Pc + 1))) (.fn rfl) ?_
       refine Q0 E_good rfl (v := V.ptr [31] 0 0) (.fn rfl) ?_
       refine Q0 E_good rfl (v := V.ptr [31] 0 0) (.fn rfl) ?_
       refine Q0 E_good rfl (v := V.ptr [31] 0 1) (.fn rfl) ?_
       refine SafeOps.store (z := Obj.box [I a25.Kind, I (IntKind.i64.wrap (a25.Pc + 1)), I a25.V, I a25.T, I a25.B, V.bool a25.Won, I a25.State, V.ref [7000, 114, 31, 7] 0 (rws (fun n => [I n]) v44).length, I a42.Base, I a42.Cap, I v45]) E_good rfl rfl rfl rfl rfl rfl rfl (.boxM (c := 11) rfl rfl (Nat.le_of_ble_eq_true rfl) rfl) ?_
       refine SafeOps.nil ?_
       repeat first|apply sq|apply sk|with_reducible first|apply tn|apply bn
       repeat (first | with_reducible refine thenQ.r ?_ | with_reducible refine blockQ.r ?_)
       refine inQ.gen (vs := []) (v := V.tup []) (.inl rfl) rfl .nil rfl ?_
       exact SafeOps.got (HJ1246 (IntKind.i64.wrap (a25.Pc + 1), a25.V, a25.T, a25.B, a25.Won, a25.State, v44, v45) h) (.cov ⟨rfl, rfl, (ut (ut upT_nil)), (uo (uo (uo upOb_nil))), upOut_nil, rfl⟩)
      ·skip
       refine ifG h (fun hc1342 h => ?_) (fun hc1342 h => ?_)
       ·skip
        refine Safe.condK rfl hc1342 ?_
        repeat first|apply sq|apply sk|with_reducible first|apply tn|apply bn
        refine Safe.regionD (n := 14) [] [13] E_good mixed rfl ?_
        refine DT 0 [] rfl rfl (fun _ hz => (.fn rfl)) ?_
        refine DT 1 [] rfl rfl (fun _ hz => (.fn rfl)) ?_
        refine DT 2 [] rfl rfl (fun _ hz => (.fn rfl)) ?_
        refine DT 3 [] rfl rfl (v := V.ptr [31] 0 0) (fun _ hz => (.fn rfl)) ?_
        refine DT 4 [] rfl rfl (v := V.ptr [31] 0 0) (fun _ hz => (.fn rfl)) ?_
        refine DT 5 [] rfl rfl (v := V.ptr [31] 0 4) (fun _ hz => (.fn rfl)) ?_
        refine DT 6 [] rfl rfl (v := I a25.B) (fun _ hz => (.load rfl rfl (.box (hz _ _ rfl rfl) rfl) rfl)) ?_
        refine bindG h ?_
        intro x52 he1344 h
        refine DT 7 [] rfl rfl (v := I x52) (fun _ hz => (.callS rfl (.cons (.box (hz _ _ rfl rfl) (.cons (.free rfl) (.cons (.free rfl) (.cons (.free rfl) (.cons (.free rfl) (.cons (.free rfl) (.cons (.free rfl) (.cons (.free rfl) (.cons (.full (hz _ _ rfl rfl) rfl) (.cons (.free rfl) (.cons (.free rfl) (.cons (.free rfl) .nil)))))))))))) (.cons (.free rfl) .nil)) (go_pring_actor_slot_sc (ring_actor.mk a25 ([] ++ a34) a42 v51) a25.B _ he1344) (.plain rfl) rfl)) ?_
        refine DT 8 [] rfl rfl (fun _ hz => (.fn rfl)) ?_
        refine DT 9 [] rfl rfl (v := V.ptr [31] 0 0) (fun _ hz => (.fn rfl)) ?_
        refine DT 10 [] rfl rfl (v := V.ptr [31] 0 0) (fun _ hz => (.fn rfl)) ?_
        refine DT 11 [] rfl rfl (v := V.ptr [31] 0 2) (fun _ hz => (.fn rfl)) ?_
        refine DT 12 [] rfl rfl (v := I a25.V) (fun _ hz => (.load rfl rfl (.box (hz _ _ rfl rfl) rfl) rfl)) ?_
        refine DAny.onlyS (i := 13) rfl (by kernel_rfl) rfl ?_
        refine SafeOps.joinT 1 (fun ((v46, v47) : (List Int) × Int) => go_ring_Step_j100 a25 v46 v47 = some r) (fun ((v46, v47) : (List Int) × Int) => ⟨Try.f39.ntmps, [(0, V.ptr [31] 0 0)], [([7], Obj.box [I 0, I 0, I 0, I 0, I 0, V.bool false, I 0]), ([31], Obj.box [I a25.Kind, I a25.Pc, I a25.V, I a25.T, I a25.B, V.bool a25.Won, I a25.State, V.ref [7000, 114, 31, 7] 0 (rws (fun n => [I n]) v46).length, I a42.Base, I a42.Cap, I v47]), ([7000, 114, 31, 7], Obj.rows 1 (rws (fun n => [I n]) v46) false)], [(Try.f8.ntmps, [(7, V.ptr [7] 0 0), (9, V.ptr [31] 0 0)])], [40]⟩) ?_ (fun HJ1354 => ?_)
        ·rintro ⟨v46, v47⟩ h
         replace h : go_ring_Step_j100 a25 v46 v47 = some r := h
         rw [go_ring_Step_j100] at h
         refine SafeOps.nil ⟨rfl, ?_⟩
         refine DAny.nil (by kernel_rfl) ?_
         repeat (first | refine Safe.skip ?_ | with_reducible refine thenQ.n ?_ | with_reducible refine blockQ.n ?_)
         exact Safe.got (HJ1341 (v46, v47) h) (.cov ⟨rfl, rfl, (ut upT_nil), (uo (uo (uo upOb_nil))), (upOut_cons rfl (ut (ut upT_nil)) upOut_nil), rfl⟩)
        ·skip
         refine SafeOps.inline E_good rfl rfl rfl rfl rfl Try.func57 rfl (fun _ _ => Try.call57 _ _) rfl ?_
         repeat first|apply sq|apply sk|with_reducible first|apply tn|apply bn
         refine Safe.region ?_
         refine Qf E_good ?_
         refine Q0 E_good rfl (v := V.ptr [31] 0 0) (.fn rfl) ?_
         refine Q0 E_good rfl (v := V.ptr [31] 0 7) (.fn rfl) ?_
         refine Q0 E_good rfl (v := V.ref [28] 0 (rws (fun n => [I n]) ([] ++ a34)).length) (.load rfl rfl (.box rfl rfl) rfl) ?_
         refine Qf E_good ?_
         refine Qf E_good ?_
         refine bindG h ?_
         rintro ⟨x48, x49⟩ he1357 h
         refine SafeOps.quiet E_good rfl rfl rfl (v := V.tup [V.ref [40, 23, 15, 0] 0 (rws (fun n => [I n]) x48).length, I x49]) (.callS rfl (.cons (.full rfl rfl) (.cons (.free rfl) (.cons (.free rfl) .nil))) (go_cell_Store_sc ([] ++ a34) x52 a25.V _ he1357) (.tupL (.cons (.ownM (fun _ => rfl)) (.cons (.plain rfl) .nil))) rfl) rfl ?_
         refine Qf E_good ?_
         refine Qf E_good ?_
         refine Qf E_good ?_
         refine Qf E_good ?_
         refine Qf E_good ?_
         refine SafeOps.nil ?_
         repeat first|apply sq|apply sk|with_reducible first|apply tn|apply bn
         refine Safe.region ?_
         refine Qf E_good ?_
         refine Qf E_good ?_
         refine Q0 E_good rfl (v := V.bool (x49 == 0)) (.fn rfl) ?_
         refine SafeOps.joinT 1 (fun (v50 : Int) => go_ring_Step_j101 a34 a25 x48 x49 v50 = some r) (fun (v50 : Int) => ⟨Try.f57.ntmps, [(0, V.ptr [31] 0 0), (6, V.ref [40, 23, 15, 0] 0 (rws (fun n => [I n]) x48).length), (21, V.bool (x49 == 0))], [([7], Obj.box [I 0, I 0, I 0, I 0, I 0, V.bool false, I 0]), ([28], Obj.rows 1 (rws (fun n => [I n]) ([] ++ a34)) false), ([31], Obj.box [I a25.Kind, I a25.Pc, I a25.V, I a25.T, I a25.B, V.bool a25.Won, I a25.State, V.ref [28] 0 (rws (fun n => [I n]) ([] ++ a34)).length, I a42.Base, I a42.Cap, I v50]), ([40, 23, 15, 0], Obj.rows 1 (rws (fun n => [I n]) x48) false)], [(Try.f39.ntmps, [(0, V.ptr [31] 0 0)]), (Try.f8.ntmps, [(7, V.ptr [7] 0 0), (9, V.ptr [31] 0 0)])], [40, 23]⟩) ?_ (fun HJ1360 => ?_)
         ·intro v50 h
          replace h : go_ring_Step_j101 a34 a25 x48 x49 v50 = some r := h
          rw [go_ring_Step_j101] at h
          refine SafeOps.nil ?_
          repeat first|apply sq|apply sk|with_reducible first|apply tn|apply bn
          refine ifG h (fun hc1361 h => ?_) (fun hc1361 h => ?_)
          ·skip
           refine Safe.condK rfl hc1361 ?_
           repeat first|apply sq|apply sk|with_reducible first|apply tn|apply bn
           refine Safe.region ?_
           refine Qf E_good ?_
           refine Qf E_good ?_
           refine Q0 E_good rfl (v := V.ptr [31] 0 0) (.fn rfl) ?_
           refine Q0 E_good rfl (v := V.ptr [31] 0 7) (.fn rfl) ?_
           refine SafeOps.store (z := Obj.box [I a25.Kind, I a25.Pc, I a25.V, I a25.T, I a25.B, V.bool a25.Won, I a25.State, V.ref [40, 23, 15, 0] 0 (rws (fun n => [I n]) x48).length, I a42.Base, I a42.Cap, I v50]) E_good rfl rfl rfl rfl rfl rfl rfl (.boxM (c := 11) rfl rfl (Nat.le_of_ble_eq_true rfl) rfl) ?_
           refine SafeOps.nil ?_
           repeat first|apply sq|apply sk|with_reducible first|apply tn|apply bn
           repeat (first | with_reducible refine thenQ.r ?_ | with_reducible refine blockQ.r ?_)
           refine inQ.gen (vs := []) (v := V.tup []) (.inl rfl) rfl .nil rfl ?_
           exact SafeOps.got (HJ1354 (x48, v50) h) (.ren [40, 23, 15, 0] [7000, 114, 31, 7] (.cov ⟨rfl, rfl, (ut upT_nil), (uo (uo (uo upOb_nil))), (upOut_cons rfl (ut (ut upT_nil)) upOut_nil), rfl⟩))
          ·skip
           refine Safe.condN rfl hc1361 ?_
           repeat first|apply sq|apply sk|with_reducible first|apply tn|apply bn
           repeat (first | with_reducible refine thenQ.r ?_ | with_reducible refine blockQ.r ?_)
           refine inQ.gen (vs := []) (v := V.tup []) (.inl rfl) rfl .nil rfl ?_
           exact SafeOps.got (HJ1354 ([] ++ a34, v50) h) (.ren [28] [7000, 114, 31, 7] (.cov ⟨rfl, rfl, (ut upT_nil), (uo (uo (uo upOb_nil))), (upOut_cons rfl (ut (ut upT_nil)) upOut_nil), rfl⟩))
         ·skip
          refine SafeOps.inline E_good rfl rfl rfl rfl rfl Try.func54 rfl (fun _ _ => Try.call54 _ _) rfl ?_
          repeat first|apply sq|apply sk|with_reducible first|apply tn|apply bn
          refine Safe.region ?_
          refine Qf E_good ?_
          refine SafeOps.nil ?_
          repeat first|apply sq|apply sk|with_reducible first|apply tn|apply bn
          refine Safe.region ?_
          refine Qf E_good ?_
          refine Q0 E_good rfl (v := V.bool (!(x49 == 0))) (.fn rfl) ?_
          refine SafeOps.nil ?_
          repeat first|apply sq|apply sk|with_reducible first|apply tn|apply bn
          refine ifG h (fun hc1362 h => ?_) (fun hc1362 h => ?_)
          ·skip
           refine Safe.condK rfl hc1362 ?_
           repeat first|apply sq|apply sk|with_reducible first|apply tn|apply bn
           refine Safe.region ?_
           refine Qf E_good ?_
           refine Q0 E_good rfl (v := V.ptr [31] 0 0) (.fn rfl) ?_
           refine Q0 E_good rfl (v := V.ptr [31] 0 10) (.fn rfl) ?_
           refine SafeOps.store (z := Obj.box [I a25.Kind, I a25.Pc, I a25.V, I a25.T, I a25.B, V.bool a25.Won, I a25.State, V.ref [28] 0 (rws (fun n => [I n]) ([] ++ a34)).length, I a42.Base, I a42.Cap, I 9]) E_good rfl rfl rfl rfl rfl rfl rfl (.boxM (c := 11) rfl rfl (Nat.le_of_ble_eq_true rfl) rfl) ?_
           refine SafeOps.nil ?_
           repeat first|apply sq|apply sk|with_reducible first|apply tn|apply bn
           refine Safe.region ?_
           refine Qf E_good ?_
           refine Qf E_good ?_
           refine SafeOps.nil ?_
           repeat first|apply sq|apply sk|with_reducible first|apply tn|apply bn
           refine Safe.ret ?_
           repeat (first | with_reducible refine thenQ.r ?_ | with_reducible refine blockQ.r ?_)
           refine inQ.gen (vs := [V.bool (x49 == 0)]) (v := V.bool (x49 == 0)) (.inr rfl) rfl (.tmp (v := V.bool (x49 == 0)) rfl .nil) rfl ?_
           exact SafeOps.got (HJ1360 (9) h) (.cov ⟨rfl, rfl, (ut (ut (ut upT_nil))), (uo (uo (uo (uo upOb_nil)))), (upOut_cons rfl (ut upT_nil) (upOut_cons rfl (ut (ut upT_nil)) upOut_nil)), rfl⟩)
          ·skip
           refine Safe.condN rfl hc1362 ?_
           repeat first|apply sq|apply sk|with_reducible first|apply tn|apply bn
           refine Safe.region ?_
           refine Qf E_good ?_
           refine Qf E_good ?_
           refine SafeOps.nil ?_
           repeat first|apply sq|apply sk|with_reducible first|apply tn|apply bn
           refine Safe.ret ?_
           repeat (first | with_reducible refine thenQ.r ?_ | with_reducible refine blockQ.r ?_)
           refine inQ.gen (vs := [V.bool (x49 == 0)]) (v := V.bool (x49 == 0)) (.inr rfl) rfl (.tmp (v := V.bool (x49 == 0)) rfl .nil) rfl ?_
           exact SafeOps.got (HJ1360 (v51) h) (.cov ⟨rfl, rfl, (ut (ut (ut upT_nil))), (uo (uo (uo (uo upOb_nil)))), (upOut_cons rfl (ut upT_nil) (upOut_cons rfl (ut (ut upT_nil)) upOut_nil)), rfl⟩)
       ·skip
        refine Safe.condN rfl hc1342 ?_
        repeat (first | refine Safe.skip ?_ | with_reducible refine thenQ.n ?_ | with_reducible refine blockQ.n ?_)
        exact Safe.got (HJ1341 ([] ++ a34, v51) h) (.ren [28] [7000, 114, 31, 7] (.cov ⟨rfl, rfl, (ut upT_nil), (uo (uo (uo upOb_nil))), (upOut_cons rfl (ut (ut upT_nil)) upOut_nil), rfl⟩))
     ·skip
      refine SafeOps.inline E_good rfl rfl rfl rfl rfl Try.func54 rfl (fun _ _ => Try.call54 _ _) rfl ?_
      repeat first|apply sq|apply sk|with_reducible first|apply tn|apply bn
      refine Safe.region ?_
      refine Qf E_good ?_
      refine SafeOps.nil ?_
      repeat first|apply sq|apply sk|with_reducible first|apply tn|apply bn
      refine Safe.region ?_
      refine Qf E_good ?_
      refine Q0 E_good rfl (v := V.bool (!(decide (a25.B ≥ 0)))) (.fn rfl) ?_
      refine SafeOps.nil ?_
      repeat first|apply sq|apply sk|with_reducible first|apply tn|apply bn
      refine ifG h (fun hc1363 h => ?_) (fun hc1363 h => ?_)
      ·skip
       refine Safe.condK rfl hc1363 ?_
       repeat first|apply sq|apply sk|with_reducible first|apply tn|apply bn
       refine Safe.region ?_
       refine Qf E_good ?_
       refine Q0 E_good rfl (v := V.ptr [31] 0 0) (.fn rfl) ?_
       refine Q0 E_good rfl (v := V.ptr [31] 0 10) (.fn rfl) ?_
       refine SafeOps.store (z := Obj.box [I a25.Kind, I a25.Pc, I a25.V, I a25.T, I a25.B, V.bool a25.Won, I a25.State, V.ref [28] 0 (rws (fun n => [I n]) ([] ++ a34)).length, I a42.Base, I a42.Cap, I 9]) E_good rfl rfl rfl rfl rfl rfl rfl (.boxM (c := 11) rfl rfl (Nat.le_of_ble_eq_true rfl) rfl) ?_
       refine SafeOps.nil ?_
       repeat first|apply sq|apply sk|with_reducible first|apply tn|apply bn
       refine Safe.region ?_
       refine Qf E_good ?_
       refine Qf E_good ?_
       refine SafeOps.nil ?_
       repeat first|apply sq|apply sk|with_reducible first|apply tn|apply bn
       refine Safe.ret ?_
       repeat (first | with_reducible refine thenQ.r ?_ | with_reducible refine blockQ.r ?_)
       refine inQ.gen (vs := [V.bool (decide (a25.B ≥ 0))]) (v := V.bool (decide (a25.B ≥ 0))) (.inr rfl) rfl (.tmp (v := V.bool (decide (a25.B ≥ 0))) rfl .nil) rfl ?_
       exact SafeOps.got (HJ1326 (9) h) (.cov ⟨rfl, rfl, (ut (ut upT_nil)), (uo (uo (uo upOb_nil))), (upOut_cons rfl (ut (ut upT_nil)) upOut_nil), rfl⟩)
      ·skip
       refine Safe.condN rfl hc1363 ?_
       repeat first|apply sq|apply sk|with_reducible first|apply tn|apply bn
       refine Safe.region ?_
       refine Qf E_good ?_
       refine Qf E_good ?_
       refine SafeOps.nil ?_
       repeat first|apply sq|apply sk|with_reducible first|apply tn|apply bn
       refine Safe.ret ?_
       repeat (first | with_reducible refine thenQ.r ?_ | with_reducible refine blockQ.r ?_)
       refine inQ.gen (vs := [V.bool (decide (a25.B ≥ 0))]) (v := V.bool (decide (a25.B ≥ 0))) (.inr rfl) rfl (.tmp (v := V.bool (decide (a25.B ≥ 0))) rfl .nil) rfl ?_
       exact SafeOps.got (HJ1326 (0) h) (.cov ⟨rfl, rfl, (ut (ut upT_nil)), (uo (uo (uo upOb_nil))), (upOut_cons rfl (ut (ut upT_nil)) upOut_nil), rfl⟩)
    refine ifP_G h (fun hq1364 h => ?_) (fun _ h => ?_)
    ·skip
     refine SafeOps.see 38 (u := V.fn 40 []) rfl (up_fn hq1364) ?_
     refine SafeOps.inline E_good rfl rfl rfl rfl rfl Try.func40 rfl (fun _ _ => Try.call40 _ _) rfl ?_
     repeat first|apply sq|apply sk|with_reducible first|apply tn|apply bn
     refine Safe.region ?_
     refine Qf E_good ?_
     refine Qf E_good ?_
     refine Q0 E_good rfl (v := V.ptr [31] 0 0) (.fn rfl) ?_
     refine Q0 E_good rfl (v := V.ptr [31] 0 0) (.fn rfl) ?_
     refine Q0 E_good rfl (v := V.ptr [31] 0 4) (.fn rfl) ?_
     refine Q0 E_good rfl (v := I a25.B) (.load rfl rfl (.box rfl rfl) rfl) ?_
     refine Q0 E_good rfl (v := V.bool (decide (a25.B ≥ 0))) (.fn rfl) ?_
     refine SafeOps.joinT 1 (fun (v60 : Int) => go_ring_Step_j102 a34 a42 a25 v60 = some r) (fun (v60 : Int) => ⟨Try.f40.ntmps, [(0, V.ptr [31] 0 0), (9, V.bool (decide (a25.B ≥ 0)))], [([7], Obj.box [I 0, I 0, I 0, I 0, I 0, V.bool false, I 0]), ([28], Obj.rows 1 (rws (fun n => [I n]) ([] ++ a34)) false), ([31], Obj.box [I a25.Kind, I a25.Pc, I a25.V, I a25.T, I a25.B, V.bool a25.Won, I a25.State, V.ref [28] 0 (rws (fun n => [I n]) ([] ++ a34)).length, I a42.Base, I a42.Cap, I v60])], [(Try.f8.ntmps, [(7, V.ptr [7] 0 0), (9, V.ptr [31] 0 0)])], [40]⟩) ?_ (fun HJ1367 => ?_)
     ·intro v60 h
      replace h : go_ring_Step_j102 a34 a42 a25 v60 = some r := h
      rw [go_ring_Step_j102] at h
      refine SafeOps.nil ?_
      repeat first|apply sq|apply sk|with_reducible first|apply tn|apply bn
      refine Safe.joinT (fun ((v53, v54) : (List Int) × Int) => go_ring_Step_j105 a25 v53 v54 = some r) (fun ((v53, v54) : (List Int) × Int) => ⟨Try.f40.ntmps, [(0, V.ptr [31] 0 0)], [([7], Obj.box [I 0, I 0, I 0, I 0, I 0, V.bool false, I 0]), ([31], Obj.box [I a25.Kind, I a25.Pc, I a25.V, I a25.T, I a25.B, V.bool a25.Won, I a25.State, V.ref [7000, 114, 31, 7] 0 (rws (fun n => [I n]) v53).length, I a42.Base, I a42.Cap, I v54]), ([7000, 114, 31, 7], Obj.rows 1 (rws (fun n => [I n]) v53) false)], [(Try.f8.ntmps, [(7, V.ptr [7] 0 0), (9, V.ptr [31] 0 0)])], [40]⟩) ?_ (fun HJ1380 => ?_)
      ·rintro ⟨v53, v54⟩ h
       replace h : go_ring_Step_j105 a25 v53 v54 = some r := h
       rw [go_ring_Step_j105] at h
       repeat first|apply sq|apply sk|with_reducible first|apply tn|apply bn
       refine Safe.region ?_
       refine Qf E_good ?_
       refine Q0 E_good rfl (v := V.ptr [31] 0 0) (.fn rfl) ?_
       refine Q0 E_good rfl (v := V.ptr [31] 0 0) (.fn rfl) ?_
       refine Q0 E_good rfl (v := V.ptr [31] 0 6) (.fn rfl) ?_
       refine SafeOps.store (z := Obj.box [I a25.Kind, I a25.Pc, I a25.V, I a25.T, I a25.B, V.bool a25.Won, I 1, V.ref [7000, 114, 31, 7] 0 (rws (fun n => [I n]) v53).length, I a42.Base, I a42.Cap, I v54]) E_good rfl rfl rfl rfl rfl rfl rfl (.boxM (c := 11) rfl rfl (Nat.le_of_ble_eq_true rfl) rfl) ?_
       refine SafeOps.nil ?_
       repeat first|apply sq|apply sk|with_reducible first|apply tn|apply bn
       repeat (first | with_reducible refine thenQ.r ?_ | with_reducible refine blockQ.r ?_)
       refine inQ.gen (vs := []) (v := V.tup []) (.inl rfl) rfl .nil rfl ?_
       exact SafeOps.got (HJ1246 (a25.Pc, a25.V, a25.T, a25.B, a25.Won, 1, v53, v54) h) (.cov ⟨rfl, rfl, (ut (ut upT_nil)), (uo (uo (uo upOb_nil))), upOut_nil, rfl⟩)
      ·skip
       refine ifG h (fun hc1381 h => ?_) (fun hc1381 h => ?_)
       ·skip
        refine Safe.condK rfl hc1381 ?_
        repeat first|apply sq|apply sk|with_reducible first|apply tn|apply bn
        refine Safe.regionD (n := 10) [] [9] E_good mixed rfl ?_
        refine DT 0 [] rfl rfl (fun _ hz => (.fn rfl)) ?_
        refine DT 1 [] rfl rfl (fun _ hz => (.fn rfl)) ?_
        refine DT 2 [] rfl rfl (v := I (go_pring_actor_bottom (ring_actor.mk a25 ([] ++ a34) a42 v60))) (fun _ hz => (.callS rfl (.cons (.box (hz _ _ rfl rfl) (.cons (.free rfl) (.cons (.free rfl) (.cons (.free rfl) (.cons (.free rfl) (.cons (.free rfl) (.cons (.free rfl) (.cons (.free rfl) (.cons (.full (hz _ _ rfl rfl) rfl) (.cons (.free rfl) (.cons (.free rfl) (.cons (.free rfl) .nil)))))))))))) .nil) (go_pring_actor_bottom_sc (ring_actor.mk a25 ([] ++ a34) a42 v60) _ rfl) (.plain rfl) rfl)) ?_
        refine DT 3 [] rfl rfl (fun _ hz => (.fn rfl)) ?_
        refine DT 4 [] rfl rfl (v := V.ptr [31] 0 0) (fun _ hz => (.fn rfl)) ?_
        refine DT 5 [] rfl rfl (v := V.ptr [31] 0 0) (fun _ hz => (.fn rfl)) ?_
        refine DT 6 [] rfl rfl (v := V.ptr [31] 0 4) (fun _ hz => (.fn rfl)) ?_
        refine DT 7 [] rfl rfl (v := I a25.B) (fun _ hz => (.load rfl rfl (.box (hz _ _ rfl rfl) rfl) rfl)) ?_
        refine DT 8 [] rfl rfl (v := I (IntKind.i64.wrap (a25.B + 1))) (fun _ hz => (.fn rfl)) ?_
        refine DAny.onlyS (i := 9) rfl (by kernel_rfl) rfl ?_
        refine SafeOps.joinT 1 (fun ((v55, v56) : (List Int) × Int) => go_ring_Step_j107 a25 v55 v56 = some r) (fun ((v55, v56) : (List Int) × Int) => ⟨Try.f40.ntmps, [(0, V.ptr [31] 0 0)], [([7], Obj.box [I 0, I 0, I 0, I 0, I 0, V.bool false, I 0]), ([31], Obj.box [I a25.Kind, I a25.Pc, I a25.V, I a25.T, I a25.B, V.bool a25.Won, I a25.State, V.ref [7000, 114, 31, 7] 0 (rws (fun n => [I n]) v55).length, I a42.Base, I a42.Cap, I v56]), ([7000, 114, 31, 7], Obj.rows 1 (rws (fun n => [I n]) v55) false)], [(Try.f8.ntmps, [(7, V.ptr [7] 0 0), (9, V.ptr [31] 0 0)])], [40]⟩) ?_ (fun HJ1391 => ?_)
        ·rintro ⟨v55, v56⟩ h
         replace h : go_ring_Step_j107 a25 v55 v56 = some r := h
         rw [go_ring_Step_j107] at h
         refine SafeOps.nil ⟨rfl, ?_⟩
         refine DAny.nil (by kernel_rfl) ?_
         repeat (first | refine Safe.skip ?_ | with_reducible refine thenQ.n ?_ | with_reducible refine blockQ.n ?_)
         exact Safe.got (HJ1380 (v55, v56) h) (.cov ⟨rfl, rfl, (ut upT_nil), (uo (uo (uo upOb_nil))), (upOut_cons rfl (ut (ut upT_nil)) upOut_nil), rfl⟩)
        ·skip
         refine SafeOps.inline E_good rfl rfl rfl rfl rfl Try.func57 rfl (fun _ _ => Try.call57 _ _) rfl ?_
         repeat first|apply sq|apply sk|with_reducible first|apply tn|apply bn
         refine Safe.region ?_
         refine Qf E_good ?_
         refine Q0 E_good rfl (v := V.ptr [31] 0 0) (.fn rfl) ?_
         refine Q0 E_good rfl (v := V.ptr [31] 0 7) (.fn rfl) ?_
         refine Q0 E_good rfl (v := V.ref [28] 0 (rws (fun n => [I n]) ([] ++ a34)).length) (.load rfl rfl (.box rfl rfl) rfl) ?_
         refine Qf E_good ?_
         refine Qf E_good ?_
         refine bindG h ?_
         rintro ⟨x57, x58⟩ he1394 h
         refine SafeOps.quiet E_good rfl rfl rfl (v := V.tup [V.ref [40, 19, 15, 0] 0 (rws (fun n => [I n]) x57).length, I x58]) (.callS rfl (.cons (.full rfl rfl) (.cons (.free rfl) (.cons (.free rfl) .nil))) (go_cell_Store_sc ([] ++ a34) (go_pring_actor_bottom (ring_actor.mk a25 ([] ++ a34) a42 v60)) (IntKind.i64.wrap (a25.B + 1)) _ he1394) (.tupL (.cons (.ownM (fun _ => rfl)) (.cons (.plain rfl) .nil))) rfl) rfl ?_
         refine Qf E_good ?_
         refine Qf E_good ?_
         refine Qf E_good ?_
         refine Qf E_good ?_
         refine Qf E_good ?_
         refine SafeOps.nil ?_
         repeat first|apply sq|apply sk|with_reducible first|apply tn|apply bn
         refine Safe.region ?_
         refine Qf E_good ?_
         refine Qf E_good ?_
         refine Q0 E_good rfl (v := V.bool (x58 == 0)) (.fn rfl) ?_
         refine SafeOps.joinT 1 (fun (v59 : Int) => go_ring_Step_j108 a34 a25 x57 x58 v59 = some r) (fun (v59 : Int) => ⟨Try.f57.ntmps, [(0, V.ptr [31] 0 0), (6, V.ref [40, 19, 15, 0] 0 (rws (fun n => [I n]) x57).length), (21, V.bool (x58 == 0))], [([7], Obj.box [I 0, I 0, I 0, I 0, I 0, V.bool false, I 0]), ([28], Obj.rows 1 (rws (fun n => [I n]) ([] ++ a34)) false), ([31], Obj.box [I a25.Kind, I a25.Pc, I a25.V, I a25.T, I a25.B, V.bool a25.Won, I a25.State, V.ref [28] 0 (rws (fun n => [I n]) ([] ++ a34)).length, I a42.Base, I a42.Cap, I v59]), ([40, 19, 15, 0], Obj.rows 1 (rws (fun n => [I n]) x57) false)], [(Try.f40.ntmps, [(0, V.ptr [31] 0 0)]), (Try.f8.ntmps, [(7, V.ptr [7] 0 0), (9, V.ptr [31] 0 0)])], [40, 19]⟩) ?_ (fun HJ1397 => ?_)
         ·intro v59 h
          replace h : go_ring_Step_j108 a34 a25 x57 x58 v59 = some r := h
          rw [go_ring_Step_j108] at h
          refine SafeOps.nil ?_
          repeat first|apply sq|apply sk|with_reducible first|apply tn|apply bn
          refine ifG h (fun hc1398 h => ?_) (fun hc1398 h => ?_)
          ·skip
           refine Safe.condK rfl hc1398 ?_
           repeat first|apply sq|apply sk|with_reducible first|apply tn|apply bn
           refine Safe.region ?_
           refine Qf E_good ?_
           refine Qf E_good ?_
           refine Q0 E_good rfl (v := V.ptr [31] 0 0) (.fn rfl) ?_
           refine Q0 E_good rfl (v := V.ptr [31] 0 7) (.fn rfl) ?_
           refine SafeOps.store (z := Obj.box [I a25.Kind, I a25.Pc, I a25.V, I a25.T, I a25.B, V.bool a25.Won, I a25.State, V.ref [40, 19, 15, 0] 0 (rws (fun n => [I n]) x57).length, I a42.Base, I a42.Cap, I v59]) E_good rfl rfl rfl rfl rfl rfl rfl (.boxM (c := 11) rfl rfl (Nat.le_of_ble_eq_true rfl) rfl) ?_
           refine SafeOps.nil ?_
           repeat first|apply sq|apply sk|with_reducible first|apply tn|apply bn
           repeat (first | with_reducible refine thenQ.r ?_ | with_reducible refine blockQ.r ?_)
           refine inQ.gen (vs := []) (v := V.tup []) (.inl rfl) rfl .nil rfl ?_
           exact SafeOps.got (HJ1391 (x57, v59) h) (.ren [40, 19, 15, 0] [7000, 114, 31, 7] (.cov ⟨rfl, rfl, (ut upT_nil), (uo (uo (uo upOb_nil))), (upOut_cons rfl (ut (ut upT_nil)) upOut_nil), rfl⟩))
          ·skip
           refine Safe.condN rfl hc1398 ?_
           repeat first|apply sq|apply sk|with_reducible first|apply tn|apply bn
           repeat (first | with_reducible refine thenQ.r ?_ | with_reducible refine blockQ.r ?_)
           refine inQ.gen (vs := []) (v := V.tup []) (.inl rfl) rfl .nil rfl ?_
           exact SafeOps.got (HJ1391 ([] ++ a34, v59) h) (.ren [28] [7000, 114, 31, 7] (.cov ⟨rfl, rfl, (ut upT_nil), (uo (uo (uo upOb_nil))), (upOut_cons rfl (ut (ut upT_nil)) upOut_nil), rfl⟩))
         ·skip
          refine SafeOps.inline E_good rfl rfl rfl rfl rfl Try.func54 rfl (fun _ _ => Try.call54 _ _) rfl ?_
          repeat first|apply sq|apply sk|with_reducible first|apply tn|apply bn
          refine Safe.region ?_
          refine Qf E_good ?_
          refine SafeOps.nil ?_
          repeat first|apply sq|apply sk|with_reducible first|apply tn|apply bn
          refine Safe.region ?_
          refine Qf E_good ?_
          refine Q0 E_good rfl (v := V.bool (!(x58 == 0))) (.fn rfl) ?_
          refine SafeOps.nil ?_
          repeat first|apply sq|apply sk|with_reducible first|apply tn|apply bn
          refine ifG h (fun hc1399 h => ?_) (fun hc1399 h => ?_)
          ·skip
           refine Safe.condK rfl hc1399 ?_
           repeat first|apply sq|apply sk|with_reducible first|apply tn|apply bn
           refine Safe.region ?_
           refine Qf E_good ?_
           refine Q0 E_good rfl (v := V.ptr [31] 0 0) (.fn rfl) ?_
           refine Q0 E_good rfl (v := V.ptr [31] 0 10) (.fn rfl) ?_
           refine SafeOps.store (z := Obj.box [I a25.Kind, I a25.Pc, I a25.V, I a25.T, I a25.B, V.bool a25.Won, I a25.State, V.ref [28] 0 (rws (fun n => [I n]) ([] ++ a34)).length, I a42.Base, I a42.Cap, I 9]) E_good rfl rfl rfl rfl rfl rfl rfl (.boxM (c := 11) rfl rfl (Nat.le_of_ble_eq_true rfl) rfl) ?_
           refine SafeOps.nil ?_
           repeat first|apply sq|apply sk|with_reducible first|apply tn|apply bn
           refine Safe.region ?_
           refine Qf E_good ?_
           refine Qf E_good ?_
           refine SafeOps.nil ?_
           repeat first|apply sq|apply sk|with_reducible first|apply tn|apply bn
           refine Safe.ret ?_
           repeat (first | with_reducible refine thenQ.r ?_ | with_reducible refine blockQ.r ?_)
           refine inQ.gen (vs := [V.bool (x58 == 0)]) (v := V.bool (x58 == 0)) (.inr rfl) rfl (.tmp (v := V.bool (x58 == 0)) rfl .nil) rfl ?_
           exact SafeOps.got (HJ1397 (9) h) (.cov ⟨rfl, rfl, (ut (ut (ut upT_nil))), (uo (uo (uo (uo upOb_nil)))), (upOut_cons rfl (ut upT_nil) (upOut_cons rfl (ut (ut upT_nil)) upOut_nil)), rfl⟩)
          ·skip
           refine Safe.condN rfl hc1399 ?_
           repeat first|apply sq|apply sk|with_reducible first|apply tn|apply bn
           refine Safe.region ?_
           refine Qf E_good ?_
           refine Qf E_good ?_
           refine SafeOps.nil ?_
           repeat first|apply sq|apply sk|with_reducible first|apply tn|apply bn
           refine Safe.ret ?_
           repeat (first | with_reducible refine thenQ.r ?_ | with_reducible refine blockQ.r ?_)
           refine inQ.gen (vs := [V.bool (x58 == 0)]) (v := V.bool (x58 == 0)) (.inr rfl) rfl (.tmp (v := V.bool (x58 == 0)) rfl .nil) rfl ?_
           exact SafeOps.got (HJ1397 (v60) h) (.cov ⟨rfl, rfl, (ut (ut (ut upT_nil))), (uo (uo (uo (uo upOb_nil)))), (upOut_cons rfl (ut upT_nil) (upOut_cons rfl (ut (ut upT_nil)) upOut_nil)), rfl⟩)
       ·skip
        refine Safe.condN rfl hc1381 ?_
        repeat (first | refine Safe.skip ?_ | with_reducible refine thenQ.n ?_ | with_reducible refine blockQ.n ?_)
        exact Safe.got (HJ1380 ([] ++ a34, v60) h) (.ren [28] [7000, 114, 31, 7] (.cov ⟨rfl, rfl, (ut upT_nil), (uo (uo (uo upOb_nil))), (upOut_cons rfl (ut (ut upT_nil)) upOut_nil), rfl⟩))
     ·skip
      refine SafeOps.inline E_good rfl rfl rfl rfl rfl Try.func54 rfl (fun _ _ => Try.call54 _ _) rfl ?_
      repeat first|apply sq|apply sk|with_reducible first|apply tn|apply bn
      refine Safe.region ?_
      refine Qf E_good ?_
      refine SafeOps.nil ?_
      repeat first|apply sq|apply sk|with_reducible first|apply tn|apply bn
      refine Safe.region ?_
      refine Qf E_good ?_
      refine Q0 E_good rfl (v := V.bool (!(decide (a25.B ≥ 0)))) (.fn rfl) ?_
      refine SafeOps.nil ?_
      repeat first|apply sq|apply sk|with_reducible first|apply tn|apply bn
      refine ifG h (fun hc1400 h => ?_) (fun hc1400 h => ?_)
      ·skip
       refine Safe.condK rfl hc1400 ?_
       repeat first|apply sq|apply sk|with_reducible first|apply tn|apply bn
       refine Safe.region ?_
       refine Qf E_good ?_
       refine Q0 E_good rfl (v := V.ptr [31] 0 0) (.fn rfl) ?_
       refine Q0 E_good rfl (v := V.ptr [31] 0 10) (.fn rfl) ?_
       refine SafeOps.store (z := Obj.box [I a25.Kind, I a25.Pc, I a25.V, I a25.T, I a25.B, V.bool a25.Won, I a25.State, V.ref [28] 0 (rws (fun n => [I n]) ([] ++ a34)).length, I a42.Base, I a42.Cap, I 9]) E_good rfl rfl rfl rfl rfl rfl rfl (.boxM (c := 11) rfl rfl (Nat.le_of_ble_eq_true rfl) rfl) ?_
       refine SafeOps.nil ?_
       repeat first|apply sq|apply sk|with_reducible first|apply tn|apply bn
       refine Safe.region ?_
       refine Qf E_good ?_
       refine Qf E_good ?_
       refine SafeOps.nil ?_
       repeat first|apply sq|apply sk|with_reducible first|apply tn|apply bn
       refine Safe.ret ?_
       repeat (first | with_reducible refine thenQ.r ?_ | with_reducible refine blockQ.r ?_)
       refine inQ.gen (vs := [V.bool (decide (a25.B ≥ 0))]) (v := V.bool (decide (a25.B ≥ 0))) (.inr rfl) rfl (.tmp (v := V.bool (decide (a25.B ≥ 0))) rfl .nil) rfl ?_
       exact SafeOps.got (HJ1367 (9) h) (.cov ⟨rfl, rfl, (ut (ut upT_nil)), (uo (uo (uo upOb_nil))), (upOut_cons rfl (ut (ut upT_nil)) upOut_nil), rfl⟩)
      ·skip
       refine Safe.condN rfl hc1400 ?_
       repeat first|apply sq|apply sk|with_reducible first|apply tn|apply bn
       refine Safe.region ?_
       refine Qf E_good ?_
       refine Qf E_good ?_
       refine SafeOps.nil ?_
       repeat first|apply sq|apply sk|with_reducible first|apply tn|apply bn
       refine Safe.ret ?_
       repeat (first | with_reducible refine thenQ.r ?_ | with_reducible refine blockQ.r ?_)
       refine inQ.gen (vs := [V.bool (decide (a25.B ≥ 0))]) (v := V.bool (decide (a25.B ≥ 0))) (.inr rfl) rfl (.tmp (v := V.bool (decide (a25.B ≥ 0))) rfl .nil) rfl ?_
       exact SafeOps.got (HJ1367 (0) h) (.cov ⟨rfl, rfl, (ut (ut upT_nil)), (uo (uo (uo upOb_nil))), (upOut_cons rfl (ut (ut upT_nil)) upOut_nil), rfl⟩)
    refine ifP_G h (fun hq1401 h => ?_) (fun _ h => ?_)
    ·skip
     refine SafeOps.see 38 (u := V.fn 41 []) rfl (up_fn hq1401) ?_
     refine SafeOps.inline E_good rfl rfl rfl rfl rfl Try.func41 rfl (fun _ _ => Try.call41 _ _) rfl ?_
     repeat first|apply sq|apply sk|with_reducible first|apply tn|apply bn
     refine Safe.region ?_
     refine Qf E_good ?_
     refine Qf E_good ?_
     refine Qf E_good ?_
     refine Q0 E_good rfl (v := I (go_pring_actor_bottom (ring_actor.mk a25 ([] ++ a34) a42 0))) (.callS rfl (.cons (.box rfl (.cons (.free rfl) (.cons (.free rfl) (.cons (.free rfl) (.cons (.free rfl) (.cons (.free rfl) (.cons (.free rfl) (.cons (.free rfl) (.cons (.full rfl rfl) (.cons (.free rfl) (.cons (.free rfl) (.cons (.free rfl) .nil)))))))))))) .nil) (go_pring_actor_bottom_sc (ring_actor.mk a25 ([] ++ a34) a42 0) _ rfl) (.plain rfl) rfl) ?_
     refine SafeOps.inline E_good rfl rfl rfl rfl rfl Try.func28 rfl (fun _ _ => Try.call28 _ _) rfl ?_
     repeat first|apply sq|apply sk|with_reducible first|apply tn|apply bn
     refine Safe.region ?_
     refine Qf E_good ?_
     refine SafeOps.nil ?_
     repeat first|apply sq|apply sk|with_reducible first|apply tn|apply bn
     refine Safe.region ?_
     refine Qf E_good ?_
     refine Qf E_good ?_
     refine SafeOps.inline E_good rfl rfl rfl rfl rfl Try.func31 rfl (fun _ _ => Try.call31 _ _) rfl ?_
     repeat first|apply sq|apply sk|with_reducible first|apply tn|apply bn
     refine Safe.region ?_
     refine Qf E_good ?_
     refine SafeOps.nil ?_
     repeat first|apply sq|apply sk|with_reducible first|apply tn|apply bn
     refine Safe.region ?_
     refine Qf E_good ?_
     refine Q0 E_good rfl (v := V.ptr [31] 0 0) (.fn rfl) ?_
     refine Q0 E_good rfl (v := V.ptr [31] 0 7) (.fn rfl) ?_
     refine Q0 E_good rfl (v := V.ref [28] 0 (rws (fun n => [I n]) ([] ++ a34)).length) (.load rfl rfl (.box rfl rfl) rfl) ?_
     refine Qf E_good ?_
     refine bindG h ?_
     rintro ⟨x61, x132⟩ he1426 h
     refine Q0 E_good rfl (v := V.tup [I x61, I x132]) (.callS rfl (.cons (.full rfl rfl) (.cons (.free rfl) .nil)) (go_cell_Load_sc ([] ++ a34) (go_pring_actor_bottom (ring_actor.mk a25 ([] ++ a34) a42 0)) _ he1426) (.tupL (.cons (.plain rfl) (.cons (.plain rfl) .nil))) rfl) ?_
     refine Qf E_good ?_
     refine Qf E_good ?_
     refine Qf E_good ?_
     refine Qf E_good ?_
     refine Qf E_good ?_
     refine SafeOps.nil ?_
     repeat first|apply sq|apply sk|with_reducible first|apply tn|apply bn
     refine Safe.region ?_
     refine Qf E_good ?_
     refine Qf E_good ?_
     refine Q0 E_good rfl (v := V.bool (x132 == 0)) (.fn rfl) ?_
     refine SafeOps.joinT 1 (fun (v63 : Int) => go_ring_Step_j113 a34 a25 x61 v63 = some r) (fun (v63 : Int) => ⟨Try.f31.ntmps, [(5, I x61)], [([7], Obj.box [I 0, I 0, I 0, I 0, I 0, V.bool false, I 0]), ([28], Obj.rows 1 (rws (fun n => [I n]) ([] ++ a34)) false), ([31], Obj.box [I a25.Kind, I a25.Pc, I a25.V, I a25.T, I a25.B, V.bool a25.Won, I a25.State, V.ref [28] 0 (rws (fun n => [I n]) ([] ++ a34)).length, I a42.Base, I a42.Cap, I v63])], [(Try.f28.ntmps, [(0, V.ptr [31] 0 0), (2, I 0)]), (Try.f41.ntmps, [(0, V.ptr [31] 0 0), (2, V.ptr [31] 0 0)]), (Try.f8.ntmps, [(7, V.ptr [7] 0 0), (9, V.ptr [31] 0 0)])], [40, 6, 10]⟩) ?_ (fun HJ1429 => ?_)
     ·intro v63 h
      replace h : go_ring_Step_j113 a34 a25 x61 v63 = some r := h
      rw [go_ring_Step_j113] at h
      refine SafeOps.nil ?_
      repeat first|apply sq|apply sk|with_reducible first|apply tn|apply bn
      refine Safe.region ?_
      refine Qf E_good ?_
      refine Qf E_good ?_
      refine SafeOps.nil ?_
      repeat first|apply sq|apply sk|with_reducible first|apply tn|apply bn
      refine Safe.ret ?_
      repeat (first | with_reducible refine thenQ.r ?_ | with_reducible refine blockQ.r ?_)
      refine inQ.gen (vs := [I x61]) (v := I x61) (.inr rfl) rfl (.tmp (v := I x61) rfl .nil) rfl ?_
      refine Qf E_good ?_
      refine SafeOps.nil ?_
      repeat first|apply sq|apply sk|with_reducible first|apply tn|apply bn
      refine Safe.region ?_
      refine Qf E_good ?_
      refine Qf E_good ?_
      refine Qf E_good ?_
      refine Q0 E_good rfl (v := V.bool (decide (x61 ≥ 0))) (.fn rfl) ?_
      refine Qf E_good ?_
      refine SafeOps.bjoin 3 18 (b := ((decide (x61 ≥ 0)) && (decide (x61 ≤ 1099511627776)))) (b1 := decide (x61 ≤ 1099511627776)) (b0 := false) (fun hc1430 K => ?_) (fun hc1430 K => ?_) bj_and ?_
      ·skip
       refine qT E_good hc1430 (.fn rfl) ?_
       refine qT E_good hc1430 (v := V.bool (decide (x61 ≤ 1099511627776))) (.fn rfl) ?_
       refine Q0 E_good rfl (v := V.bool (decide (x61 ≤ 1099511627776))) (.pickK rfl hc1430 rfl) ?_
       exact SafeOps.drop' 3 rfl rfl rfl K
      ·skip
       refine sT hc1430 ?_
       refine sT hc1430 ?_
       refine Q0 E_good rfl (v := V.bool false) (.pickK rfl hc1430 rfl) ?_
       exact SafeOps.drop' 3 rfl rfl rfl K
      refine SafeOps.joinT 1 (fun (v62 : Int) => go_ring_Step_j114 a34 a25 x61 v62 = some r) (fun (v62 : Int) => ⟨Try.f28.ntmps, [(7, I x61)], [([7], Obj.box [I 0, I 0, I 0, I 0, I 0, V.bool false, I 0]), ([28], Obj.rows 1 (rws (fun n => [I n]) ([] ++ a34)) false), ([31], Obj.box [I a25.Kind, I a25.Pc, I a25.V, I a25.T, I a25.B, V.bool a25.Won, I a25.State, V.ref [28] 0 (rws (fun n => [I n]) ([] ++ a34)).length, I a42.Base, I a42.Cap, I v62])], [(Try.f41.ntmps, [(0, V.ptr [31] 0 0), (2, V.ptr [31] 0 0)]), (Try.f8.ntmps, [(7, V.ptr [7] 0 0), (9, V.ptr [31] 0 0)])], [40, 6]⟩) ?_ (fun HJ1433 => ?_)
      ·intro v62 h
       replace h : go_ring_Step_j114 a34 a25 x61 v62 = some r := h
       rw [go_ring_Step_j114] at h
       refine SafeOps.nil ?_
       repeat first|apply sq|apply sk|with_reducible first|apply tn|apply bn
       refine Safe.region ?_
       refine Qf E_good ?_
       refine Qf E_good ?_
       refine SafeOps.nil ?_
       repeat first|apply sq|apply sk|with_reducible first|apply tn|apply bn
       refine Safe.ret ?_
       repeat (first | with_reducible refine thenQ.r ?_ | with_reducible refine blockQ.r ?_)
       refine inQ.gen (vs := [I x61]) (v := I x61) (.inr rfl) rfl (.tmp (v := I x61) rfl .nil) rfl ?_
       refine Q0 E_good rfl (v := V.ptr [31] 0 0) (.fn rfl) ?_
       refine Q0 E_good rfl (v := V.ptr [31] 0 0) (.fn rfl) ?_
       refine Q0 E_good rfl (v := V.ptr [31] 0 4) (.fn rfl) ?_
       refine SafeOps.store (z := Obj.box [I a25.Kind, I a25.Pc, I a25.V, I a25.T, I x61, V.bool a25.Won, I a25.State, V.ref [28] 0 (rws (fun n => [I n]) ([] ++ a34)).length, I a42.Base, I a42.Cap, I v62]) E_good rfl rfl rfl rfl rfl rfl rfl (.boxM (c := 11) rfl rfl (Nat.le_of_ble_eq_true rfl) rfl) ?_
       refine SafeOps.nil ?_
       repeat first|apply sq|apply sk|with_reducible first|apply tn|apply bn
       refine Safe.region ?_
       refine Qf E_good ?_
       refine Q0 E_good rfl (v := V.ptr [31] 0 0) (.fn rfl) ?_
       refine Q0 E_good rfl (v := V.ptr [31] 0 0) (.fn rfl) ?_
       refine Q0 E_good rfl (v := V.ptr [31] 0 1) (.fn rfl) ?_
       refine Q0 E_good rfl (v := I a25.Pc) (.load rfl rfl (.box rfl rfl) rfl) ?_
       refine Q0 E_good rfl (v := I (IntKind.i64.wrap (a25.Pc + 1))) (.fn rfl) ?_
       refine Q0 E_good rfl (v := V.ptr [31] 0 0) (.fn rfl) ?_
       refine Q0 E_good rfl (v := V.ptr [31] 0 0) (.fn rfl) ?_
       refine Q0 E_good rfl (v := V.ptr [31] 0 1) (.fn rfl) ?_
       refine SafeOps.store (z := Obj.box [I a25.Kind, I (IntKind.i64.wrap (a25.Pc + 1)), I a25.V, I a25.T, I x61, V.bool a25.Won, I a25.State, V.ref [28] 0 (rws (fun n => [I n]) ([] ++ a34)).length, I a42.Base, I a42.Cap, I v62]) E_good rfl rfl rfl rfl rfl rfl rfl (.boxM (c := 11) rfl rfl (Nat.le_of_ble_eq_true rfl) rfl) ?_
       refine SafeOps.nil ?_
       repeat first|apply sq|apply sk|with_reducible first|apply tn|apply bn
       repeat (first | with_reducible refine thenQ.r ?_ | with_reducible refine blockQ.r ?_)
       refine inQ.gen (vs := []) (v := V.tup []) (.inl rfl) rfl .nil rfl ?_
       exact SafeOps.got (HJ1246 (IntKind.i64.wrap (a25.Pc + 1), a25.V, a25.T, x61, a25.Won, a25.State, [] ++ a34, v62) h) (.ren [28] [7000, 114, 31, 7] (.cov ⟨rfl, rfl, (ut (ut upT_nil)), (uo (uo (uo upOb_nil))), upOut_nil, rfl⟩))
      ·skip
       refine SafeOps.inline E_good rfl rfl rfl rfl rfl Try.func54 rfl (fun _ _ => Try.call54 _ _) rfl ?_
       repeat first|apply sq|apply sk|with_reducible first|apply tn|apply bn
       refine Safe.region ?_
       refine Qf E_good ?_
       refine SafeOps.nil ?_
       repeat first|apply sq|apply sk|with_reducible first|apply tn|apply bn
       refine Safe.region ?_
       refine Qf E_good ?_
       refine Q0 E_good rfl (v := V.bool (!((decide (x61 ≥ 0)) && (decide (x61 ≤ 1099511627776))))) (.fn rfl) ?_
       refine SafeOps.nil ?_
       repeat first|apply sq|apply sk|with_reducible first|apply tn|apply bn
       refine ifG h (fun hc1434 h => ?_) (fun hc1434 h => ?_)
       ·skip
        refine Safe.condK rfl hc1434 ?_
        repeat first|apply sq|apply sk|with_reducible first|apply tn|apply bn
        refine Safe.region ?_
        refine Qf E_good ?_
        refine Q0 E_good rfl (v := V.ptr [31] 0 0) (.fn rfl) ?_
        refine Q0 E_good rfl (v := V.ptr [31] 0 10) (.fn rfl) ?_
        refine SafeOps.store (z := Obj.box [I a25.Kind, I a25.Pc, I a25.V, I a25.T, I a25.B, V.bool a25.Won, I a25.State, V.ref [28] 0 (rws (fun n => [I n]) ([] ++ a34)).length, I a42.Base, I a42.Cap, I 9]) E_good rfl rfl rfl rfl rfl rfl rfl (.boxM (c := 11) rfl rfl (Nat.le_of_ble_eq_true rfl) rfl) ?_
        refine SafeOps.nil ?_
        repeat first|apply sq|apply sk|with_reducible first|apply tn|apply bn
        refine Safe.region ?_
        refine Qf E_good ?_
        refine Qf E_good ?_
        refine SafeOps.nil ?_
        repeat first|apply sq|apply sk|with_reducible first|apply tn|apply bn
        refine Safe.ret ?_
        repeat (first | with_reducible refine thenQ.r ?_ | with_reducible refine blockQ.r ?_)
        refine inQ.gen (vs := [V.bool ((decide (x61 ≥ 0)) && (decide (x61 ≤ 1099511627776)))]) (v := V.bool ((decide (x61 ≥ 0)) && (decide (x61 ≤ 1099511627776)))) (.inr rfl) rfl (.tmp (v := V.bool ((decide (x61 ≥ 0)) && (decide (x61 ≤ 1099511627776)))) rfl .nil) rfl ?_
        exact SafeOps.got (HJ1433 (9) h) (.cov ⟨rfl, rfl, (ut upT_nil), (uo (uo (uo upOb_nil))), (upOut_cons rfl (ut (ut upT_nil)) (upOut_cons rfl (ut (ut upT_nil)) upOut_nil)), rfl⟩)
       ·skip
        refine Safe.condN rfl hc1434 ?_
        repeat first|apply sq|apply sk|with_reducible first|apply tn|apply bn
        refine Safe.region ?_
        refine Qf E_good ?_
        refine Qf E_good ?_
        refine SafeOps.nil ?_
        repeat first|apply sq|apply sk|with_reducible first|apply tn|apply bn
        refine Safe.ret ?_
        repeat (first | with_reducible refine thenQ.r ?_ | with_reducible refine blockQ.r ?_)
        refine inQ.gen (vs := [V.bool ((decide (x61 ≥ 0)) && (decide (x61 ≤ 1099511627776)))]) (v := V.bool ((decide (x61 ≥ 0)) && (decide (x61 ≤ 1099511627776)))) (.inr rfl) rfl (.tmp (v := V.bool ((decide (x61 ≥ 0)) && (decide (x61 ≤ 1099511627776)))) rfl .nil) rfl ?_
        exact SafeOps.got (HJ1433 (v63) h) (.cov ⟨rfl, rfl, (ut upT_nil), (uo (uo (uo upOb_nil))), (upOut_cons rfl (ut (ut upT_nil)) (upOut_cons rfl (ut (ut upT_nil)) upOut_nil)), rfl⟩)
     ·skip
      refine SafeOps.inline E_good rfl rfl rfl rfl rfl Try.func54 rfl (fun _ _ => Try.call54 _ _) rfl ?_
      repeat first|apply sq|apply sk|with_reducible first|apply tn|apply bn
      refine Safe.region ?_
      refine Qf E_good ?_
      refine SafeOps.nil ?_
      repeat first|apply sq|apply sk|with_reducible first|apply tn|apply bn
      refine Safe.region ?_
      refine Qf E_good ?_
      refine Q0 E_good rfl (v := V.bool (!(x132 == 0))) (.fn rfl) ?_
      refine SafeOps.nil ?_
      repeat first|apply sq|apply sk|with_reducible first|apply tn|apply bn
      refine ifG h (fun hc1435 h => ?_) (fun hc1435 h => ?_)
      ·skip
       refine Safe.condK rfl hc1435 ?_
       repeat first|apply sq|apply sk|with_reducible first|apply tn|apply bn
       refine Safe.region ?_
       refine Qf E_good ?_
       refine Q0 E_good rfl (v := V.ptr [31] 0 0) (.fn rfl) ?_
       refine Q0 E_good rfl (v := V.ptr [31] 0 10) (.fn rfl) ?_
       refine SafeOps.store (z := Obj.box [I a25.Kind, I a25.Pc, I a25.V, I a25.T, I a25.B, V.bool a25.Won, I a25.State, V.ref [28] 0 (rws (fun n => [I n]) ([] ++ a34)).length, I a42.Base, I a42.Cap, I 9]) E_good rfl rfl rfl rfl rfl rfl rfl (.boxM (c := 11) rfl rfl (Nat.le_of_ble_eq_true rfl) rfl) ?_
       refine SafeOps.nil ?_
       repeat first|apply sq|apply sk|with_reducible first|apply tn|apply bn
       refine Safe.region ?_
       refine Qf E_good ?_
       refine Qf E_good ?_
       refine SafeOps.nil ?_
       repeat first|apply sq|apply sk|with_reducible first|apply tn|apply bn
       refine Safe.ret ?_
       repeat (first | with_reducible refine thenQ.r ?_ | with_reducible refine blockQ.r ?_)
       refine inQ.gen (vs := [V.bool (x132 == 0)]) (v := V.bool (x132 == 0)) (.inr rfl) rfl (.tmp (v := V.bool (x132 == 0)) rfl .nil) rfl ?_
       exact SafeOps.got (HJ1429 (9) h) (.cov ⟨rfl, rfl, (ut upT_nil), (uo (uo (uo upOb_nil))), (upOut_cons rfl (ut (ut upT_nil)) (upOut_cons rfl (ut (ut upT_nil)) (upOut_cons rfl (ut (ut upT_nil)) upOut_nil))), rfl⟩)
      ·skip
       refine Safe.condN rfl hc1435 ?_
       repeat first|apply sq|apply sk|with_reducible first|apply tn|apply bn
       refine Safe.region ?_
       refine Qf E_good ?_
       refine Qf E_good ?_
       refine SafeOps.nil ?_
       repeat first|apply sq|apply sk|with_reducible first|apply tn|apply bn
       refine Safe.ret ?_
       repeat (first | with_reducible refine thenQ.r ?_ | with_reducible refine blockQ.r ?_)
       refine inQ.gen (vs := [V.bool (x132 == 0)]) (v := V.bool (x132 == 0)) (.inr rfl) rfl (.tmp (v := V.bool (x132 == 0)) rfl .nil) rfl ?_
       exact SafeOps.got (HJ1429 (0) h) (.cov ⟨rfl, rfl, (ut upT_nil), (uo (uo (uo upOb_nil))), (upOut_cons rfl (ut (ut upT_nil)) (upOut_cons rfl (ut (ut upT_nil)) (upOut_cons rfl (ut (ut upT_nil)) upOut_nil))), rfl⟩)
    refine ifP_G h (fun hq1436 h => ?_) (fun _ h => ?_)
    ·skip
     refine SafeOps.see 38 (u := V.fn 42 []) rfl (up_fn hq1436) ?_
     refine SafeOps.inline E_good rfl rfl rfl rfl rfl Try.func42 rfl (fun _ _ => Try.call42 _ _) rfl ?_
     repeat first|apply sq|apply sk|with_reducible first|apply tn|apply bn
     refine Safe.region ?_
     refine Qf E_good ?_
     refine Qf E_good ?_
     refine Q0 E_good rfl (v := V.ptr [31] 0 0) (.fn rfl) ?_
     refine Q0 E_good rfl (v := V.ptr [31] 0 0) (.fn rfl) ?_
     refine Q0 E_good rfl (v := V.ptr [31] 0 4) (.fn rfl) ?_
     refine Q0 E_good rfl (v := I a25.B) (.load rfl rfl (.box rfl rfl) rfl) ?_
     refine Q0 E_good rfl (v := V.bool (decide (a25.B ≥ 0))) (.fn rfl) ?_
     refine SafeOps.joinT 1 (fun (v72 : Int) => go_ring_Step_j115 a34 a42 a25 v72 = some r) (fun (v72 : Int) => ⟨Try.f42.ntmps, [(0, V.ptr [31] 0 0), (9, V.bool (decide (a25.B ≥ 0)))], [([7], Obj.box [I 0, I 0, I 0, I 0, I 0, V.bool false, I 0]), ([28], Obj.rows 1 (rws (fun n => [I n]) ([] ++ a34)) false), ([31], Obj.box [I a25.Kind, I a25.Pc, I a25.V, I a25.T, I a25.B, V.bool a25.Won, I a25.State, V.ref [28] 0 (rws (fun n => [I n]) ([] ++ a34)).length, I a42.Base, I a42.Cap, I v72])], [(Try.f8.ntmps, [(7, V.ptr [7] 0 0), (9, V.ptr [31] 0 0)])], [40]⟩) ?_ (fun HJ1439 => ?_)
     ·intro v72 h
      replace h : go_ring_Step_j115 a34 a42 a25 v72 = some r := h
      rw [go_ring_Step_j115] at h
      refine SafeOps.nil ?_
      repeat first|apply sq|apply sk|with_reducible first|apply tn|apply bn
      refine Safe.joinT (fun ((v64, v65, v66) : Int × (List Int) × Int) => go_ring_Step_j118 a25 v64 v65 v66 = some r) (fun ((v64, v65, v66) : Int × (List Int) × Int) => ⟨Try.f42.ntmps, [(0, V.ptr [31] 0 0)], [([7], Obj.box [I 0, I 0, I 0, I 0, I 0, V.bool false, I 0]), ([31], Obj.box [I a25.Kind, I a25.Pc, I a25.V, I a25.T, I v64, V.bool a25.Won, I a25.State, V.ref [7000, 114, 31, 7] 0 (rws (fun n => [I n]) v65).length, I a42.Base, I a42.Cap, I v66]), ([7000, 114, 31, 7], Obj.rows 1 (rws (fun n => [I n]) v65) false)], [(Try.f8.ntmps, [(7, V.ptr [7] 0 0), (9, V.ptr [31] 0 0)])], [40]⟩) ?_ (fun HJ1453 => ?_)
      ·rintro ⟨v64, v65, v66⟩ h
       replace h : go_ring_Step_j118 a25 v64 v65 v66 = some r := h
       rw [go_ring_Step_j118] at h
       repeat first|apply sq|apply sk|with_reducible first|apply tn|apply bn
       refine Safe.region ?_
       refine Qf E_good ?_
       refine Q0 E_good rfl (v := V.ptr [31] 0 0) (.fn rfl) ?_
       refine Q0 E_good rfl (v := V.ptr [31] 0 0) (.fn rfl) ?_
       refine Q0 E_good rfl (v := V.ptr [31] 0 1) (.fn rfl) ?_
       refine Q0 E_good rfl (v := I a25.Pc) (.load rfl rfl (.box rfl rfl) rfl) ?_
       refine Q0 E_good rfl (v := I (IntKind.i64.wrap (a25.Pc + 1))) (.fn rfl) ?_
       refine Q0 E_good rfl (v := V.ptr [31] 0 0) (.fn rfl) ?_
       refine Q0 E_good rfl (v := V.ptr [31] 0 0) (.fn rfl) ?_
       refine Q0 E_good rfl (v := V.ptr [31] 0 1) (.fn rfl) ?_
       refine SafeOps.store (z := Obj.box [I a25.Kind, I (IntKind.i64.wrap (a25.Pc + 1)), I a25.V, I a25.T, I v64, V.bool a25.Won, I a25.State, V.ref [7000, 114, 31, 7] 0 (rws (fun n => [I n]) v65).length, I a42.Base, I a42.Cap, I v66]) E_good rfl rfl rfl rfl rfl rfl rfl (.boxM (c := 11) rfl rfl (Nat.le_of_ble_eq_true rfl) rfl) ?_
       refine SafeOps.nil ?_
       repeat first|apply sq|apply sk|with_reducible first|apply tn|apply bn
       repeat (first | with_reducible refine thenQ.r ?_ | with_reducible refine blockQ.r ?_)
       refine inQ.gen (vs := []) (v := V.tup []) (.inl rfl) rfl .nil rfl ?_
       exact SafeOps.got (HJ1246 (IntKind.i64.wrap (a25.Pc + 1), a25.V, a25.T, v64, a25.Won, a25.State, v65, v66) h) (.cov ⟨rfl, rfl, (ut (ut upT_nil)), (uo (uo (uo upOb_nil))), upOut_nil, rfl⟩)
      ·skip
       refine ifG h (fun hc1454 h => ?_) (fun hc1454 h => ?_)
       ·skip
        refine Safe.condK rfl hc1454 ?_
        repeat first|apply sq|apply sk|with_reducible first|apply tn|apply bn
        refine Safe.region ?_
        refine Qf E_good ?_
        refine Q0 E_good rfl (v := V.ptr [31] 0 0) (.fn rfl) ?_
        refine Q0 E_good rfl (v := V.ptr [31] 0 0) (.fn rfl) ?_
        refine Q0 E_good rfl (v := V.ptr [31] 0 4) (.fn rfl) ?_
        refine Q0 E_good rfl (v := I a25.B) (.load rfl rfl (.box rfl rfl) rfl) ?_
        refine Q0 E_good rfl (v := I (IntKind.i64.wrap (a25.B - 1))) (.fn rfl) ?_
        refine Q0 E_good rfl (v := V.ptr [31] 0 0) (.fn rfl) ?_
        refine Q0 E_good rfl (v := V.ptr [31] 0 0) (.fn rfl) ?_
        refine Q0 E_good rfl (v := V.ptr [31] 0 4) (.fn rfl) ?_
        refine SafeOps.store (z := Obj.box [I a25.Kind, I a25.Pc, I a25.V, I a25.T, I (IntKind.i64.wrap (a25.B - 1)), V.bool a25.Won, I a25.State, V.ref [28] 0 (rws (fun n => [I n]) ([] ++ a34)).length, I a42.Base, I a42.Cap, I v72]) E_good rfl rfl rfl rfl rfl rfl rfl (.boxM (c := 11) rfl rfl (Nat.le_of_ble_eq_true rfl) rfl) ?_
        refine SafeOps.nil ?_
        repeat first|apply sq|apply sk|with_reducible first|apply tn|apply bn
        refine Safe.regionD (n := 9) [] [8] E_good mixed rfl ?_
        refine DT 0 [] rfl rfl (fun _ hz => (.fn rfl)) ?_
        refine DT 1 [] rfl rfl (fun _ hz => (.fn rfl)) ?_
        refine DT 2 [] rfl rfl (v := I (go_pring_actor_bottom (ring_actor.mk (api_Hand.mk a25.Kind a25.Pc a25.V a25.T (IntKind.i64.wrap (a25.B - 1)) a25.Won a25.State) ([] ++ a34) a42 v72))) (fun _ hz => (.callS rfl (.cons (.box (hz _ _ rfl rfl) (.cons (.free rfl) (.cons (.free rfl) (.cons (.free rfl) (.cons (.free rfl) (.cons (.free rfl) (.cons (.free rfl) (.cons (.free rfl) (.cons (.full (hz _ _ rfl rfl) rfl) (.cons (.free rfl) (.cons (.free rfl) (.cons (.free rfl) .nil)))))))))))) .nil) (go_pring_actor_bottom_sc (ring_actor.mk (api_Hand.mk a25.Kind a25.Pc a25.V a25.T (IntKind.i64.wrap (a25.B - 1)) a25.Won a25.State) ([] ++ a34) a42 v72) _ rfl) (.plain rfl) rfl)) ?_
        refine DT 3 [] rfl rfl (fun _ hz => (.fn rfl)) ?_
        refine DT 4 [] rfl rfl (v := V.ptr [31] 0 0) (fun _ hz => (.fn rfl)) ?_
        refine DT 5 [] rfl rfl (v := V.ptr [31] 0 0) (fun _ hz => (.fn rfl)) ?_
        refine DT 6 [] rfl rfl (v := V.ptr [31] 0 4) (fun _ hz => (.fn rfl)) ?_
        refine DT 7 [] rfl rfl (v := I (IntKind.i64.wrap (a25.B - 1))) (fun _ hz => (.load rfl rfl (.box (hz _ _ rfl rfl) rfl) rfl)) ?_
        refine DAny.onlyS (i := 8) rfl (by kernel_rfl) rfl ?_
        refine SafeOps.joinT 1 (fun ((v67, v68) : (List Int) × Int) => go_ring_Step_j120 a25 v67 v68 = some r) (fun ((v67, v68) : (List Int) × Int) => ⟨Try.f42.ntmps, [(0, V.ptr [31] 0 0)], [([7], Obj.box [I 0, I 0, I 0, I 0, I 0, V.bool false, I 0]), ([31], Obj.box [I a25.Kind, I a25.Pc, I a25.V, I a25.T, I (IntKind.i64.wrap (a25.B - 1)), V.bool a25.Won, I a25.State, V.ref [7000, 114, 31, 7] 0 (rws (fun n => [I n]) v67).length, I a42.Base, I a42.Cap, I v68]), ([7000, 114, 31, 7], Obj.rows 1 (rws (fun n => [I n]) v67) false)], [(Try.f8.ntmps, [(7, V.ptr [7] 0 0), (9, V.ptr [31] 0 0)])], [40]⟩) ?_ (fun HJ1464 => ?_)
        ·rintro ⟨v67, v68⟩ h
         replace h : go_ring_Step_j120 a25 v67 v68 = some r := h
         rw [go_ring_Step_j120] at h
         refine SafeOps.nil ⟨rfl, ?_⟩
         refine DAny.nil (by kernel_rfl) ?_
         repeat (first | refine Safe.skip ?_ | with_reducible refine thenQ.n ?_ | with_reducible refine blockQ.n ?_)
         exact Safe.got (HJ1453 (IntKind.i64.wrap (a25.B - 1), v67, v68) h) (.cov ⟨rfl, rfl, (ut upT_nil), (uo (uo (uo upOb_nil))), (upOut_cons rfl (ut (ut upT_nil)) upOut_nil), rfl⟩)
        ·skip
         refine SafeOps.inline E_good rfl rfl rfl rfl rfl Try.func57 rfl (fun _ _ => Try.call57 _ _) rfl ?_
         repeat first|apply sq|apply sk|with_reducible first|apply tn|apply bn
         refine Safe.region ?_
         refine Qf E_good ?_
         refine Q0 E_good rfl (v := V.ptr [31] 0 0) (.fn rfl) ?_
         refine Q0 E_good rfl (v := V.ptr [31] 0 7) (.fn rfl) ?_
         refine Q0 E_good rfl (v := V.ref [28] 0 (rws (fun n => [I n]) ([] ++ a34)).length) (.load rfl rfl (.box rfl rfl) rfl) ?_
         refine Qf E_good ?_
         refine Qf E_good ?_
         refine bindG h ?_
         rintro ⟨x69, x70⟩ he1467 h
         refine SafeOps.quiet E_good rfl rfl rfl (v := V.tup [V.ref [40, 27, 15, 0] 0 (rws (fun n => [I n]) x69).length, I x70]) (.callS rfl (.cons (.full rfl rfl) (.cons (.free rfl) (.cons (.free rfl) .nil))) (go_cell_Store_sc ([] ++ a34) (go_pring_actor_bottom (ring_actor.mk (api_Hand.mk a25.Kind a25.Pc a25.V a25.T (IntKind.i64.wrap (a25.B - 1)) a25.Won a25.State) ([] ++ a34) a42 v72)) (IntKind.i64.wrap (a25.B - 1)) _ he1467) (.tupL (.cons (.ownM (fun _ => rfl)) (.cons (.plain rfl) .nil))) rfl) rfl ?_
         refine Qf E_good ?_
         refine Qf E_good ?_
         refine Qf E_good ?_
         refine Qf E_good ?_
         refine Qf E_good ?_
         refine SafeOps.nil ?_
         repeat first|apply sq|apply sk|with_reducible first|apply tn|apply bn
         refine Safe.region ?_
         refine Qf E_good ?_
         refine Qf E_good ?_
         refine Q0 E_good rfl (v := V.bool (x70 == 0)) (.fn rfl) ?_
         refine SafeOps.joinT 1 (fun (v71 : Int) => go_ring_Step_j121 a34 a25 x69 x70 v71 = some r) (fun (v71 : Int) => ⟨Try.f57.ntmps, [(0, V.ptr [31] 0 0), (6, V.ref [40, 27, 15, 0] 0 (rws (fun n => [I n]) x69).length), (21, V.bool (x70 == 0))], [([7], Obj.box [I 0, I 0, I 0, I 0, I 0, V.bool false, I 0]), ([28], Obj.rows 1 (rws (fun n => [I n]) ([] ++ a34)) false), ([31], Obj.box [I a25.Kind, I a25.Pc, I a25.V, I a25.T, I (IntKind.i64.wrap (a25.B - 1)), V.bool a25.Won, I a25.State, V.ref [28] 0 (rws (fun n => [I n]) ([] ++ a34)).length, I a42.Base, I a42.Cap, I v71]), ([40, 27, 15, 0], Obj.rows 1 (rws (fun n => [I n]) x69) false)], [(Try.f42.ntmps, [(0, V.ptr [31] 0 0)]), (Try.f8.ntmps, [(7, V.ptr [7] 0 0), (9, V.ptr [31] 0 0)])], [40, 27]⟩) ?_ (fun HJ1470 => ?_)
         ·intro v71 h
          replace h : go_ring_Step_j121 a34 a25 x69 x70 v71 = some r := h
          rw [go_ring_Step_j121] at h
          refine SafeOps.nil ?_
          repeat first|apply sq|apply sk|with_reducible first|apply tn|apply bn
          refine ifG h (fun hc1471 h => ?_) (fun hc1471 h => ?_)
          ·skip
           refine Safe.condK rfl hc1471 ?_
           repeat first|apply sq|apply sk|with_reducible first|apply tn|apply bn
           refine Safe.region ?_
           refine Qf E_good ?_
           refine Qf E_good ?_
           refine Q0 E_good rfl (v := V.ptr [31] 0 0) (.fn rfl) ?_
           refine Q0 E_good rfl (v := V.ptr [31] 0 7) (.fn rfl) ?_
           refine SafeOps.store (z := Obj.box [I a25.Kind, I a25.Pc, I a25.V, I a25.T, I (IntKind.i64.wrap (a25.B - 1)), V.bool a25.Won, I a25.State, V.ref [40, 27, 15, 0] 0 (rws (fun n => [I n]) x69).length, I a42.Base, I a42.Cap, I v71]) E_good rfl rfl rfl rfl rfl rfl rfl (.boxM (c := 11) rfl rfl (Nat.le_of_ble_eq_true rfl) rfl) ?_
           refine SafeOps.nil ?_
           repeat first|apply sq|apply sk|with_reducible first|apply tn|apply bn
           repeat (first | with_reducible refine thenQ.r ?_ | with_reducible refine blockQ.r ?_)
           refine inQ.gen (vs := []) (v := V.tup []) (.inl rfl) rfl .nil rfl ?_
           exact SafeOps.got (HJ1464 (x69, v71) h) (.ren [40, 27, 15, 0] [7000, 114, 31, 7] (.cov ⟨rfl, rfl, (ut upT_nil), (uo (uo (uo upOb_nil))), (upOut_cons rfl (ut (ut upT_nil)) upOut_nil), rfl⟩))
          ·skip
           refine Safe.condN rfl hc1471 ?_
           repeat first|apply sq|apply sk|with_reducible first|apply tn|apply bn
           repeat (first | with_reducible refine thenQ.r ?_ | with_reducible refine blockQ.r ?_)
           refine inQ.gen (vs := []) (v := V.tup []) (.inl rfl) rfl .nil rfl ?_
           exact SafeOps.got (HJ1464 ([] ++ a34, v71) h) (.ren [28] [7000, 114, 31, 7] (.cov ⟨rfl, rfl, (ut upT_nil), (uo (uo (uo upOb_nil))), (upOut_cons rfl (ut (ut upT_nil)) upOut_nil), rfl⟩))
         ·skip
          refine SafeOps.inline E_good rfl rfl rfl rfl rfl Try.func54 rfl (fun _ _ => Try.call54 _ _) rfl ?_
          repeat first|apply sq|apply sk|with_reducible first|apply tn|apply bn
          refine Safe.region ?_
          refine Qf E_good ?_
          refine SafeOps.nil ?_
          repeat first|apply sq|apply sk|with_reducible first|apply tn|apply bn
          refine Safe.region ?_
          refine Qf E_good ?_
          refine Q0 E_good rfl (v := V.bool (!(x70 == 0))) (.fn rfl) ?_
          refine SafeOps.nil ?_
          repeat first|apply sq|apply sk|with_reducible first|apply tn|apply bn
          refine ifG h (fun hc1472 h => ?_) (fun hc1472 h => ?_)
          ·skip
           refine Safe.condK rfl hc1472 ?_
           repeat first|apply sq|apply sk|with_reducible first|apply tn|apply bn
           refine Safe.region ?_
           refine Qf E_good ?_
           refine Q0 E_good rfl (v := V.ptr [31] 0 0) (.fn rfl) ?_
           refine Q0 E_good rfl (v := V.ptr [31] 0 10) (.fn rfl) ?_
           refine SafeOps.store (z := Obj.box [I a25.Kind, I a25.Pc, I a25.V, I a25.T, I (IntKind.i64.wrap (a25.B - 1)), V.bool a25.Won, I a25.State, V.ref [28] 0 (rws (fun n => [I n]) ([] ++ a34)).length, I a42.Base, I a42.Cap, I 9]) E_good rfl rfl rfl rfl rfl rfl rfl (.boxM (c := 11) rfl rfl (Nat.le_of_ble_eq_true rfl) rfl) ?_
           refine SafeOps.nil ?_
           repeat first|apply sq|apply sk|with_reducible first|apply tn|apply bn
           refine Safe.region ?_
           refine Qf E_good ?_
           refine Qf E_good ?_
           refine SafeOps.nil ?_
           repeat first|apply sq|apply sk|with_reducible first|apply tn|apply bn
           refine Safe.ret ?_
           repeat (first | with_reducible refine thenQ.r ?_ | with_reducible refine blockQ.r ?_)
           refine inQ.gen (vs := [V.bool (x70 == 0)]) (v := V.bool (x70 == 0)) (.inr rfl) rfl (.tmp (v := V.bool (x70 == 0)) rfl .nil) rfl ?_
           exact SafeOps.got (HJ1470 (9) h) (.cov ⟨rfl, rfl, (ut (ut (ut upT_nil))), (uo (uo (uo (uo upOb_nil)))), (upOut_cons rfl (ut upT_nil) (upOut_cons rfl (ut (ut upT_nil)) upOut_nil)), rfl⟩)
          ·skip
           refine Safe.condN rfl hc1472 ?_
           repeat first|apply sq|apply sk|with_reducible first|apply tn|apply bn
           refine Safe.region ?_
           refine Qf E_good ?_
           refine Qf E_good ?_
           refine SafeOps.nil ?_
           repeat first|apply sq|apply sk|with_reducible first|apply tn|apply bn
           refine Safe.ret ?_
           repeat (first | with_reducible refine thenQ.r ?_ | with_reducible refine blockQ.r ?_)
           refine inQ.gen (vs := [V.bool (x70 == 0)]) (v := V.bool (x70 == 0)) (.inr rfl) rfl (.tmp (v := V.bool (x70 == 0)) rfl .nil) rfl ?_
           exact SafeOps.got (HJ1470 (v72) h) (.cov ⟨rfl, rfl, (ut (ut (ut upT_nil))), (uo (uo (uo (uo upOb_nil)))), (upOut_cons rfl (ut upT_nil) (upOut_cons rfl (ut (ut upT_nil)) upOut_nil)), rfl⟩)
       ·skip
        refine Safe.condN rfl hc1454 ?_
        repeat (first | refine Safe.skip ?_ | with_reducible refine thenQ.n ?_ | with_reducible refine blockQ.n ?_)
        exact Safe.got (HJ1453 (a25.B, [] ++ a34, v72) h) (.ren [28] [7000, 114, 31, 7] (.cov ⟨rfl, rfl, (ut upT_nil), (uo (uo (uo upOb_nil))), (upOut_cons rfl (ut (ut upT_nil)) upOut_nil), rfl⟩))
     ·skip
      refine SafeOps.inline E_good rfl rfl rfl rfl rfl Try.func54 rfl (fun _ _ => Try.call54 _ _) rfl ?_
      repeat first|apply sq|apply sk|with_reducible first|apply tn|apply bn
      refine Safe.region ?_
      refine Qf E_good ?_
      refine SafeOps.nil ?_
      repeat first|apply sq|apply sk|with_reducible first|apply tn|apply bn
      refine Safe.region ?_
      refine Qf E_good ?_
      refine Q0 E_good rfl (v := V.bool (!(decide (a25.B ≥ 0)))) (.fn rfl) ?_
      refine SafeOps.nil ?_
      repeat first|apply sq|apply sk|with_reducible first|apply tn|apply bn
      refine ifG h (fun hc1473 h => ?_) (fun hc1473 h => ?_)
      ·skip
       refine Safe.condK rfl hc1473 ?_
       repeat first|apply sq|apply sk|with_reducible first|apply tn|apply bn
       refine Safe.region ?_
       refine Qf E_good ?_
       refine Q0 E_good rfl (v := V.ptr [31] 0 0) (.fn rfl) ?_
       refine Q0 E_good rfl (v := V.ptr [31] 0 10) (.fn rfl) ?_
       refine SafeOps.store (z := Obj.box [I a25.Kind, I a25.Pc, I a25.V, I a25.T, I a25.B, V.bool a25.Won, I a25.State, V.ref [28] 0 (rws (fun n => [I n]) ([] ++ a34)).length, I a42.Base, I a42.Cap, I 9]) E_good rfl rfl rfl rfl rfl rfl rfl (.boxM (c := 11) rfl rfl (Nat.le_of_ble_eq_true rfl) rfl) ?_
       refine SafeOps.nil ?_
       repeat first|apply sq|apply sk|with_reducible first|apply tn|apply bn
       refine Safe.region ?_
       refine Qf E_good ?_
       refine Qf E_good ?_
       refine SafeOps.nil ?_
       repeat first|apply sq|apply sk|with_reducible first|apply tn|apply bn
       refine Safe.ret ?_
       repeat (first | with_reducible refine thenQ.r ?_ | with_reducible refine blockQ.r ?_)
       refine inQ.gen (vs := [V.bool (decide (a25.B ≥ 0))]) (v := V.bool (decide (a25.B ≥ 0))) (.inr rfl) rfl (.tmp (v := V.bool (decide (a25.B ≥ 0))) rfl .nil) rfl ?_
       exact SafeOps.got (HJ1439 (9) h) (.cov ⟨rfl, rfl, (ut (ut upT_nil)), (uo (uo (uo upOb_nil))), (upOut_cons rfl (ut (ut upT_nil)) upOut_nil), rfl⟩)
      ·skip
       refine Safe.condN rfl hc1473 ?_
       repeat first|apply sq|apply sk|with_reducible first|apply tn|apply bn
       refine Safe.region ?_
       refine Qf E_good ?_
       refine Qf E_good ?_
       refine SafeOps.nil ?_
       repeat first|apply sq|apply sk|with_reducible first|apply tn|apply bn
       refine Safe.ret ?_
       repeat (first | with_reducible refine thenQ.r ?_ | with_reducible refine blockQ.r ?_)
       refine inQ.gen (vs := [V.bool (decide (a25.B ≥ 0))]) (v := V.bool (decide (a25.B ≥ 0))) (.inr rfl) rfl (.tmp (v := V.bool (decide (a25.B ≥ 0))) rfl .nil) rfl ?_
       exact SafeOps.got (HJ1439 (0) h) (.cov ⟨rfl, rfl, (ut (ut upT_nil)), (uo (uo (uo upOb_nil))), (upOut_cons rfl (ut (ut upT_nil)) upOut_nil), rfl⟩)
    refine ifP_G h (fun hq1474 h => ?_) (fun _ h => ?_)
    ·skip
     refine SafeOps.see 38 (u := V.fn 43 []) rfl (up_fn hq1474) ?_
     refine SafeOps.inline E_good rfl rfl rfl rfl rfl Try.func43 rfl (fun _ _ => Try.call43 _ _) rfl ?_
     repeat first|apply sq|apply sk|with_reducible first|apply tn|apply bn
     refine Safe.region ?_
     refine Qf E_good ?_
     refine Qf E_good ?_
     refine Qf E_good ?_
     refine Q0 E_good rfl (v := I (go_pring_actor_top (ring_actor.mk a25 ([] ++ a34) a42 0))) (.callS rfl (.cons (.box rfl (.cons (.free rfl) (.cons (.free rfl) (.cons (.free rfl) (.cons (.free rfl) (.cons (.free rfl) (.cons (.free rfl) (.cons (.free rfl) (.cons (.full rfl rfl) (.cons (.free rfl) (.cons (.free rfl) (.cons (.free rfl) .nil)))))))))))) .nil) (go_pring_actor_top_sc (ring_actor.mk a25 ([] ++ a34) a42 0) _ rfl) (.plain rfl) rfl) ?_
     refine SafeOps.inline E_good rfl rfl rfl rfl rfl Try.func28 rfl (fun _ _ => Try.call28 _ _) rfl ?_
     repeat first|apply sq|apply sk|with_reducible first|apply tn|apply bn
     refine Safe.region ?_
     refine Qf E_good ?_
     refine SafeOps.nil ?_
     repeat first|apply sq|apply sk|with_reducible first|apply tn|apply bn
     refine Safe.region ?_
     refine Qf E_good ?_
     refine Qf E_good ?_
     refine SafeOps.inline E_good rfl rfl rfl rfl rfl Try.func31 rfl (fun _ _ => Try.call31 _ _) rfl ?_
     repeat first|apply sq|apply sk|with_reducible first|apply tn|apply bn
     refine Safe.region ?_
     refine Qf E_good ?_
     refine SafeOps.nil ?_
     repeat first|apply sq|apply sk|with_reducible first|apply tn|apply bn
     refine Safe.region ?_
     refine Qf E_good ?_
     refine Q0 E_good rfl (v := V.ptr [31] 0 0) (.fn rfl) ?_
     refine Q0 E_good rfl (v := V.ptr [31] 0 7) (.fn rfl) ?_
     refine Q0 E_good rfl (v := V.ref [28] 0 (rws (fun n => [I n]) ([] ++ a34)).length) (.load rfl rfl (.box rfl rfl) rfl) ?_
     refine Qf E_good ?_
     refine bindG h ?_
     rintro ⟨x73, x133⟩ he1499 h
     refine Q0 E_good rfl (v := V.tup [I x73, I x133]) (.callS rfl (.cons (.full rfl rfl) (.cons (.free rfl) .nil)) (go_cell_Load_sc ([] ++ a34) (go_pring_actor_top (ring_actor.mk a25 ([] ++ a34) a42 0)) _ he1499) (.tupL (.cons (.plain rfl) (.cons (.plain rfl) .nil))) rfl) ?_
     refine Qf E_good ?_
     refine Qf E_good ?_
     refine Qf E_good ?_
     refine Qf E_good ?_
     refine Qf E_good ?_
     refine SafeOps.nil ?_
     repeat first|apply sq|apply sk|with_reducible first|apply tn|apply bn
     refine Safe.region ?_
     refine Qf E_good ?_
     refine Qf E_good ?_
     refine Q0 E_good rfl (v := V.bool (x133 == 0)) (.fn rfl) ?_
     refine SafeOps.joinT 1 (fun (v75 : Int) => go_ring_Step_j126 a34 a25 x73 v75 = some r) (fun (v75 : Int) => ⟨Try.f31.ntmps, [(5, I x73)], [([7], Obj.box [I 0, I 0, I 0, I 0, I 0, V.bool false, I 0]), ([28], Obj.rows 1 (rws (fun n => [I n]) ([] ++ a34)) false), ([31], Obj.box [I a25.Kind, I a25.Pc, I a25.V, I a25.T, I a25.B, V.bool a25.Won, I a25.State, V.ref [28] 0 (rws (fun n => [I n]) ([] ++ a34)).length, I a42.Base, I a42.Cap, I v75])], [(Try.f28.ntmps, [(0, V.ptr [31] 0 0), (2, I 0)]), (Try.f43.ntmps, [(0, V.ptr [31] 0 0), (2, V.ptr [31] 0 0)]), (Try.f8.ntmps, [(7, V.ptr [7] 0 0), (9, V.ptr [31] 0 0)])], [40, 6, 10]⟩) ?_ (fun HJ1502 => ?_)
     ·intro v75 h
      replace h : go_ring_Step_j126 a34 a25 x73 v75 = some r := h
      rw [go_ring_Step_j126] at h
      refine SafeOps.nil ?_
      repeat first|apply sq|apply sk|with_reducible first|apply tn|apply bn
      refine Safe.region ?_
      refine Qf E_good ?_
      refine Qf E_good ?_
      refine SafeOps.nil ?_
      repeat first|apply sq|apply sk|with_reducible first|apply tn|apply bn
      refine Safe.ret ?_
      repeat (first | with_reducible refine thenQ.r ?_ | with_reducible refine blockQ.r ?_)
      refine inQ.gen (vs := [I x73]) (v := I x73) (.inr rfl) rfl (.tmp (v := I x73) rfl .nil) rfl ?_
      refine Qf E_good ?_
      refine SafeOps.nil ?_
      repeat first|apply sq|apply sk|with_reducible first|apply tn|apply bn
      refine Safe.region ?_
      refine Qf E_good ?_
      refine Qf E_good ?_
      refine Qf E_good ?_
      refine Q0 E_good rfl (v := V.bool (decide (x73 ≥ 0))) (.fn rfl) ?_
      refine Qf E_good ?_
      refine SafeOps.bjoin 3 18 (b := ((decide (x73 ≥ 0)) && (decide (x73 ≤ 1099511627776)))) (b1 := decide (x73 ≤ 1099511627776)) (b0 := false) (fun hc1503 K => ?_) (fun hc1503 K => ?_) bj_and ?_
      ·skip
       refine qT E_good hc1503 (.fn rfl) ?_
       refine qT E_good hc1503 (v := V.bool (decide (x73 ≤ 1099511627776))) (.fn rfl) ?_
       refine Q0 E_good rfl (v := V.bool (decide (x73 ≤ 1099511627776))) (.pickK rfl hc1503 rfl) ?_
       exact SafeOps.drop' 3 rfl rfl rfl K
      ·skip
       refine sT hc1503 ?_
       refine sT hc1503 ?_
       refine Q0 E_good rfl (v := V.bool false) (.pickK rfl hc1503 rfl) ?_
       exact SafeOps.drop' 3 rfl rfl rfl K
      refine SafeOps.joinT 1 (fun (v74 : Int) => go_ring_Step_j127 a34 a25 x73 v74 = some r) (fun (v74 : Int) => ⟨Try.f28.ntmps, [(7, I x73)], [([7], Obj.box [I 0, I 0, I 0, I 0, I 0, V.bool false, I 0]), ([28], Obj.rows 1 (rws (fun n => [I n]) ([] ++ a34)) false), ([31], Obj.box [I a25.Kind, I a25.Pc, I a25.V, I a25.T, I a25.B, V.bool a25.Won, I a25.State, V.ref [28] 0 (rws (fun n => [I n]) ([] ++ a34)).length, I a42.Base, I a42.Cap, I v74])], [(Try.f43.ntmps, [(0, V.ptr [31] 0 0), (2, V.ptr [31] 0 0)]), (Try.f8.ntmps, [(7, V.ptr [7] 0 0), (9, V.ptr [31] 0 0)])], [40, 6]⟩) ?_ (fun HJ1506 => ?_)
      ·intro v74 h
       replace h : go_ring_Step_j127 a34 a25 x73 v74 = some r := h
       rw [go_ring_Step_j127] at h
       refine SafeOps.nil ?_
       repeat first|apply sq|apply sk|with_reducible first|apply tn|apply bn
       refine Safe.region ?_
       refine Qf E_good ?_
       refine Qf E_good ?_
       refine SafeOps.nil ?_
       repeat first|apply sq|apply sk|with_reducible first|apply tn|apply bn
       refine Safe.ret ?_
       repeat (first | with_reducible refine thenQ.r ?_ | with_reducible refine blockQ.r ?_)
       refine inQ.gen (vs := [I x73]) (v := I x73) (.inr rfl) rfl (.tmp (v := I x73) rfl .nil) rfl ?_
       refine Q0 E_good rfl (v := V.ptr [31] 0 0) (.fn rfl) ?_
       refine Q0 E_good rfl (v := V.ptr [31] 0 0) (.fn rfl) ?_
       refine Q0 E_good rfl (v := V.ptr [31] 0 3) (.fn rfl) ?_
       refine SafeOps.store (z := Obj.box [I a25.Kind, I a25.Pc, I a25.V, I x73, I a25.B, V.bool a25.Won, I a25.State, V.ref [28] 0 (rws (fun n => [I n]) ([] ++ a34)).length, I a42.Base, I a42.Cap, I v74]) E_good rfl rfl rfl rfl rfl rfl rfl (.boxM (c := 11) rfl rfl (Nat.le_of_ble_eq_true rfl) rfl) ?_
       refine SafeOps.nil ?_
       repeat first|apply sq|apply sk|with_reducible first|apply tn|apply bn
       refine Safe.region ?_
       refine Qf E_good ?_
       refine Q0 E_good rfl (v := V.ptr [31] 0 0) (.fn rfl) ?_
       refine Q0 E_good rfl (v := V.ptr [31] 0 0) (.fn rfl) ?_
       refine Q0 E_good rfl (v := V.ptr [31] 0 1) (.fn rfl) ?_
       refine SafeOps.store (z := Obj.box [I a25.Kind, I 4, I a25.V, I x73, I a25.B, V.bool a25.Won, I a25.State, V.ref [28] 0 (rws (fun n => [I n]) ([] ++ a34)).length, I a42.Base, I a42.Cap, I v74]) E_good rfl rfl rfl rfl rfl rfl rfl (.boxM (c := 11) rfl rfl (Nat.le_of_ble_eq_true rfl) rfl) ?_
       refine SafeOps.nil ?_
       repeat first|apply sq|apply sk|with_reducible first|apply tn|apply bn
       refine Safe.regionD (n := 11) [] [] E_good mixed rfl ?_
       refine DT 0 [] rfl rfl (fun _ hz => (.fn rfl)) ?_
       refine DT 1 [] rfl rfl (v := V.ptr [31] 0 0) (fun _ hz => (.fn rfl)) ?_
       refine DT 2 [] rfl rfl (v := V.ptr [31] 0 0) (fun _ hz => (.fn rfl)) ?_
       refine DT 3 [] rfl rfl (v := V.ptr [31] 0 3) (fun _ hz => (.fn rfl)) ?_
       refine DT 4 [] rfl rfl (v := I x73) (fun _ hz => (.load rfl rfl (.box (hz _ _ rfl rfl) rfl) rfl)) ?_
       refine DT 5 [] rfl rfl (fun _ hz => (.fn rfl)) ?_
       refine DT 6 [] rfl rfl (v := V.ptr [31] 0 0) (fun _ hz => (.fn rfl)) ?_
       refine DT 7 [] rfl rfl (v := V.ptr [31] 0 0) (fun _ hz => (.fn rfl)) ?_
       refine DT 8 [] rfl rfl (v := V.ptr [31] 0 4) (fun _ hz => (.fn rfl)) ?_
       refine DT 9 [] rfl rfl (v := I a25.B) (fun _ hz => (.load rfl rfl (.box (hz _ _ rfl rfl) rfl) rfl)) ?_
       refine DT 10 [] rfl rfl (v := V.bool (decide (x73 > a25.B))) (fun _ hz => (.fn rfl)) ?_
       refine DAny.nil (by kernel_rfl) ?_
       repeat first|apply sq|apply sk|with_reducible first|apply tn|apply bn
       refine ifG h (fun hc1507 h => ?_) (fun hc1507 h => ?_)
       ·skip
        refine Safe.condK rfl hc1507 ?_
        repeat first|apply sq|apply sk|with_reducible first|apply tn|apply bn
        refine Safe.region ?_
        refine Qf E_good ?_
        refine Q0 E_good rfl (v := V.ptr [31] 0 0) (.fn rfl) ?_
        refine Q0 E_good rfl (v := V.ptr [31] 0 0) (.fn rfl) ?_
        refine Q0 E_good rfl (v := V.ptr [31] 0 1) (.fn rfl) ?_
        refine SafeOps.store (z := Obj.box [I a25.Kind, I 3, I a25.V, I x73, I a25.B, V.bool a25.Won, I a25.State, V.ref [28] 0 (rws (fun n => [I n]) ([] ++ a34)).length, I a42.Base, I a42.Cap, I v74]) E_good rfl rfl rfl rfl rfl rfl rfl (.boxM (c := 11) rfl rfl (Nat.le_of_ble_eq_true rfl) rfl) ?_
        refine SafeOps.nil ?_
        repeat first|apply sq|apply sk|with_reducible first|apply tn|apply bn
        repeat (first | with_reducible refine thenQ.r ?_ | with_reducible refine blockQ.r ?_)
        refine inQ.gen (vs := []) (v := V.tup []) (.inl rfl) rfl .nil rfl ?_
        exact SafeOps.got (HJ1246 (3, a25.V, x73, a25.B, a25.Won, a25.State, [] ++ a34, v74) h) (.ren [28] [7000, 114, 31, 7] (.cov ⟨rfl, rfl, (ut (ut upT_nil)), (uo (uo (uo upOb_nil))), upOut_nil, rfl⟩))
       ·skip
        refine Safe.condN rfl hc1507 ?_
        repeat first|apply sq|apply sk|with_reducible first|apply tn|apply bn
        repeat (first | with_reducible refine thenQ.r ?_ | with_reducible refine blockQ.r ?_)
        refine inQ.gen (vs := []) (v := V.tup []) (.inl rfl) rfl .nil rfl ?_
        exact SafeOps.got (HJ1246 (4, a25.V, x73, a25.B, a25.Won, a25.State, [] ++ a34, v74) h) (.ren [28] [7000, 114, 31, 7] (.cov ⟨rfl, rfl, (ut (ut upT_nil)), (uo (uo (uo upOb_nil))), upOut_nil, rfl⟩))
      ·skip
       refine SafeOps.inline E_good rfl rfl rfl rfl rfl Try.func54 rfl (fun _ _ => Try.call54 _ _) rfl ?_
       repeat first|apply sq|apply sk|with_reducible first|apply tn|apply bn
       refine Safe.region ?_
       refine Qf E_good ?_
       refine SafeOps.nil ?_
       repeat first|apply sq|apply sk|with_reducible first|apply tn|apply bn
       refine Safe.region ?_
       refine Qf E_good ?_
       refine Q0 E_good rfl (v := V.bool (!((decide (x73 ≥ 0)) && (decide (x73 ≤ 1099511627776))))) (.fn rfl) ?_
       refine SafeOps.nil ?_
       repeat first|apply sq|apply sk|with_reducible first|apply tn|apply bn
       refine ifG h (fun hc1508 h => ?_) (fun hc1508 h => ?_)
       ·skip
        refine Safe.condK rfl hc1508 ?_
        repeat first|apply sq|apply sk|with_reducible first|apply tn|apply bn
        refine Safe.region ?_
        refine Qf E_good ?_
        refine Q0 E_good rfl (v := V.ptr [31] 0 0) (.fn rfl) ?_
        refine Q0 E_good rfl (v := V.ptr [31] 0 10) (.fn rfl) ?_
        refine SafeOps.store (z := Obj.box [I a25.Kind, I a25.Pc, I a25.V, I a25.T, I a25.B, V.bool a25.Won, I a25.State, V.ref [28] 0 (rws (fun n => [I n]) ([] ++ a34)).length, I a42.Base, I a42.Cap, I 9]) E_good rfl rfl rfl rfl rfl rfl rfl (.boxM (c := 11) rfl rfl (Nat.le_of_ble_eq_true rfl) rfl) ?_
        refine SafeOps.nil ?_
        repeat first|apply sq|apply sk|with_reducible first|apply tn|apply bn
        refine Safe.region ?_
        refine Qf E_good ?_
        refine Qf E_good ?_
        refine SafeOps.nil ?_
        repeat first|apply sq|apply sk|with_reducible first|apply tn|apply bn
        refine Safe.ret ?_
        repeat (first | with_reducible refine thenQ.r ?_ | with_reducible refine blockQ.r ?_)
        refine inQ.gen (vs := [V.bool ((decide (x73 ≥ 0)) && (decide (x73 ≤ 1099511627776)))]) (v := V.bool ((decide (x73 ≥ 0)) && (decide (x73 ≤ 1099511627776)))) (.inr rfl) rfl (.tmp (v := V.bool ((decide (x73 ≥ 0)) && (decide (x73 ≤ 1099511627776)))) rfl .nil) rfl ?_
        exact SafeOps.got (HJ1506 (9) h) (.cov ⟨rfl, rfl, (ut upT_nil), (uo (uo (uo upOb_nil))), (upOut_cons rfl (ut (ut upT_nil)) (upOut_cons rfl (ut (ut upT_nil)) upOut_nil)), rfl⟩)
       ·skip
        refine Safe.condN rfl hc1508 ?_
        repeat first|apply sq|apply sk|with_reducible first|apply tn|apply bn
        refine Safe.region ?_
        refine Qf E_good ?_
        refine Qf E_good ?_
        refine SafeOps.nil ?_
        repeat first|apply sq|apply sk|with_reducible first|apply tn|apply bn
        refine Safe.ret ?_
        repeat (first | with_reducible refine thenQ.r ?_ | with_reducible refine blockQ.r ?_)
        refine inQ.gen (vs := [V.bool ((decide (x73 ≥ 0)) && (decide (x73 ≤ 1099511627776)))]) (v := V.bool ((decide (x73 ≥ 0)) && (decide (x73 ≤ 1099511627776)))) (.inr rfl) rfl (.tmp (v := V.bool ((decide (x73 ≥ 0)) && (decide (x73 ≤ 1099511627776)))) rfl .nil) rfl ?_
        exact SafeOps.got (HJ1506 (v75) h) (.cov ⟨rfl, rfl, (ut upT_nil), (uo (uo (uo upOb_nil))), (upOut_cons rfl (ut (ut upT_nil)) (upOut_cons rfl (ut (ut upT_nil)) upOut_nil)), rfl⟩)
     ·skip
      refine SafeOps.inline E_good rfl rfl rfl rfl rfl Try.func54 rfl (fun _ _ => Try.call54 _ _) rfl ?_
      repeat first|apply sq|apply sk|with_reducible first|apply tn|apply bn
      refine Safe.region ?_
      refine Qf E_good ?_
      refine SafeOps.nil ?_
      repeat first|apply sq|apply sk|with_reducible first|apply tn|apply bn
      refine Safe.region ?_
      refine Qf E_good ?_
      refine Q0 E_good rfl (v := V.bool (!(x133 == 0))) (.fn rfl) ?_
      refine SafeOps.nil ?_
      repeat first|apply sq|apply sk|with_reducible first|apply tn|apply bn
      refine ifG h (fun hc1509 h => ?_) (fun hc1509 h => ?_)
      ·skip
       refine Safe.condK rfl hc1509 ?_
       repeat first|apply sq|apply sk|with_reducible first|apply tn|apply bn
       refine Safe.region ?_
       refine Qf E_good ?_
       refine Q0 E_good rfl (v := V.ptr [31] 0 0) (.fn rfl) ?_
       refine Q0 E_good rfl (v := V.ptr [31] 0 10) (.fn rfl) ?_
       refine SafeOps.store (z := Obj.box [I a25.Kind, I a25.Pc, I a25.V, I a25.T, I a25.B, V.bool a25.Won, I a25.State, V.ref [28] 0 (rws (fun n => [I n]) ([] ++ a34)).length, I a42.Base, I a42.Cap, I 9]) E_good rfl rfl rfl rfl rfl rfl rfl (.boxM (c := 11) rfl rfl (Nat.le_of_ble_eq_true rfl) rfl) ?_
       refine SafeOps.nil ?_
       repeat first|apply sq|apply sk|with_reducible first|apply tn|apply bn
       refine Safe.region ?_
       refine Qf E_good ?_
       refine Qf E_good ?_
       refine SafeOps.nil ?_
       repeat first|apply sq|apply sk|with_reducible first|apply tn|apply bn
       refine Safe.ret ?_
       repeat (first | with_reducible refine thenQ.r ?_ | with_reducible refine blockQ.r ?_)
       refine inQ.gen (vs := [V.bool (x133 == 0)]) (v := V.bool (x133 == 0)) (.inr rfl) rfl (.tmp (v := V.bool (x133 == 0)) rfl .nil) rfl ?_
       exact SafeOps.got (HJ1502 (9) h) (.cov ⟨rfl, rfl, (ut upT_nil), (uo (uo (uo upOb_nil))), (upOut_cons rfl (ut (ut upT_nil)) (upOut_cons rfl (ut (ut upT_nil)) (upOut_cons rfl (ut (ut upT_nil)) upOut_nil))), rfl⟩)
      ·skip
       refine Safe.condN rfl hc1509 ?_
       repeat first|apply sq|apply sk|with_reducible first|apply tn|apply bn
       refine Safe.region ?_
       refine Qf E_good ?_
       refine Qf E_good ?_
       refine SafeOps.nil ?_
       repeat first|apply sq|apply sk|with_reducible first|apply tn|apply bn
       refine Safe.ret ?_
       repeat (first | with_reducible refine thenQ.r ?_ | with_reducible refine blockQ.r ?_)
       refine inQ.gen (vs := [V.bool (x133 == 0)]) (v := V.bool (x133 == 0)) (.inr rfl) rfl (.tmp (v := V.bool (x133 == 0)) rfl .nil) rfl ?_
       exact SafeOps.got (HJ1502 (0) h) (.cov ⟨rfl, rfl, (ut upT_nil), (uo (uo (uo upOb_nil))), (upOut_cons rfl (ut (ut upT_nil)) (upOut_cons rfl (ut (ut upT_nil)) (upOut_cons rfl (ut (ut upT_nil)) upOut_nil))), rfl⟩)
    refine ifP_G h (fun hq1510 h => ?_) (fun _ h => ?_)
    ·skip
     refine SafeOps.see 38 (u := V.fn 44 []) rfl (up_fn hq1510) ?_
     refine SafeOps.inline E_good rfl rfl rfl rfl rfl Try.func44 rfl (fun _ _ => Try.call44 _ _) rfl ?_
     repeat first|apply sq|apply sk|with_reducible first|apply tn|apply bn
     refine Safe.region ?_
     refine Qf E_good ?_
     refine Qf E_good ?_
     refine Q0 E_good rfl (v := V.ptr [31] 0 0) (.fn rfl) ?_
     refine Q0 E_good rfl (v := V.ptr [31] 0 0) (.fn rfl) ?_
     refine Q0 E_good rfl (v := V.ptr [31] 0 3) (.fn rfl) ?_
     refine Q0 E_good rfl (v := I a25.T) (.load rfl rfl (.box rfl rfl) rfl) ?_
     refine Q0 E_good rfl (v := V.bool (decide (a25.T ≥ 0))) (.fn rfl) ?_
     refine SafeOps.joinT 1 (fun (v83 : Int) => go_ring_Step_j128 a34 a42 a25 v83 = some r) (fun (v83 : Int) => ⟨Try.f44.ntmps, [(0, V.ptr [31] 0 0), (9, V.bool (decide (a25.T ≥ 0)))], [([7], Obj.box [I 0, I 0, I 0, I 0, I 0, V.bool false, I 0]), ([28], Obj.rows 1 (rws (fun n => [I n]) ([] ++ a34)) false), ([31], Obj.box [I a25.Kind, I a25.Pc, I a25.V, I a25.T, I a25.B, V.bool a25.Won, I a25.State, V.ref [28] 0 (rws (fun n => [I n]) ([] ++ a34)).length, I a42.Base, I a42.Cap, I v83])], [(Try.f8.ntmps, [(7, V.ptr [7] 0 0), (9, V.ptr [31] 0 0)])], [40]⟩) ?_ (fun HJ1513 => ?_)
     ·intro v83 h
      replace h : go_ring_Step_j128 a34 a42 a25 v83 = some r := h
      rw [go_ring_Step_j128] at h
      refine SafeOps.nil ?_
      repeat first|apply sq|apply sk|with_reducible first|apply tn|apply bn
      refine Safe.joinT (fun ((v76, v77) : (List Int) × Int) => go_ring_Step_j131 a25 v76 v77 = some r) (fun ((v76, v77) : (List Int) × Int) => ⟨Try.f44.ntmps, [(0, V.ptr [31] 0 0)], [([7], Obj.box [I 0, I 0, I 0, I 0, I 0, V.bool false, I 0]), ([31], Obj.box [I a25.Kind, I a25.Pc, I a25.V, I a25.T, I a25.B, V.bool a25.Won, I a25.State, V.ref [7000, 114, 31, 7] 0 (rws (fun n => [I n]) v76).length, I a42.Base, I a42.Cap, I v77]), ([7000, 114, 31, 7], Obj.rows 1 (rws (fun n => [I n]) v76) false)], [(Try.f8.ntmps, [(7, V.ptr [7] 0 0), (9, V.ptr [31] 0 0)])], [40]⟩) ?_ (fun HJ1526 => ?_)
      ·rintro ⟨v76, v77⟩ h
       replace h : go_ring_Step_j131 a25 v76 v77 = some r := h
       rw [go_ring_Step_j131] at h
       repeat first|apply sq|apply sk|with_reducible first|apply tn|apply bn
       refine Safe.region ?_
       refine Qf E_good ?_
       refine Q0 E_good rfl (v := V.ptr [31] 0 0) (.fn rfl) ?_
       refine Q0 E_good rfl (v := V.ptr [31] 0 0) (.fn rfl) ?_
       refine Q0 E_good rfl (v := V.ptr [31] 0 6) (.fn rfl) ?_
       refine SafeOps.store (z := Obj.box [I a25.Kind, I a25.Pc, I a25.V, I a25.T, I a25.B, V.bool a25.Won, I 2, V.ref [7000, 114, 31, 7] 0 (rws (fun n => [I n]) v76).length, I a42.Base, I a42.Cap, I v77]) E_good rfl rfl rfl rfl rfl rfl rfl (.boxM (c := 11) rfl rfl (Nat.le_of_ble_eq_true rfl) rfl) ?_
       refine SafeOps.nil ?_
       repeat first|apply sq|apply sk|with_reducible first|apply tn|apply bn
       repeat (first | with_reducible refine thenQ.r ?_ | with_reducible refine blockQ.r ?_)
       refine inQ.gen (vs := []) (v := V.tup []) (.inl rfl) rfl .nil rfl ?_
       exact SafeOps.got (HJ1246 (a25.Pc, a25.V, a25.T, a25.B, a25.Won, 2, v76, v77) h) (.cov ⟨rfl, rfl, (ut (ut upT_nil)), (uo (uo (uo upOb_nil))), upOut_nil, rfl⟩)
      ·skip
       refine ifG h (fun hc1527 h => ?_) (fun hc1527 h => ?_)
       ·skip
        refine Safe.condK rfl hc1527 ?_
        repeat first|apply sq|apply sk|with_reducible first|apply tn|apply bn
        refine Safe.regionD (n := 9) [] [8] E_good mixed rfl ?_
        refine DT 0 [] rfl rfl (fun _ hz => (.fn rfl)) ?_
        refine DT 1 [] rfl rfl (fun _ hz => (.fn rfl)) ?_
        refine DT 2 [] rfl rfl (v := I (go_pring_actor_bottom (ring_actor.mk a25 ([] ++ a34) a42 v83))) (fun _ hz => (.callS rfl (.cons (.box (hz _ _ rfl rfl) (.cons (.free rfl) (.cons (.free rfl) (.cons (.free rfl) (.cons (.free rfl) (.cons (.free rfl) (.cons (.free rfl) (.cons (.free rfl) (.cons (.full (hz _ _ rfl rfl) rfl) (.cons (.free rfl) (.cons (.free rfl) (.cons (.free rfl) .nil)))))))))))) .nil) (go_pring_actor_bottom_sc (ring_actor.mk a25 ([] ++ a34) a42 v83) _ rfl) (.plain rfl) rfl)) ?_
        refine DT 3 [] rfl rfl (fun _ hz => (.fn rfl)) ?_
        refine DT 4 [] rfl rfl (v := V.ptr [31] 0 0) (fun _ hz => (.fn rfl)) ?_
        refine DT 5 [] rfl rfl (v := V.ptr [31] 0 0) (fun _ hz => (.fn rfl)) ?_
        refine DT 6 [] rfl rfl (v := V.ptr [31] 0 3) (fun _ hz => (.fn rfl)) ?_
        refine DT 7 [] rfl rfl (v := I a25.T) (fun _ hz => (.load rfl rfl (.box (hz _ _ rfl rfl) rfl) rfl)) ?_
        refine DAny.onlyS (i := 8) rfl (by kernel_rfl) rfl ?_
        refine SafeOps.joinT 1 (fun ((v78, v79) : (List Int) × Int) => go_ring_Step_j133 a25 v78 v79 = some r) (fun ((v78, v79) : (List Int) × Int) => ⟨Try.f44.ntmps, [(0, V.ptr [31] 0 0)], [([7], Obj.box [I 0, I 0, I 0, I 0, I 0, V.bool false, I 0]), ([31], Obj.box [I a25.Kind, I a25.Pc, I a25.V, I a25.T, I a25.B, V.bool a25.Won, I a25.State, V.ref [7000, 114, 31, 7] 0 (rws (fun n => [I n]) v78).length, I a42.Base, I a42.Cap, I v79]), ([7000, 114, 31, 7], Obj.rows 1 (rws (fun n => [I n]) v78) false)], [(Try.f8.ntmps, [(7, V.ptr [7] 0 0), (9, V.ptr [31] 0 0)])], [40]⟩) ?_ (fun HJ1537 => ?_)
        ·rintro ⟨v78, v79⟩ h
         replace h : go_ring_Step_j133 a25 v78 v79 = some r := h
         rw [go_ring_Step_j133] at h
         refine SafeOps.nil ⟨rfl, ?_⟩
         refine DAny.nil (by kernel_rfl) ?_
         repeat (first | refine Safe.skip ?_ | with_reducible refine thenQ.n ?_ | with_reducible refine blockQ.n ?_)
         exact Safe.got (HJ1526 (v78, v79) h) (.cov ⟨rfl, rfl, (ut upT_nil), (uo (uo (uo upOb_nil))), (upOut_cons rfl (ut (ut upT_nil)) upOut_nil), rfl⟩)
        ·skip
         refine SafeOps.inline E_good rfl rfl rfl rfl rfl Try.func57 rfl (fun _ _ => Try.call57 _ _) rfl ?_
         repeat first|apply sq|apply sk|with_reducible first|apply tn|apply bn
         refine Safe.region ?_
         refine Qf E_good ?_
         refine Q0 E_good rfl (v := V.ptr [31] 0 0) (.fn rfl) ?_
         refine Q0 E_good rfl (v := V.ptr [31] 0 7) (.fn rfl) ?_
         refine Q0 E_good rfl (v := V.ref [28] 0 (rws (fun n => [I n]) ([] ++ a34)).length) (.load rfl rfl (.box rfl rfl) rfl) ?_
         refine Qf E_good ?_
         refine Qf E_good ?_
         refine bindG h ?_
         rintro ⟨x80, x81⟩ he1540 h
         refine SafeOps.quiet E_good rfl rfl rfl (v := V.tup [V.ref [40, 18, 15, 0] 0 (rws (fun n => [I n]) x80).length, I x81]) (.callS rfl (.cons (.full rfl rfl) (.cons (.free rfl) (.cons (.free rfl) .nil))) (go_cell_Store_sc ([] ++ a34) (go_pring_actor_bottom (ring_actor.mk a25 ([] ++ a34) a42 v83)) a25.T _ he1540) (.tupL (.cons (.ownM (fun _ => rfl)) (.cons (.plain rfl) .nil))) rfl) rfl ?_
         refine Qf E_good ?_
         refine Qf E_good ?_
         refine Qf E_good ?_
         refine Qf E_good ?_
         refine Qf E_good ?_
         refine SafeOps.nil ?_
         repeat first|apply sq|apply sk|with_reducible first|apply tn|apply bn
         refine Safe.region ?_
         refine Qf E_good ?_
         refine Qf E_good ?_
         refine Q0 E_good rfl (v := V.bool (x81 == 0)) (.fn rfl) ?_
         refine SafeOps.joinT 1 (fun (v82 : Int) => go_ring_Step_j134 a34 a25 x80 x81 v82 = some r) (fun (v82 : Int) => ⟨Try.f57.ntmps, [(0, V.ptr [31] 0 0), (6, V.ref [40, 18, 15, 0] 0 (rws (fun n => [I n]) x80).length), (21, V.bool (x81 == 0))], [([7], Obj.box [I 0, I 0, I 0, I 0, I 0, V.bool false, I 0]), ([28], Obj.rows 1 (rws (fun n => [I n]) ([] ++ a34)) false), ([31], Obj.box [I a25.Kind, I a25.Pc, I a25.V, I a25.T, I a25.B, V.bool a25.Won, I a25.State, V.ref [28] 0 (rws (fun n => [I n]) ([] ++ a34)).length, I a42.Base, I a42.Cap, I v82]), ([40, 18, 15, 0], Obj.rows 1 (rws (fun n => [I n]) x80) false)], [(Try.f44.ntmps, [(0, V.ptr [31] 0 0)]), (Try.f8.ntmps, [(7, V.ptr [7] 0 0), (9, V.ptr [31] 0 0)])], [40, 18]⟩) ?_ (fun HJ1543 => ?_)
         ·intro v82 h
          replace h : go_ring_Step_j134 a34 a25 x80 x81 v82 = some r := h
          rw [go_ring_Step_j134] at h
          refine SafeOps.nil ?_
          repeat first|apply sq|apply sk|with_reducible first|apply tn|apply bn
          refine ifG h (fun hc1544 h => ?_) (fun hc1544 h => ?_)
          ·skip
           refine Safe.condK rfl hc1544 ?_
           repeat first|apply sq|apply sk|with_reducible first|apply tn|apply bn
           refine Safe.region ?_
           refine Qf E_good ?_
           refine Qf E_good ?_
           refine Q0 E_good rfl (v := V.ptr [31] 0 0) (.fn rfl) ?_
           refine Q0 E_good rfl (v := V.ptr [31] 0 7) (.fn rfl) ?_
           refine SafeOps.store (z := Obj.box [I a25.Kind, I a25.Pc, I a25.V, I a25.T, I a25.B, V.bool a25.Won, I a25.State, V.ref [40, 18, 15, 0] 0 (rws (fun n => [I n]) x80).length, I a42.Base, I a42.Cap, I v82]) E_good rfl rfl rfl rfl rfl rfl rfl (.boxM (c := 11) rfl rfl (Nat.le_of_ble_eq_true rfl) rfl) ?_
           refine SafeOps.nil ?_
           repeat first|apply sq|apply sk|with_reducible first|apply tn|apply bn
           repeat (first | with_reducible refine thenQ.r ?_ | with_reducible refine blockQ.r ?_)
           refine inQ.gen (vs := []) (v := V.tup []) (.inl rfl) rfl .nil rfl ?_
           exact SafeOps.got (HJ1537 (x80, v82) h) (.ren [40, 18, 15, 0] [7000, 114, 31, 7] (.cov ⟨rfl, rfl, (ut upT_nil), (uo (uo (uo upOb_nil))), (upOut_cons rfl (ut (ut upT_nil)) upOut_nil), rfl⟩))
          ·skip
           refine Safe.condN rfl hc1544 ?_
           repeat first|apply sq|apply sk|with_reducible first|apply tn|apply bn
           repeat (first | with_reducible refine thenQ.r ?_ | with_reducible refine blockQ.r ?_)
           refine inQ.gen (vs := []) (v := V.tup []) (.inl rfl) rfl .nil rfl ?_
           exact SafeOps.got (HJ1537 ([] ++ a34, v82) h) (.ren [28] [7000, 114, 31, 7] (.cov ⟨rfl, rfl, (ut upT_nil), (uo (uo (uo upOb_nil))), (upOut_cons rfl (ut (ut upT_nil)) upOut_nil), rfl⟩))
         ·skip
          refine SafeOps.inline E_good rfl rfl rfl rfl rfl Try.func54 rfl (fun _ _ => Try.call54 _ _) rfl ?_
          repeat first|apply sq|apply sk|with_reducible first|apply tn|apply bn
          refine Safe.region ?_
          refine Qf E_good ?_
          refine SafeOps.nil ?_
          repeat first|apply sq|apply sk|with_reducible first|apply tn|apply bn
          refine Safe.region ?_
          refine Qf E_good ?_
          refine Q0 E_good rfl (v := V.bool (!(x81 == 0))) (.fn rfl) ?_
          refine SafeOps.nil ?_
          repeat first|apply sq|apply sk|with_reducible first|apply tn|apply bn
          refine ifG h (fun hc1545 h => ?_) (fun hc1545 h => ?_)
          ·skip
           refine Safe.condK rfl hc1545 ?_
           repeat first|apply sq|apply sk|with_reducible first|apply tn|apply bn
           refine Safe.region ?_
           refine Qf E_good ?_
           refine Q0 E_good rfl (v := V.ptr [31] 0 0) (.fn rfl) ?_
           refine Q0 E_good rfl (v := V.ptr [31] 0 10) (.fn rfl) ?_
           refine SafeOps.store (z := Obj.box [I a25.Kind, I a25.Pc, I a25.V, I a25.T, I a25.B, V.bool a25.Won, I a25.State, V.ref [28] 0 (rws (fun n => [I n]) ([] ++ a34)).length, I a42.Base, I a42.Cap, I 9]) E_good rfl rfl rfl rfl rfl rfl rfl (.boxM (c := 11) rfl rfl (Nat.le_of_ble_eq_true rfl) rfl) ?_
           refine SafeOps.nil ?_
           repeat first|apply sq|apply sk|with_reducible first|apply tn|apply bn
           refine Safe.region ?_
           refine Qf E_good ?_
           refine Qf E_good ?_
           refine SafeOps.nil ?_
           repeat first|apply sq|apply sk|with_reducible first|apply tn|apply bn
           refine Safe.ret ?_
           repeat (first | with_reducible refine thenQ.r ?_ | with_reducible refine blockQ.r ?_)
           refine inQ.gen (vs := [V.bool (x81 == 0)]) (v := V.bool (x81 == 0)) (.inr rfl) rfl (.tmp (v := V.bool (x81 == 0)) rfl .nil) rfl ?_
           exact SafeOps.got (HJ1543 (9) h) (.cov ⟨rfl, rfl, (ut (ut (ut upT_nil))), (uo (uo (uo (uo upOb_nil)))), (upOut_cons rfl (ut upT_nil) (upOut_cons rfl (ut (ut upT_nil)) upOut_nil)), rfl⟩)
          ·skip
           refine Safe.condN rfl hc1545 ?_
           repeat first|apply sq|apply sk|with_reducible first|apply tn|apply bn
           refine Safe.region ?_
           refine Qf E_good ?_
           refine Qf E_good ?_
           refine SafeOps.nil ?_
           repeat first|apply sq|apply sk|with_reducible first|apply tn|apply bn
           refine Safe.ret ?_
           repeat (first | with_reducible refine thenQ.r ?_ | with_reducible refine blockQ.r ?_)
           refine inQ.gen (vs := [V.bool (x81 == 0)]) (v := V.bool (x81 == 0)) (.inr rfl) rfl (.tmp (v := V.bool (x81 == 0)) rfl .nil) rfl ?_
           exact SafeOps.got (HJ1543 (v83) h) (.cov ⟨rfl, rfl, (ut (ut (ut upT_nil))), (uo (uo (uo (uo upOb_nil)))), (upOut_cons rfl (ut upT_nil) (upOut_cons rfl (ut (ut upT_nil)) upOut_nil)), rfl⟩)
       ·skip
        refine Safe.condN rfl hc1527 ?_
        repeat (first | refine Safe.skip ?_ | with_reducible refine thenQ.n ?_ | with_reducible refine blockQ.n ?_)
        exact Safe.got (HJ1526 ([] ++ a34, v83) h) (.ren [28] [7000, 114, 31, 7] (.cov ⟨rfl, rfl, (ut upT_nil), (uo (uo (uo upOb_nil))), (upOut_cons rfl (ut (ut upT_nil)) upOut_nil), rfl⟩))
     ·skip
      refine SafeOps.inline E_good rfl rfl rfl rfl rfl Try.func54 rfl (fun _ _ => Try.call54 _ _) rfl ?_
      repeat first|apply sq|apply sk|with_reducible first|apply tn|apply bn
      refine Safe.region ?_
      refine Qf E_good ?_
      refine SafeOps.nil ?_
      repeat first|apply sq|apply sk|with_reducible first|apply tn|apply bn
      refine Safe.region ?_
      refine Qf E_good ?_
      refine Q0 E_good rfl (v := V.bool (!(decide (a25.T ≥ 0)))) (.fn rfl) ?_
      refine SafeOps.nil ?_
      repeat first|apply sq|apply sk|with_reducible first|apply tn|apply bn
      refine ifG h (fun hc1546 h => ?_) (fun hc1546 h => ?_)
      ·skip
       refine Safe.condK rfl hc1546 ?_
       repeat first|apply sq|apply sk|with_reducible first|apply tn|apply bn
       refine Safe.region ?_
       refine Qf E_good ?_
       refine Q0 E_good rfl (v := V.ptr [31] 0 0) (.fn rfl) ?_
       refine Q0 E_good rfl (v := V.ptr [31] 0 10) (.fn rfl) ?_
       refine SafeOps.store (z := Obj.box [I a25.Kind, I a25.Pc, I a25.V, I a25.T, I a25.B, V.bool a25.Won, I a25.State, V.ref [28] 0 (rws (fun n => [I n]) ([] ++ a34)).length, I a42.Base, I a42.Cap, I 9]) E_good rfl rfl rfl rfl rfl rfl rfl (.boxM (c := 11) rfl rfl (Nat.le_of_ble_eq_true rfl) rfl) ?_
       refine SafeOps.nil ?_
       repeat first|apply sq|apply sk|with_reducible first|apply tn|apply bn
       refine Safe.region ?_
       refine Qf E_good ?_
       refine Qf E_good ?_
       refine SafeOps.nil ?_
       repeat first|apply sq|apply sk|with_reducible first|apply tn|apply bn
       refine Safe.ret ?_
       repeat (first | with_reducible refine thenQ.r ?_ | with_reducible refine blockQ.r ?_)
       refine inQ.gen (vs := [V.bool (decide (a25.T ≥ 0))]) (v := V.bool (decide (a25.T ≥ 0))) (.inr rfl) rfl (.tmp (v := V.bool (decide (a25.T ≥ 0))) rfl .nil) rfl ?_
       exact SafeOps.got (HJ1513 (9) h) (.cov ⟨rfl, rfl, (ut (ut upT_nil)), (uo (uo (uo upOb_nil))), (upOut_cons rfl (ut (ut upT_nil)) upOut_nil), rfl⟩)
      ·skip
       refine Safe.condN rfl hc1546 ?_
       repeat first|apply sq|apply sk|with_reducible first|apply tn|apply bn
       refine Safe.region ?_
       refine Qf E_good ?_
       refine Qf E_good ?_
       refine SafeOps.nil ?_
       repeat first|apply sq|apply sk|with_reducible first|apply tn|apply bn
       refine Safe.ret ?_
       repeat (first | with_reducible refine thenQ.r ?_ | with_reducible refine blockQ.r ?_)
       refine inQ.gen (vs := [V.bool (decide (a25.T ≥ 0))]) (v := V.bool (decide (a25.T ≥ 0))) (.inr rfl) rfl (.tmp (v := V.bool (decide (a25.T ≥ 0))) rfl .nil) rfl ?_
       exact SafeOps.got (HJ1513 (0) h) (.cov ⟨rfl, rfl, (ut (ut upT_nil)), (uo (uo (uo upOb_nil))), (upOut_cons rfl (ut (ut upT_nil)) upOut_nil), rfl⟩)
    refine ifP_G h (fun hq1547 h => ?_) (fun _ h => ?_)
    ·skip
     refine SafeOps.see 38 (u := V.fn 45 []) rfl (up_fn hq1547) ?_
     refine SafeOps.inline E_good rfl rfl rfl rfl rfl Try.func45 rfl (fun _ _ => Try.call45 _ _) rfl ?_
     repeat first|apply sq|apply sk|with_reducible first|apply tn|apply bn
     refine Safe.region ?_
     refine Qf E_good ?_
     refine Qf E_good ?_
     refine Q0 E_good rfl (v := V.ptr [31] 0 0) (.fn rfl) ?_
     refine Q0 E_good rfl (v := V.ptr [31] 0 0) (.fn rfl) ?_
     refine Q0 E_good rfl (v := V.ptr [31] 0 4) (.fn rfl) ?_
     refine Q0 E_good rfl (v := I a25.B) (.load rfl rfl (.box rfl rfl) rfl) ?_
     refine Q0 E_good rfl (v := V.bool (decide (a25.B ≥ 0))) (.fn rfl) ?_
     refine SafeOps.joinT 1 (fun (v90 : Int) => go_ring_Step_j135 a34 a42 a25 v90 = some r) (fun (v90 : Int) => ⟨Try.f45.ntmps, [(0, V.ptr [31] 0 0), (9, V.bool (decide (a25.B ≥ 0)))], [([7], Obj.box [I 0, I 0, I 0, I 0, I 0, V.bool false, I 0]), ([28], Obj.rows 1 (rws (fun n => [I n]) ([] ++ a34)) false), ([31], Obj.box [I a25.Kind, I a25.Pc, I a25.V, I a25.T, I a25.B, V.bool a25.Won, I a25.State, V.ref [28] 0 (rws (fun n => [I n]) ([] ++ a34)).length, I a42.Base, I a42.Cap, I v90])], [(Try.f8.ntmps, [(7, V.ptr [7] 0 0), (9, V.ptr [31] 0 0)])], [40]⟩) ?_ (fun HJ1550 => ?_)
     ·intro v90 h
      replace h : go_ring_Step_j135 a34 a42 a25 v90 = some r := h
      rw [go_ring_Step_j135] at h
      refine SafeOps.nil ?_
      repeat first|apply sq|apply sk|with_reducible first|apply tn|apply bn
      refine Safe.joinT (fun ((v84, v85) : Int × Int) => go_ring_Step_j138 a34 a25 v84 v85 = some r) (fun ((v84, v85) : Int × Int) => ⟨Try.f45.ntmps, [(0, V.ptr [31] 0 0)], [([7], Obj.box [I 0, I 0, I 0, I 0, I 0, V.bool false, I 0]), ([28], Obj.rows 1 (rws (fun n => [I n]) ([] ++ a34)) false), ([31], Obj.box [I a25.Kind, I a25.Pc, I v84, I a25.T, I a25.B, V.bool a25.Won, I a25.State, V.ref [28] 0 (rws (fun n => [I n]) ([] ++ a34)).length, I a42.Base, I a42.Cap, I v85])], [(Try.f8.ntmps, [(7, V.ptr [7] 0 0), (9, V.ptr [31] 0 0)])], [40]⟩) ?_ (fun HJ1567 => ?_)
      ·rintro ⟨v84, v85⟩ h
       replace h : go_ring_Step_j138 a34 a25 v84 v85 = some r := h
       rw [go_ring_Step_j138] at h
       repeat first|apply sq|apply sk|with_reducible first|apply tn|apply bn
       refine Safe.regionD (n := 13) [] [12] E_good mixed rfl ?_
       refine DT 0 [] rfl rfl (fun _ hz => (.fn rfl)) ?_
       refine DT 1 [] rfl rfl (fun _ hz => (.fn rfl)) ?_
       refine DT 2 [] rfl rfl (v := V.ptr [31] 0 0) (fun _ hz => (.fn rfl)) ?_
       refine DT 3 [] rfl rfl (v := V.ptr [31] 0 0) (fun _ hz => (.fn rfl)) ?_
       refine DT 4 [] rfl rfl (v := V.ptr [31] 0 4) (fun _ hz => (.fn rfl)) ?_
       refine DT 5 [] rfl rfl (v := I a25.B) (fun _ hz => (.load rfl rfl (.box (hz _ _ rfl rfl) rfl) rfl)) ?_
       refine DT 6 [] rfl rfl (fun _ hz => (.fn rfl)) ?_
       refine DT 7 [] rfl rfl (v := V.ptr [31] 0 0) (fun _ hz => (.fn rfl)) ?_
       refine DT 8 [] rfl rfl (v := V.ptr [31] 0 0) (fun _ hz => (.fn rfl)) ?_
       refine DT 9 [] rfl rfl (v := V.ptr [31] 0 3) (fun _ hz => (.fn rfl)) ?_
       refine DT 10 [] rfl rfl (v := I a25.T) (fun _ hz => (.load rfl rfl (.box (hz _ _ rfl rfl) rfl) rfl)) ?_
       refine DT 11 [] rfl rfl (v := V.bool (decide (a25.B > a25.T))) (fun _ hz => (.fn rfl)) ?_
       refine DAny.onlyS (i := 12) rfl (by kernel_rfl) rfl ?_
       refine SafeOps.joinT 1 (fun ((v86, v87) : Int × Int) => go_ring_Step_j139 a34 a25 v84 v85 v86 v87 = some r) (fun ((v86, v87) : Int × Int) => ⟨Try.f45.ntmps, [], [([7], Obj.box [I 0, I 0, I 0, I 0, I 0, V.bool false, I 0]), ([28], Obj.rows 1 (rws (fun n => [I n]) ([] ++ a34)) false), ([31], Obj.box [I a25.Kind, I v86, I v84, I a25.T, I a25.B, V.bool a25.Won, I v87, V.ref [28] 0 (rws (fun n => [I n]) ([] ++ a34)).length, I a42.Base, I a42.Cap, I v85])], [(Try.f8.ntmps, [(7, V.ptr [7] 0 0), (9, V.ptr [31] 0 0)])], [40]⟩) ?_ (fun HJ1571 => ?_)
       ·rintro ⟨v86, v87⟩ h
        replace h : go_ring_Step_j139 a34 a25 v84 v85 v86 v87 = some r := h
        rw [go_ring_Step_j139] at h
        refine SafeOps.nil ⟨rfl, ?_⟩
        refine DAny.nil (by kernel_rfl) ?_
        repeat first|apply sq|apply sk|with_reducible first|apply tn|apply bn
        repeat (first | with_reducible refine thenQ.r ?_ | with_reducible refine blockQ.r ?_)
        refine inQ.gen (vs := []) (v := V.tup []) (.inl rfl) rfl .nil rfl ?_
        exact SafeOps.got (HJ1246 (v86, v84, a25.T, a25.B, a25.Won, v87, [] ++ a34, v85) h) (.ren [28] [7000, 114, 31, 7] (.cov ⟨rfl, rfl, (ut (ut upT_nil)), (uo (uo (uo upOb_nil))), upOut_nil, rfl⟩))
       ·skip
        refine SafeOps.inline E_good rfl rfl rfl rfl rfl Try.func56 rfl (fun _ _ => Try.call56 _ _) rfl ?_
        repeat first|apply sq|apply sk|with_reducible first|apply tn|apply bn
        refine Safe.region ?_
        refine Qf E_good ?_
        refine SafeOps.nil ?_
        repeat first|apply sq|apply sk|with_reducible first|apply tn|apply bn
        refine ifG h (fun hc1572 h => ?_) (fun hc1572 h => ?_)
        ·skip
         refine Safe.condK rfl hc1572 ?_
         repeat first|apply sq|apply sk|with_reducible first|apply tn|apply bn
         refine Safe.region ?_
         refine Qf E_good ?_
         refine Qf E_good ?_
         refine Q0 E_good rfl (v := V.ptr [31] 0 0) (.fn rfl) ?_
         refine Q0 E_good rfl (v := V.ptr [31] 0 0) (.fn rfl) ?_
         refine Q0 E_good rfl (v := V.ptr [31] 0 6) (.fn rfl) ?_
         refine SafeOps.store (z := Obj.box [I a25.Kind, I a25.Pc, I v84, I a25.T, I a25.B, V.bool a25.Won, I 1, V.ref [28] 0 (rws (fun n => [I n]) ([] ++ a34)).length, I a42.Base, I a42.Cap, I v85]) E_good rfl rfl rfl rfl rfl rfl rfl (.boxM (c := 11) rfl rfl (Nat.le_of_ble_eq_true rfl) rfl) ?_
         refine SafeOps.nil ?_
         repeat first|apply sq|apply sk|with_reducible first|apply tn|apply bn
         refine Safe.ret ?_
         repeat (first | with_reducible refine thenQ.r ?_ | with_reducible refine blockQ.r ?_)
         refine inQ.gen (vs := []) (v := V.tup []) (.inr rfl) rfl .nil rfl ?_
         exact SafeOps.got (HJ1571 (a25.Pc, 1) h) (.cov ⟨rfl, rfl, upT_nil, (uo (uo (uo upOb_nil))), (upOut_cons rfl (ut (ut upT_nil)) upOut_nil), rfl⟩)
        ·skip
         refine Safe.condN rfl hc1572 ?_
         repeat first|apply sq|apply sk|with_reducible first|apply tn|apply bn
         refine Safe.region ?_
         refine Qf E_good ?_
         refine Qf E_good ?_
         refine Q0 E_good rfl (v := V.ptr [31] 0 0) (.fn rfl) ?_
         refine Q0 E_good rfl (v := V.ptr [31] 0 0) (.fn rfl) ?_
         refine Q0 E_good rfl (v := V.ptr [31] 0 1) (.fn rfl) ?_
         refine SafeOps.store (z := Obj.box [I a25.Kind, I 5, I v84, I a25.T, I a25.B, V.bool a25.Won, I a25.State, V.ref [28] 0 (rws (fun n => [I n]) ([] ++ a34)).length, I a42.Base, I a42.Cap, I v85]) E_good rfl rfl rfl rfl rfl rfl rfl (.boxM (c := 11) rfl rfl (Nat.le_of_ble_eq_true rfl) rfl) ?_
         refine SafeOps.nil ?_
         repeat first|apply sq|apply sk|with_reducible first|apply tn|apply bn
         repeat (first | with_reducible refine thenQ.r ?_ | with_reducible refine blockQ.r ?_)
         refine inQ.gen (vs := []) (v := V.tup []) (.inl rfl) rfl .nil rfl ?_
         exact SafeOps.got (HJ1571 (5, a25.State) h) (.cov ⟨rfl, rfl, upT_nil, (uo (uo (uo upOb_nil))), (upOut_cons rfl (ut (ut upT_nil)) upOut_nil), rfl⟩)
      ·skip
       refine ifG h (fun hc1573 h => ?_) (fun hc1573 h => ?_)
       ·skip
        refine Safe.condK rfl hc1573 ?_
        repeat first|apply sq|apply sk|with_reducible first|apply tn|apply bn
        refine Safe.region ?_
        refine Qf E_good ?_
        refine Qf E_good ?_
        refine Qf E_good ?_
        refine Qf E_good ?_
        refine Q0 E_good rfl (v := V.ptr [31] 0 0) (.fn rfl) ?_
        refine Q0 E_good rfl (v := V.ptr [31] 0 0) (.fn rfl) ?_
        refine Q0 E_good rfl (v := V.ptr [31] 0 4) (.fn rfl) ?_
        refine Q0 E_good rfl (v := I a25.B) (.load rfl rfl (.box rfl rfl) rfl) ?_
        refine bindG h ?_
        intro x91 he1575 h
        refine Q0 E_good rfl (v := I x91) (.callS rfl (.cons (.box rfl (.cons (.free rfl) (.cons (.free rfl) (.cons (.free rfl) (.cons (.free rfl) (.cons (.free rfl) (.cons (.free rfl) (.cons (.free rfl) (.cons (.full rfl rfl) (.cons (.free rfl) (.cons (.free rfl) (.cons (.free rfl) .nil)))))))))))) (.cons (.free rfl) .nil)) (go_pring_actor_slot_sc (ring_actor.mk a25 ([] ++ a34) a42 v90) a25.B _ he1575) (.plain rfl) rfl) ?_
        refine SafeOps.inline E_good rfl rfl rfl rfl rfl Try.func31 rfl (fun _ _ => Try.call31 _ _) rfl ?_
        repeat first|apply sq|apply sk|with_reducible first|apply tn|apply bn
        refine Safe.region ?_
        refine Qf E_good ?_
        refine SafeOps.nil ?_
        repeat first|apply sq|apply sk|with_reducible first|apply tn|apply bn
        refine Safe.region ?_
        refine Qf E_good ?_
        refine Q0 E_good rfl (v := V.ptr [31] 0 0) (.fn rfl) ?_
        refine Q0 E_good rfl (v := V.ptr [31] 0 7) (.fn rfl) ?_
        refine Q0 E_good rfl (v := V.ref [28] 0 (rws (fun n => [I n]) ([] ++ a34)).length) (.load rfl rfl (.box rfl rfl) rfl) ?_
        refine Qf E_good ?_
        refine bindG h ?_
        rintro ⟨x88, x92⟩ he1584 h
        refine Q0 E_good rfl (v := V.tup [I x88, I x92]) (.callS rfl (.cons (.full rfl rfl) (.cons (.free rfl) .nil)) (go_cell_Load_sc ([] ++ a34) x91 _ he1584) (.tupL (.cons (.plain rfl) (.cons (.plain rfl) .nil))) rfl) ?_
        refine Qf E_good ?_
        refine Qf E_good ?_
        refine Qf E_good ?_
        refine Qf E_good ?_
        refine Qf E_good ?_
        refine SafeOps.nil ?_
        repeat first|apply sq|apply sk|with_reducible first|apply tn|apply bn
        refine Safe.region ?_
        refine Qf E_good ?_
        refine Qf E_good ?_
        refine Q0 E_good rfl (v := V.bool (x92 == 0)) (.fn rfl) ?_
        refine SafeOps.joinT 1 (fun (v89 : Int) => go_ring_Step_j141 a34 a25 x88 v89 = some r) (fun (v89 : Int) => ⟨Try.f31.ntmps, [(5, I x88)], [([7], Obj.box [I 0, I 0, I 0, I 0, I 0, V.bool false, I 0]), ([28], Obj.rows 1 (rws (fun n => [I n]) ([] ++ a34)) false), ([31], Obj.box [I a25.Kind, I a25.Pc, I a25.V, I a25.T, I a25.B, V.bool a25.Won, I a25.State, V.ref [28] 0 (rws (fun n => [I n]) ([] ++ a34)).length, I a42.Base, I a42.Cap, I v89])], [(Try.f45.ntmps, [(0, V.ptr [31] 0 0), (10, V.ptr [31] 0 0)]), (Try.f8.ntmps, [(7, V.ptr [7] 0 0), (9, V.ptr [31] 0 0)])], [40, 19]⟩) ?_ (fun HJ1587 => ?_)
        ·intro v89 h
         replace h : go_ring_Step_j141 a34 a25 x88 v89 = some r := h
         rw [go_ring_Step_j141] at h
         refine SafeOps.nil ?_
         repeat first|apply sq|apply sk|with_reducible first|apply tn|apply bn
         refine Safe.region ?_
         refine Qf E_good ?_
         refine Qf E_good ?_
         refine SafeOps.nil ?_
         repeat first|apply sq|apply sk|with_reducible first|apply tn|apply bn
         refine Safe.ret ?_
         repeat (first | with_reducible refine thenQ.r ?_ | with_reducible refine blockQ.r ?_)
         refine inQ.gen (vs := [I x88]) (v := I x88) (.inr rfl) rfl (.tmp (v := I x88) rfl .nil) rfl ?_
         refine Q0 E_good rfl (v := V.ptr [31] 0 0) (.fn rfl) ?_
         refine Q0 E_good rfl (v := V.ptr [31] 0 0) (.fn rfl) ?_
         refine Q0 E_good rfl (v := V.ptr [31] 0 2) (.fn rfl) ?_
         refine SafeOps.store (z := Obj.box [I a25.Kind, I a25.Pc, I x88, I a25.T, I a25.B, V.bool a25.Won, I a25.State, V.ref [28] 0 (rws (fun n => [I n]) ([] ++ a34)).length, I a42.Base, I a42.Cap, I v89]) E_good rfl rfl rfl rfl rfl rfl rfl (.boxM (c := 11) rfl rfl (Nat.le_of_ble_eq_true rfl) rfl) ?_
         refine SafeOps.nil ?_
         repeat (first | refine Safe.skip ?_ | with_reducible refine thenQ.n ?_ | with_reducible refine blockQ.n ?_)
         exact Safe.got (HJ1567 (x88, v89) h) (.cov ⟨rfl, rfl, (ut upT_nil), (uo (uo (uo upOb_nil))), (upOut_cons rfl (ut (ut upT_nil)) upOut_nil), rfl⟩)
        ·skip
         refine SafeOps.inline E_good rfl rfl rfl rfl rfl Try.func54 rfl (fun _ _ => Try.call54 _ _) rfl ?_
         repeat first|apply sq|apply sk|with_reducible first|apply tn|apply bn
         refine Safe.region ?_
         refine Qf E_good ?_
         refine SafeOps.nil ?_
         repeat first|apply sq|apply sk|with_reducible first|apply tn|apply bn
         refine Safe.region ?_
         refine Qf E_good ?_
         refine Q0 E_good rfl (v := V.bool (!(x92 == 0))) (.fn rfl) ?_
         refine SafeOps.nil ?_
         repeat first|apply sq|apply sk|with_reducible first|apply tn|apply bn
         refine ifG h (fun hc1588 h => ?_) (fun hc1588 h => ?_)
         ·skip
          refine Safe.condK rfl hc1588 ?_
          repeat first|apply sq|apply sk|with_reducible first|apply tn|apply bn
          refine Safe.region ?_
          refine Qf E_good ?_
          refine Q0 E_good rfl (v := V.ptr [31] 0 0) (.fn rfl) ?_
          refine Q0 E_good rfl (v := V.ptr [31] 0 10) (.fn rfl) ?_
          refine SafeOps.store (z := Obj.box [I a25.Kind, I a25.Pc, I a25.V, I a25.T, I a25.B, V.bool a25.Won, I a25.State, V.ref [28] 0 (rws (fun n => [I n]) ([] ++ a34)).length, I a42.Base, I a42.Cap, I 9]) E_good rfl rfl rfl rfl rfl rfl rfl (.boxM (c := 11) rfl rfl (Nat.le_of_ble_eq_true rfl) rfl) ?_
          refine SafeOps.nil ?_
          repeat first|apply sq|apply sk|with_reducible first|apply tn|apply bn
          refine Safe.region ?_
          refine Qf E_good ?_
          refine Qf E_good ?_
          refine SafeOps.nil ?_
          repeat first|apply sq|apply sk|with_reducible first|apply tn|apply bn
          refine Safe.ret ?_
          repeat (first | with_reducible refine thenQ.r ?_ | with_reducible refine blockQ.r ?_)
          refine inQ.gen (vs := [V.bool (x92 == 0)]) (v := V.bool (x92 == 0)) (.inr rfl) rfl (.tmp (v := V.bool (x92 == 0)) rfl .nil) rfl ?_
          exact SafeOps.got (HJ1587 (9) h) (.cov ⟨rfl, rfl, (ut upT_nil), (uo (uo (uo upOb_nil))), (upOut_cons rfl (ut (ut upT_nil)) (upOut_cons rfl (ut (ut upT_nil)) upOut_nil)), rfl⟩)
         ·skip
          refine Safe.condN rfl hc1588 ?_
          repeat first|apply sq|apply sk|with_reducible first|apply tn|apply bn
          refine Safe.region ?_
          refine Qf E_good ?_
          refine Qf E_good ?_
          refine SafeOps.nil ?_
          repeat first|apply sq|apply sk|with_reducible first|apply tn|apply bn
          refine Safe.ret ?_
          repeat (first | with_reducible refine thenQ.r ?_ | with_reducible refine blockQ.r ?_)
          refine inQ.gen (vs := [V.bool (x92 == 0)]) (v := V.bool (x92 == 0)) (.inr rfl) rfl (.tmp (v := V.bool (x92 == 0)) rfl .nil) rfl ?_
          exact SafeOps.got (HJ1587 (v90) h) (.cov ⟨rfl, rfl, (ut upT_nil), (uo (uo (uo upOb_nil))), (upOut_cons rfl (ut (ut upT_nil)) (upOut_cons rfl (ut (ut upT_nil)) upOut_nil)), rfl⟩)
       ·skip
        refine Safe.condN rfl hc1573 ?_
        repeat (first | refine Safe.skip ?_ | with_reducible refine thenQ.n ?_ | with_reducible refine blockQ.n ?_)
        exact Safe.got (HJ1567 (a25.V, v90) h) (.cov ⟨rfl, rfl, (ut upT_nil), (uo (uo (uo upOb_nil))), (upOut_cons rfl (ut (ut upT_nil)) upOut_nil), rfl⟩)
     ·skip
      refine SafeOps.inline E_good rfl rfl rfl rfl rfl Try.func54 rfl (fun _ _ => Try.call54 _ _) rfl ?_
      repeat first|apply sq|apply sk|with_reducible first|apply tn|apply bn
      refine Safe.region ?_
      refine Qf E_good ?_
      refine SafeOps.nil ?_
      repeat first|apply sq|apply sk|with_reducible first|apply tn|apply bn
      refine Safe.region ?_
      refine Qf E_good ?_
      refine Q0 E_good rfl (v := V.bool (!(decide (a25.B ≥ 0)))) (.fn rfl) ?_
      refine SafeOps.nil ?_
      repeat first|apply sq|apply sk|with_reducible first|apply tn|apply bn
      refine ifG h (fun hc1589 h => ?_) (fun hc1589 h => ?_)
      ·skip
       refine Safe.condK rfl hc1589 ?_
       repeat first|apply sq|apply sk|with_reducible first|apply tn|apply bn
       refine Safe.region ?_
       refine Qf E_good ?_
       refine Q0 E_good rfl (v := V.ptr [31] 0 0) (.fn rfl) ?_
       refine Q0 E_good rfl (v := V.ptr [31] 0 10) (.fn rfl) ?_
       refine SafeOps.store (z := Obj.box [I a25.Kind, I a25.Pc, I a25.V, I a25.T, I a25.B, V.bool a25.Won, I a25.State, V.ref [28] 0 (rws (fun n => [I n]) ([] ++ a34)).length, I a42.Base, I a42.Cap, I 9]) E_good rfl rfl rfl rfl rfl rfl rfl (.boxM (c := 11) rfl rfl (Nat.le_of_ble_eq_true rfl) rfl) ?_
       refine SafeOps.nil ?_
       repeat first|apply sq|apply sk|with_reducible first|apply tn|apply bn
       refine Safe.region ?_
       refine Qf E_good ?_
       refine Qf E_good ?_
       refine SafeOps.nil ?_
       repeat first|apply sq|apply sk|with_reducible first|apply tn|apply bn
       refine Safe.ret ?_
       repeat (first | with_reducible refine thenQ.r ?_ | with_reducible refine blockQ.r ?_)
       refine inQ.gen (vs := [V.bool (decide (a25.B ≥ 0))]) (v := V.bool (decide (a25.B ≥ 0))) (.inr rfl) rfl (.tmp (v := V.bool (decide (a25.B ≥ 0))) rfl .nil) rfl ?_
       exact SafeOps.got (HJ1550 (9) h) (.cov ⟨rfl, rfl, (ut (ut upT_nil)), (uo (uo (uo upOb_nil))), (upOut_cons rfl (ut (ut upT_nil)) upOut_nil), rfl⟩)
      ·skip
       refine Safe.condN rfl hc1589 ?_
       repeat first|apply sq|apply sk|with_reducible first|apply tn|apply bn
       refine Safe.region ?_
       refine Qf E_good ?_
       refine Qf E_good ?_
       refine SafeOps.nil ?_
       repeat first|apply sq|apply sk|with_reducible first|apply tn|apply bn
       refine Safe.ret ?_
       repeat (first | with_reducible refine thenQ.r ?_ | with_reducible refine blockQ.r ?_)
       refine inQ.gen (vs := [V.bool (decide (a25.B ≥ 0))]) (v := V.bool (decide (a25.B ≥ 0))) (.inr rfl) rfl (.tmp (v := V.bool (decide (a25.B ≥ 0))) rfl .nil) rfl ?_
       exact SafeOps.got (HJ1550 (0) h) (.cov ⟨rfl, rfl, (ut (ut upT_nil)), (uo (uo (uo upOb_nil))), (upOut_cons rfl (ut (ut upT_nil)) upOut_nil), rfl⟩)
    refine ifP_G h (fun hq1590 h => ?_) (fun _ h => ?_)
    ·skip
     refine SafeOps.see 38 (u := V.fn 46 []) rfl (up_fn hq1590) ?_
     refine SafeOps.inline E_good rfl rfl rfl rfl rfl Try.func46 rfl (fun _ _ => Try.call46 _ _) rfl ?_
     repeat first|apply sq|apply sk|with_reducible first|apply tn|apply bn
     refine Safe.region ?_
     refine Qf E_good ?_
     refine Qf E_good ?_
     refine Qf E_good ?_
     refine Q0 E_good rfl (v := V.ptr [31] 0 0) (.fn rfl) ?_
     refine Q0 E_good rfl (v := V.ptr [31] 0 0) (.fn rfl) ?_
     refine Q0 E_good rfl (v := V.ptr [31] 0 3) (.fn rfl) ?_
     refine Q0 E_good rfl (v := I a25.T) (.load rfl rfl (.box rfl rfl) rfl) ?_
     refine Q0 E_good rfl (v := V.bool (decide (a25.T ≥ 0))) (.fn rfl) ?_
     refine SafeOps.joinT 1 (fun (v100 : Int) => go_ring_Step_j142 a34 a42 a25 v100 = some r) (fun (v100 : Int) => ⟨Try.f46.ntmps, [(0, V.ptr [31] 0 0), (2, V.ptr [31] 0 0), (10, V.bool (decide (a25.T ≥ 0)))], [([7], Obj.box [I 0, I 0, I 0, I 0, I 0, V.bool false, I 0]), ([28], Obj.rows 1 (rws (fun n => [I n]) ([] ++ a34)) false), ([31], Obj.box [I a25.Kind, I a25.Pc, I a25.V, I a25.T, I a25.B, V.bool a25.Won, I a25.State, V.ref [28] 0 (rws (fun n => [I n]) ([] ++ a34)).length, I a42.Base, I a42.Cap, I v100])], [(Try.f8.ntmps, [(7, V.ptr [7] 0 0), (9, V.ptr [31] 0 0)])], [40]⟩) ?_ (fun HJ1593 => ?_)
     ·intro v100 h
      replace h : go_ring_Step_j142 a34 a42 a25 v100 = some r := h
      rw [go_ring_Step_j142] at h
      refine Qf E_good ?_
      refine ifG h (fun hc1594 h => ?_) (fun hc1594 h => ?_)
      ·skip
       refine qT E_good hc1594 (.fn rfl) ?_
       refine SafeOps.joinT 1 (fun ((v93, v94, v95) : Bool × (List Int) × Int) => go_ring_Step_j144 a25 v93 v94 v95 = some r) (fun ((v93, v94, v95) : Bool × (List Int) × Int) => ⟨Try.f46.ntmps, [(0, V.ptr [31] 0 0), (2, V.ptr [31] 0 0), (11, V.bool (decide (a25.T ≥ 0))), (13, V.bool v93)], [([7], Obj.box [I 0, I 0, I 0, I 0, I 0, V.bool false, I 0]), ([31], Obj.box [I a25.Kind, I a25.Pc, I a25.V, I a25.T, I a25.B, V.bool a25.Won, I a25.State, V.ref [7000, 114, 31, 7] 0 (rws (fun n => [I n]) v94).length, I a42.Base, I a42.Cap, I v95]), ([7000, 114, 31, 7], Obj.rows 1 (rws (fun n => [I n]) v94) false)], [(Try.f8.ntmps, [(7, V.ptr [7] 0 0), (9, V.ptr [31] 0 0)])], [40]⟩) ?_ (fun HJ1641 => ?_)
       ·rintro ⟨v93, v94, v95⟩ h
        replace h : go_ring_Step_j144 a25 v93 v94 v95 = some r := h
        rw [go_ring_Step_j144] at h
        refine Q0 E_good rfl (v := V.bool v93) (.pickK rfl hc1594 rfl) ?_
        refine Q0 E_good rfl (v := V.ptr [31] 0 0) (.fn rfl) ?_
        refine Q0 E_good rfl (v := V.ptr [31] 0 0) (.fn rfl) ?_
        refine Q0 E_good rfl (v := V.ptr [31] 0 5) (.fn rfl) ?_
        refine SafeOps.store (z := Obj.box [I a25.Kind, I a25.Pc, I a25.V, I a25.T, I a25.B, V.bool v93, I a25.State, V.ref [7000, 114, 31, 7] 0 (rws (fun n => [I n]) v94).length, I a42.Base, I a42.Cap, I v95]) E_good rfl rfl rfl rfl rfl rfl rfl (.boxM (c := 11) rfl rfl (Nat.le_of_ble_eq_true rfl) rfl) ?_
        refine SafeOps.nil ?_
        repeat first|apply sq|apply sk|with_reducible first|apply tn|apply bn
        refine Safe.region ?_
        refine Qf E_good ?_
        refine Q0 E_good rfl (v := V.ptr [31] 0 0) (.fn rfl) ?_
        refine Q0 E_good rfl (v := V.ptr [31] 0 0) (.fn rfl) ?_
        refine Q0 E_good rfl (v := V.ptr [31] 0 1) (.fn rfl) ?_
        refine Q0 E_good rfl (v := I a25.Pc) (.load rfl rfl (.box rfl rfl) rfl) ?_
        refine Q0 E_good rfl (v := I (IntKind.i64.wrap (a25.Pc + 1))) (.fn rfl) ?_
        refine Q0 E_good rfl (v := V.ptr [31] 0 0) (.fn rfl) ?_
        refine Q0 E_good rfl (v := V.ptr [31] 0 0) (.fn rfl) ?_
        refine Q0 E_good rfl (v := V.ptr [31] 0 1) (.fn rfl) ?_
        refine SafeOps.store (z := Obj.box [I a25.Kind, I (IntKind.i64.wrap (a25.Pc + 1)), I a25.V, I a25.T, I a25.B, V.bool v93, I a25.State, V.ref [7000, 114, 31, 7] 0 (rws (fun n => [I n]) v94).length, I a42.Base, I a42.Cap, I v95]) E_good rfl rfl rfl rfl rfl rfl rfl (.boxM (c := 11) rfl rfl (Nat.le_of_ble_eq_true rfl) rfl) ?_
        refine SafeOps.nil ?_
        repeat first|apply sq|apply sk|with_reducible first|apply tn|apply bn
        repeat (first | with_reducible refine thenQ.r ?_ | with_reducible refine blockQ.r ?_)
        refine inQ.gen (vs := []) (v := V.tup []) (.inl rfl) rfl .nil rfl ?_
        exact SafeOps.got (HJ1246 (IntKind.i64.wrap (a25.Pc + 1), a25.V, a25.T, a25.B, v93, a25.State, v94, v95) h) (.cov ⟨rfl, rfl, (ut (ut upT_nil)), (uo (uo (uo upOb_nil))), upOut_nil, rfl⟩)
       ·skip
        refine SafeOps.inline E_good (congrArg some hc1594) rfl rfl rfl rfl Try.func58 rfl (fun _ _ => Try.call58 _ _) rfl ?_
        repeat first|apply sq|apply sk|with_reducible first|apply tn|apply bn
        refine Safe.region ?_
        refine Qf E_good ?_
        refine SafeOps.nil ?_
        repeat first|apply sq|apply sk|with_reducible first|apply tn|apply bn
        refine Safe.regionD (n := 25) [] [] E_good mixed rfl ?_
        refine DT 0 [] rfl rfl (fun _ hz => (.fn rfl)) ?_
        refine DT 1 [] rfl rfl (v := V.ptr [31] 0 0) (fun _ hz => (.fn rfl)) ?_
        refine DT 2 [] rfl rfl (v := V.ptr [31] 0 7) (fun _ hz => (.fn rfl)) ?_
        refine DT 3 [] rfl rfl (v := V.ref [28] 0 (rws (fun n => [I n]) ([] ++ a34)).length) (fun _ hz => (.load rfl rfl (.box (hz _ _ rfl rfl) rfl) rfl)) ?_
        refine DT 4 [] rfl rfl (fun _ hz => (.fn rfl)) ?_
        refine DT 5 [] rfl rfl (v := I (go_pring_actor_top (ring_actor.mk a25 ([] ++ a34) a42 v100))) (fun _ hz => (.callS rfl (.cons (.box (hz _ _ rfl rfl) (.cons (.free rfl) (.cons (.free rfl) (.cons (.free rfl) (.cons (.free rfl) (.cons (.free rfl) (.cons (.free rfl) (.cons (.free rfl) (.cons (.full (hz _ _ rfl rfl) rfl) (.cons (.free rfl) (.cons (.free rfl) (.cons (.free rfl) .nil)))))))))))) .nil) (go_pring_actor_top_sc (ring_actor.mk a25 ([] ++ a34) a42 v100) _ rfl) (.plain rfl) rfl)) ?_
        refine DT 6 [] rfl rfl (fun _ hz => (.fn rfl)) ?_
        refine DT 7 [] rfl rfl (v := V.ptr [31] 0 0) (fun _ hz => (.fn rfl)) ?_
        refine DT 8 [] rfl rfl (v := V.ptr [31] 0 0) (fun _ hz => (.fn rfl)) ?_
        refine DT 9 [] rfl rfl (v := V.ptr [31] 0 3) (fun _ hz => (.fn rfl)) ?_
        refine DT 10 [] rfl rfl (v := I a25.T) (fun _ hz => (.load rfl rfl (.box (hz _ _ rfl rfl) rfl) rfl)) ?_
        refine DT 11 [] rfl rfl (fun _ hz => (.fn rfl)) ?_
        refine DT 12 [] rfl rfl (v := V.ptr [31] 0 0) (fun _ hz => (.fn rfl)) ?_
        refine DT 13 [] rfl rfl (v := V.ptr [31] 0 0) (fun _ hz => (.fn rfl)) ?_
        refine DT 14 [] rfl rfl (v := V.ptr [31] 0 3) (fun _ hz => (.fn rfl)) ?_
        refine DT 15 [] rfl rfl (v := I a25.T) (fun _ hz => (.load rfl rfl (.box (hz _ _ rfl rfl) rfl) rfl)) ?_
        refine DT 16 [] rfl rfl (v := I (IntKind.i64.wrap (a25.T + 1))) (fun _ hz => (.fn rfl)) ?_
        refine bindG h ?_
        rintro ⟨x96, x97, x98⟩ he1645 h
        refine DAny.only (i := 17) rfl (by kernel_rfl) (.quiet rfl rfl rfl (v := V.tup [V.ref [40, 13, 24, 0] 0 (rws (fun n => [I n]) x96).length, V.bool x97, I x98]) (.callS rfl (.cons (.full rfl rfl) (.cons (.free rfl) (.cons (.free rfl) (.cons (.free rfl) .nil)))) (go_cell_Cas_sc ([] ++ a34) (go_pring_actor_top (ring_actor.mk a25 ([] ++ a34) a42 v100)) a25.T (IntKind.i64.wrap (a25.T + 1)) _ he1645) (.tupL (.cons (.ownM (fun _ => rfl)) (.cons (.plain rfl) (.cons (.plain rfl) .nil)))) rfl) rfl ?_)
        refine DT 18 [] rfl rfl (fun _ hz => (.fn rfl)) ?_
        refine DT 19 [] rfl rfl (fun _ hz => (.fn rfl)) ?_
        refine DT 20 [] rfl rfl (fun _ hz => (.fn rfl)) ?_
        refine DT 21 [] rfl rfl (fun _ hz => (.fn rfl)) ?_
        refine DT 22 [] rfl rfl (fun _ hz => (.fn rfl)) ?_
        refine DT 23 [] rfl rfl (fun _ hz => (.fn rfl)) ?_
        refine DT 24 [] rfl rfl (fun _ hz => (.fn rfl)) ?_
        refine DAny.nil (by kernel_rfl) ?_
        repeat first|apply sq|apply sk|with_reducible first|apply tn|apply bn
        refine Safe.region ?_
        refine Qf E_good ?_
        refine Qf E_good ?_
        refine Q0 E_good rfl (v := V.bool (x98 == 0)) (.fn rfl) ?_
        refine SafeOps.joinT 1 (fun (v99 : Int) => go_ring_Step_j145 a34 a25 x96 x97 x98 v99 = some r) (fun (v99 : Int) => ⟨Try.f58.ntmps, [(0, V.ptr [31] 0 0), (3, V.ref [40, 13, 24, 0] 0 (rws (fun n => [I n]) x96).length), (4, V.bool x97), (31, V.bool (x98 == 0))], [([7], Obj.box [I 0, I 0, I 0, I 0, I 0, V.bool false, I 0]), ([28], Obj.rows 1 (rws (fun n => [I n]) ([] ++ a34)) false), ([31], Obj.box [I a25.Kind, I a25.Pc, I a25.V, I a25.T, I a25.B, V.bool a25.Won, I a25.State, V.ref [28] 0 (rws (fun n => [I n]) ([] ++ a34)).length, I a42.Base, I a42.Cap, I v99]), ([40, 13, 24, 0], Obj.rows 1 (rws (fun n => [I n]) x96) false)], [(Try.f46.ntmps, [(0, V.ptr [31] 0 0), (2, V.ptr [31] 0 0), (11, V.bool (decide (a25.T ≥ 0)))]), (Try.f8.ntmps, [(7, V.ptr [7] 0 0), (9, V.ptr [31] 0 0)])], [40, 13]⟩) ?_ (fun HJ1648 => ?_)
        ·intro v99 h
         replace h : go_ring_Step_j145 a34 a25 x96 x97 x98 v99 = some r := h
         rw [go_ring_Step_j145] at h
         refine SafeOps.nil ?_
         repeat first|apply sq|apply sk|with_reducible first|apply tn|apply bn
         refine ifG h (fun hc1649 h => ?_) (fun hc1649 h => ?_)
         ·skip
          refine Safe.condK rfl hc1649 ?_
          repeat first|apply sq|apply sk|with_reducible first|apply tn|apply bn
          refine Safe.region ?_
          refine Qf E_good ?_
          refine Qf E_good ?_
          refine Q0 E_good rfl (v := V.ptr [31] 0 0) (.fn rfl) ?_
          refine Q0 E_good rfl (v := V.ptr [31] 0 7) (.fn rfl) ?_
          refine SafeOps.store (z := Obj.box [I a25.Kind, I a25.Pc, I a25.V, I a25.T, I a25.B, V.bool a25.Won, I a25.State, V.ref [40, 13, 24, 0] 0 (rws (fun n => [I n]) x96).length, I a42.Base, I a42.Cap, I v99]) E_good rfl rfl rfl rfl rfl rfl rfl (.boxM (c := 11) rfl rfl (Nat.le_of_ble_eq_true rfl) rfl) ?_
          refine SafeOps.nil ?_
          repeat first|apply sq|apply sk|with_reducible first|apply tn|apply bn
          refine Safe.region ?_
          refine Qf E_good ?_
          refine Qf E_good ?_
          refine SafeOps.nil ?_
          repeat first|apply sq|apply sk|with_reducible first|apply tn|apply bn
          refine Safe.ret ?_
          repeat (first | with_reducible refine thenQ.r ?_ | with_reducible refine blockQ.r ?_)
          refine inQ.gen (vs := [V.bool x97]) (v := V.bool x97) (.inr rfl) rfl (.tmp (v := V.bool x97) rfl .nil) rfl ?_
          exact SafeOps.got (HJ1641 (x97, x96, v99) h) (.ren [40, 13, 24, 0] [7000, 114, 31, 7] (.cov ⟨rfl, rfl, (ut (ut (ut (ut upT_nil)))), (uo (uo (uo upOb_nil))), (upOut_cons rfl (ut (ut upT_nil)) upOut_nil), rfl⟩))
         ·skip
          refine Safe.condN rfl hc1649 ?_
          repeat first|apply sq|apply sk|with_reducible first|apply tn|apply bn
          refine Safe.region ?_
          refine Qf E_good ?_
          refine Qf E_good ?_
          refine SafeOps.nil ?_
          repeat first|apply sq|apply sk|with_reducible first|apply tn|apply bn
          refine Safe.ret ?_
          repeat (first | with_reducible refine thenQ.r ?_ | with_reducible refine blockQ.r ?_)
          refine inQ.gen (vs := [V.bool x97]) (v := V.bool x97) (.inr rfl) rfl (.tmp (v := V.bool x97) rfl .nil) rfl ?_
          exact SafeOps.got (HJ1641 (x97, [] ++ a34, v99) h) (.ren [28] [7000, 114, 31, 7] (.cov ⟨rfl, rfl, (ut (ut (ut (ut upT_nil)))), (uo (uo (uo upOb_nil))), (upOut_cons rfl (ut (ut upT_nil)) upOut_nil), rfl⟩))
        ·skip
         refine SafeOps.inline E_good rfl rfl rfl rfl rfl Try.func54 rfl (fun _ _ => Try.call54 _ _) rfl ?_
         repeat first|apply sq|apply sk|with_reducible first|apply tn|apply bn
         refine Safe.region ?_
         refine Qf E_good ?_
         refine SafeOps.nil ?_
         repeat first|apply sq|apply sk|with_reducible first|apply tn|apply bn
         refine Safe.region ?_
         refine Qf E_good ?_
         refine Q0 E_good rfl (v := V.bool (!(x98 == 0))) (.fn rfl) ?_
         refine SafeOps.nil ?_
         repeat first|apply sq|apply sk|with_reducible first|apply tn|apply bn
         refine ifG h (fun hc1650 h => ?_) (fun hc1650 h => ?_)
         ·skip
          refine Safe.condK rfl hc1650 ?_
          repeat first|apply sq|apply sk|with_reducible first|apply tn|apply bn
          refine Safe.region ?_
          refine Qf E_good ?_
          refine Q0 E_good rfl (v := V.ptr [31] 0 0) (.fn rfl) ?_
          refine Q0 E_good rfl (v := V.ptr [31] 0 10) (.fn rfl) ?_
          refine SafeOps.store (z := Obj.box [I a25.Kind, I a25.Pc, I a25.V, I a25.T, I a25.B, V.bool a25.Won, I a25.State, V.ref [28] 0 (rws (fun n => [I n]) ([] ++ a34)).length, I a42.Base, I a42.Cap, I 9]) E_good rfl rfl rfl rfl rfl rfl rfl (.boxM (c := 11) rfl rfl (Nat.le_of_ble_eq_true rfl) rfl) ?_
          refine SafeOps.nil ?_
          repeat first|apply sq|apply sk|with_reducible first|apply tn|apply bn
          refine Safe.region ?_
          refine Qf E_good ?_
          refine Qf E_good ?_
          refine SafeOps.nil ?_
          repeat first|apply sq|apply sk|with_reducible first|apply tn|apply bn
          refine Safe.ret ?_
          repeat (first | with_reducible refine thenQ.r ?_ | with_reducible refine blockQ.r ?_)
          refine inQ.gen (vs := [V.bool (x98 == 0)]) (v := V.bool (x98 == 0)) (.inr rfl) rfl (.tmp (v := V.bool (x98 == 0)) rfl .nil) rfl ?_
          exact SafeOps.got (HJ1648 (9) h) (.cov ⟨rfl, rfl, (ut (ut (ut (ut upT_nil)))), (uo (uo (uo (uo upOb_nil)))), (upOut_cons rfl (ut (ut (ut upT_nil))) (upOut_cons rfl (ut (ut upT_nil)) upOut_nil)), rfl⟩)
         ·skip
          refine Safe.condN rfl hc1650 ?_
          repeat first|apply sq|apply sk|with_reducible first|apply tn|apply bn
          refine Safe.region ?_
          refine Qf E_good ?_
          refine Qf E_good ?_
          refine SafeOps.nil ?_
          repeat first|apply sq|apply sk|with_reducible first|apply tn|apply bn
          refine Safe.ret ?_
          repeat (first | with_reducible refine thenQ.r ?_ | with_reducible refine blockQ.r ?_)
          refine inQ.gen (vs := [V.bool (x98 == 0)]) (v := V.bool (x98 == 0)) (.inr rfl) rfl (.tmp (v := V.bool (x98 == 0)) rfl .nil) rfl ?_
          exact SafeOps.got (HJ1648 (v100) h) (.cov ⟨rfl, rfl, (ut (ut (ut (ut upT_nil)))), (uo (uo (uo (uo upOb_nil)))), (upOut_cons rfl (ut (ut (ut upT_nil))) (upOut_cons rfl (ut (ut upT_nil)) upOut_nil)), rfl⟩)
      ·skip
       refine sT hc1594 ?_
       refine sT hc1594 ?_
       refine Q0 E_good rfl (v := V.bool false) (.pickK rfl hc1594 rfl) ?_
       refine Q0 E_good rfl (v := V.ptr [31] 0 0) (.fn rfl) ?_
       refine Q0 E_good rfl (v := V.ptr [31] 0 0) (.fn rfl) ?_
       refine Q0 E_good rfl (v := V.ptr [31] 0 5) (.fn rfl) ?_
       refine SafeOps.store (z := Obj.box [I a25.Kind, I a25.Pc, I a25.V, I a25.T, I a25.B, V.bool false, I a25.State, V.ref [28] 0 (rws (fun n => [I n]) ([] ++ a34)).length, I a42.Base, I a42.Cap, I v100]) E_good rfl rfl rfl rfl rfl rfl rfl (.boxM (c := 11) rfl rfl (Nat.le_of_ble_eq_true rfl) rfl) ?_
       refine SafeOps.nil ?_
       repeat first|apply sq|apply sk|with_reducible first|apply tn|apply bn
       refine Safe.region ?_
       refine Qf E_good ?_
       refine Q0 E_good rfl (v := V.ptr [31] 0 0) (.fn rfl) ?_
       refine Q0 E_good rfl (v := V.ptr [31] 0 0) (.fn rfl) ?_
       refine Q0 E_good rfl (v := V.ptr [31] 0 1) (.fn rfl) ?_
       refine Q0 E_good rfl (v := I a25.Pc) (.load rfl rfl (.box rfl rfl) rfl) ?_
       refine Q0 E_good rfl (v := I (IntKind.i64.wrap (a25.Pc + 1))) (.fn rfl) ?_
       refine Q0 E_good rfl (v := V.ptr [31] 0 0) (.fn rfl) ?_
       refine Q0 E_good rfl (v := V.ptr [31] 0 0) (.fn rfl) ?_
       refine Q0 E_good rfl (v := V.ptr [31] 0 1) (.fn rfl) ?_
       refine SafeOps.store (z := Obj.box [I a25.Kind, I (IntKind.i64.wrap (a25.Pc + 1)), I a25.V, I a25.T, I a25.B, V.bool false, I a25.State, V.ref [28] 0 (rws (fun n => [I n]) ([] ++ a34)).length, I a42.Base, I a42.Cap, I v100]) E_good rfl rfl rfl rfl rfl rfl rfl (.boxM (c := 11) rfl rfl (Nat.le_of_ble_eq_true rfl) rfl) ?_
       refine SafeOps.nil ?_
       repeat first|apply sq|apply sk|with_reducible first|apply tn|apply bn
       repeat (first | with_reducible refine thenQ.r ?_ | with_reducible refine blockQ.r ?_)
       refine inQ.gen (vs := []) (v := V.tup []) (.inl rfl) rfl .nil rfl ?_
       exact SafeOps.got (HJ1246 (IntKind.i64.wrap (a25.Pc + 1), a25.V, a25.T, a25.B, false, a25.State, [] ++ a34, v100) h) (.ren [28] [7000, 114, 31, 7] (.cov ⟨rfl, rfl, (ut (ut upT_nil)), (uo (uo (uo upOb_nil))), upOut_nil, rfl⟩))
     ·skip
      refine SafeOps.inline E_good rfl rfl rfl rfl rfl Try.func54 rfl (fun _ _ => Try.call54 _ _) rfl ?_
      repeat first|apply sq|apply sk|with_reducible first|apply tn|apply bn
      refine Safe.region ?_
      refine Qf E_good ?_
      refine SafeOps.nil ?_
      repeat first|apply sq|apply sk|with_reducible first|apply tn|apply bn
      refine Safe.region ?_
      refine Qf E_good ?_
      refine Q0 E_good rfl (v := V.bool (!(decide (a25.T ≥ 0)))) (.fn rfl) ?_
      refine SafeOps.nil ?_
      repeat first|apply sq|apply sk|with_reducible first|apply tn|apply bn
      refine ifG h (fun hc1651 h => ?_) (fun hc1651 h => ?_)
      ·skip
       refine Safe.condK rfl hc1651 ?_
       repeat first|apply sq|apply sk|with_reducible first|apply tn|apply bn
       refine Safe.region ?_
       refine Qf E_good ?_
       refine Q0 E_good rfl (v := V.ptr [31] 0 0) (.fn rfl) ?_
       refine Q0 E_good rfl (v := V.ptr [31] 0 10) (.fn rfl) ?_
       refine SafeOps.store (z := Obj.box [I a25.Kind, I a25.Pc, I a25.V, I a25.T, I a25.B, V.bool a25.Won, I a25.State, V.ref [28] 0 (rws (fun n => [I n]) ([] ++ a34)).length, I a42.Base, I a42.Cap, I 9]) E_good rfl rfl rfl rfl rfl rfl rfl (.boxM (c := 11) rfl rfl (Nat.le_of_ble_eq_true rfl) rfl) ?_
       refine SafeOps.nil ?_
       repeat first|apply sq|apply sk|with_reducible first|apply tn|apply bn
       refine Safe.region ?_
       refine Qf E_good ?_
       refine Qf E_good ?_
       refine SafeOps.nil ?_
       repeat first|apply sq|apply sk|with_reducible first|apply tn|apply bn
       refine Safe.ret ?_
       repeat (first | with_reducible refine thenQ.r ?_ | with_reducible refine blockQ.r ?_)
       refine inQ.gen (vs := [V.bool (decide (a25.T ≥ 0))]) (v := V.bool (decide (a25.T ≥ 0))) (.inr rfl) rfl (.tmp (v := V.bool (decide (a25.T ≥ 0))) rfl .nil) rfl ?_
       exact SafeOps.got (HJ1593 (9) h) (.cov ⟨rfl, rfl, (ut (ut (ut upT_nil))), (uo (uo (uo upOb_nil))), (upOut_cons rfl (ut (ut upT_nil)) upOut_nil), rfl⟩)
      ·skip
       refine Safe.condN rfl hc1651 ?_
       repeat first|apply sq|apply sk|with_reducible first|apply tn|apply bn
       refine Safe.region ?_
       refine Qf E_good ?_
       refine Qf E_good ?_
       refine SafeOps.nil ?_
       repeat first|apply sq|apply sk|with_reducible first|apply tn|apply bn
       refine Safe.ret ?_
       repeat (first | with_reducible refine thenQ.r ?_ | with_reducible refine blockQ.r ?_)
       refine inQ.gen (vs := [V.bool (decide (a25.T ≥ 0))]) (v := V.bool (decide (a25.T ≥ 0))) (.inr rfl) rfl (.tmp (v := V.bool (decide (a25.T ≥ 0))) rfl .nil) rfl ?_
       exact SafeOps.got (HJ1593 (0) h) (.cov ⟨rfl, rfl, (ut (ut (ut upT_nil))), (uo (uo (uo upOb_nil))), (upOut_cons rfl (ut (ut upT_nil)) upOut_nil), rfl⟩)
    refine ifP_G h (fun hq1652 h => ?_) (fun _ h => ?_)
    ·skip
     refine SafeOps.see 38 (u := V.fn 47 []) rfl (up_fn hq1652) ?_
     refine SafeOps.inline E_good rfl rfl rfl rfl rfl Try.func47 rfl (fun _ _ => Try.call47 _ _) rfl ?_
     repeat first|apply sq|apply sk|with_reducible first|apply tn|apply bn
     refine Safe.region ?_
     refine Qf E_good ?_
     refine Qf E_good ?_
     refine Q0 E_good rfl (v := V.ptr [31] 0 0) (.fn rfl) ?_
     refine Q0 E_good rfl (v := V.ptr [31] 0 0) (.fn rfl) ?_
     refine Q0 E_good rfl (v := V.ptr [31] 0 3) (.fn rfl) ?_
     refine Q0 E_good rfl (v := I a25.T) (.load rfl rfl (.box rfl rfl) rfl) ?_
     refine Q0 E_good rfl (v := V.bool (decide (a25.T ≥ 0))) (.fn rfl) ?_
     refine SafeOps.joinT 1 (fun (v108 : Int) => go_ring_Step_j146 a34 a42 a25 v108 = some r) (fun (v108 : Int) => ⟨Try.f47.ntmps, [(0, V.ptr [31] 0 0), (9, V.bool (decide (a25.T ≥ 0)))], [([7], Obj.box [I 0, I 0, I 0, I 0, I 0, V.bool false, I 0]), ([28], Obj.rows 1 (rws (fun n => [I n]) ([] ++ a34)) false), ([31], Obj.box [I a25.Kind, I a25.Pc, I a25.V, I a25.T, I a25.B, V.bool a25.Won, I a25.State, V.ref [28] 0 (rws (fun n => [I n]) ([] ++ a34)).length, I a42.Base, I a42.Cap, I v108])], [(Try.f8.ntmps, [(7, V.ptr [7] 0 0), (9, V.ptr [31] 0 0)])], [40]⟩) ?_ (fun HJ1655 => ?_)
     ·intro v108 h
      replace h : go_ring_Step_j146 a34 a42 a25 v108 = some r := h
      rw [go_ring_Step_j146] at h
      refine SafeOps.nil ?_
      repeat first|apply sq|apply sk|with_reducible first|apply tn|apply bn
      refine Safe.joinT (fun ((v101, v102) : (List Int) × Int) => go_ring_Step_j149 a25 v101 v102 = some r) (fun ((v101, v102) : (List Int) × Int) => ⟨Try.f47.ntmps, [(0, V.ptr [31] 0 0)], [([7], Obj.box [I 0, I 0, I 0, I 0, I 0, V.bool false, I 0]), ([31], Obj.box [I a25.Kind, I a25.Pc, I a25.V, I a25.T, I a25.B, V.bool a25.Won, I a25.State, V.ref [7000, 114, 31, 7] 0 (rws (fun n => [I n]) v101).length, I a42.Base, I a42.Cap, I v102]), ([7000, 114, 31, 7], Obj.rows 1 (rws (fun n => [I n]) v101) false)], [(Try.f8.ntmps, [(7, V.ptr [7] 0 0), (9, V.ptr [31] 0 0)])], [40]⟩) ?_ (fun HJ1668 => ?_)
      ·rintro ⟨v101, v102⟩ h
       replace h : go_ring_Step_j149 a25 v101 v102 = some r := h
       rw [go_ring_Step_j149] at h
       repeat first|apply sq|apply sk|with_reducible first|apply tn|apply bn
       refine Safe.region ?_
       refine Qf E_good ?_
       refine Q0 E_good rfl (v := V.ptr [31] 0 0) (.fn rfl) ?_
       refine Q0 E_good rfl (v := V.ptr [31] 0 0) (.fn rfl) ?_
       refine Q0 E_good rfl (v := V.ptr [31] 0 6) (.fn rfl) ?_
       refine SafeOps.store (z := Obj.box [I a25.Kind, I a25.Pc, I a25.V, I a25.T, I a25.B, V.bool a25.Won, I 2, V.ref [7000, 114, 31, 7] 0 (rws (fun n => [I n]) v101).length, I a42.Base, I a42.Cap, I v102]) E_good rfl rfl rfl rfl rfl rfl rfl (.boxM (c := 11) rfl rfl (Nat.le_of_ble_eq_true rfl) rfl) ?_
       refine SafeOps.nil ?_
       repeat first|apply sq|apply sk|with_reducible first|apply tn|apply bn
       refine Safe.region ?_
       refine Qf E_good ?_
       refine Q0 E_good rfl (v := V.ptr [31] 0 0) (.fn rfl) ?_
       refine Q0 E_good rfl (v := V.ptr [31] 0 0) (.fn rfl) ?_
       refine Q0 E_good rfl (v := V.ptr [31] 0 5) (.fn rfl) ?_
       refine Q0 E_good rfl (v := V.bool a25.Won) (.load rfl rfl (.box rfl rfl) rfl) ?_
       refine SafeOps.nil ?_
       repeat first|apply sq|apply sk|with_reducible first|apply tn|apply bn
       refine ifG h (fun hc1669 h => ?_) (fun hc1669 h => ?_)
       ·skip
        refine Safe.condK rfl hc1669 ?_
        repeat first|apply sq|apply sk|with_reducible first|apply tn|apply bn
        refine Safe.region ?_
        refine Qf E_good ?_
        refine Q0 E_good rfl (v := V.ptr [31] 0 0) (.fn rfl) ?_
        refine Q0 E_good rfl (v := V.ptr [31] 0 0) (.fn rfl) ?_
        refine Q0 E_good rfl (v := V.ptr [31] 0 6) (.fn rfl) ?_
        refine SafeOps.store (z := Obj.box [I a25.Kind, I a25.Pc, I a25.V, I a25.T, I a25.B, V.bool a25.Won, I 1, V.ref [7000, 114, 31, 7] 0 (rws (fun n => [I n]) v101).length, I a42.Base, I a42.Cap, I v102]) E_good rfl rfl rfl rfl rfl rfl rfl (.boxM (c := 11) rfl rfl (Nat.le_of_ble_eq_true rfl) rfl) ?_
        refine SafeOps.nil ?_
        repeat first|apply sq|apply sk|with_reducible first|apply tn|apply bn
        repeat (first | with_reducible refine thenQ.r ?_ | with_reducible refine blockQ.r ?_)
        refine inQ.gen (vs := []) (v := V.tup []) (.inl rfl) rfl .nil rfl ?_
        exact SafeOps.got (HJ1246 (a25.Pc, a25.V, a25.T, a25.B, a25.Won, 1, v101, v102) h) (.cov ⟨rfl, rfl, (ut (ut upT_nil)), (uo (uo (uo upOb_nil))), upOut_nil, rfl⟩)
       ·skip
        refine Safe.condN rfl hc1669 ?_
        repeat first|apply sq|apply sk|with_reducible first|apply tn|apply bn
        repeat (first | with_reducible refine thenQ.r ?_ | with_reducible refine blockQ.r ?_)
        refine inQ.gen (vs := []) (v := V.tup []) (.inl rfl) rfl .nil rfl ?_
        exact SafeOps.got (HJ1246 (a25.Pc, a25.V, a25.T, a25.B, a25.Won, 2, v101, v102) h) (.cov ⟨rfl, rfl, (ut (ut upT_nil)), (uo (uo (uo upOb_nil))), upOut_nil, rfl⟩)
      ·skip
       refine ifG h (fun hc1670 h => ?_) (fun hc1670 h => ?_)
       ·skip
        refine Safe.condK rfl hc1670 ?_
        repeat first|apply sq|apply sk|with_reducible first|apply tn|apply bn
        refine Safe.regionD (n := 10) [] [9] E_good mixed rfl ?_
        refine DT 0 [] rfl rfl (fun _ hz => (.fn rfl)) ?_
        refine DT 1 [] rfl rfl (fun _ hz => (.fn rfl)) ?_
        refine DT 2 [] rfl rfl (v := I (go_pring_actor_bottom (ring_actor.mk a25 ([] ++ a34) a42 v108))) (fun _ hz => (.callS rfl (.cons (.box (hz _ _ rfl rfl) (.cons (.free rfl) (.cons (.free rfl) (.cons (.free rfl) (.cons (.free rfl) (.cons (.free rfl) (.cons (.free rfl) (.cons (.free rfl) (.cons (.full (hz _ _ rfl rfl) rfl) (.cons (.free rfl) (.cons (.free rfl) (.cons (.free rfl) .nil)))))))))))) .nil) (go_pring_actor_bottom_sc (ring_actor.mk a25 ([] ++ a34) a42 v108) _ rfl) (.plain rfl) rfl)) ?_
        refine DT 3 [] rfl rfl (fun _ hz => (.fn rfl)) ?_
        refine DT 4 [] rfl rfl (v := V.ptr [31] 0 0) (fun _ hz => (.fn rfl)) ?_
        refine DT 5 [] rfl rfl (v := V.ptr [31] 0 0) (fun _ hz => (.fn rfl)) ?_
        refine DT 6 [] rfl rfl (v := V.ptr [31] 0 3) (fun _ hz => (.fn rfl)) ?_
        refine DT 7 [] rfl rfl (v := I a25.T) (fun _ hz => (.load rfl rfl (.box (hz _ _ rfl rfl) rfl) rfl)) ?_
        refine DT 8 [] rfl rfl (v := I (IntKind.i64.wrap (a25.T + 1))) (fun _ hz => (.fn rfl)) ?_
        refine DAny.onlyS (i := 9) rfl (by kernel_rfl) rfl ?_
        refine SafeOps.joinT 1 (fun ((v103, v104) : (List Int) × Int) => go_ring_Step_j151 a25 v103 v104 = some r) (fun ((v103, v104) : (List Int) × Int) => ⟨Try.f47.ntmps, [(0, V.ptr [31] 0 0)], [([7], Obj.box [I 0, I 0, I 0, I 0, I 0, V.bool false, I 0]), ([31], Obj.box [I a25.Kind, I a25.Pc, I a25.V, I a25.T, I a25.B, V.bool a25.Won, I a25.State, V.ref [7000, 114, 31, 7] 0 (rws (fun n => [I n]) v103).length, I a42.Base, I a42.Cap, I v104]), ([7000, 114, 31, 7], Obj.rows 1 (rws (fun n => [I n]) v103) false)], [(Try.f8.ntmps, [(7, V.ptr [7] 0 0), (9, V.ptr [31] 0 0)])], [40]⟩) ?_ (fun HJ1680 => ?_)
        ·rintro ⟨v103, v104⟩ h
         replace h : go_ring_Step_j151 a25 v103 v104 = some r := h
         rw [go_ring_Step_j151] at h
         refine SafeOps.nil ⟨rfl, ?_⟩
         refine DAny.nil (by kernel_rfl) ?_
         repeat (first | refine Safe.skip ?_ | with_reducible refine thenQ.n ?_ | with_reducible refine blockQ.n ?_)
         exact Safe.got (HJ1668 (v103, v104) h) (.cov ⟨rfl, rfl, (ut upT_nil), (uo (uo (uo upOb_nil))), (upOut_cons rfl (ut (ut upT_nil)) upOut_nil), rfl⟩)
        ·skip
         refine SafeOps.inline E_good rfl rfl rfl rfl rfl Try.func57 rfl (fun _ _ => Try.call57 _ _) rfl ?_
         repeat first|apply sq|apply sk|with_reducible first|apply tn|apply bn
         refine Safe.region ?_
         refine Qf E_good ?_
         refine Q0 E_good rfl (v := V.ptr [31] 0 0) (.fn rfl) ?_
         refine Q0 E_good rfl (v := V.ptr [31] 0 7) (.fn rfl) ?_
         refine Q0 E_good rfl (v := V.ref [28] 0 (rws (fun n => [I n]) ([] ++ a34)).length) (.load rfl rfl (.box rfl rfl) rfl) ?_
         refine Qf E_good ?_
         refine Qf E_good ?_
         refine bindG h ?_
         rintro ⟨x105, x106⟩ he1683 h
         refine SafeOps.quiet E_good rfl rfl rfl (v := V.tup [V.ref [40, 19, 15, 0] 0 (rws (fun n => [I n]) x105).length, I x106]) (.callS rfl (.cons (.full rfl rfl) (.cons (.free rfl) (.cons (.free rfl) .nil))) (go_cell_Store_sc ([] ++ a34) (go_pring_actor_bottom (ring_actor.mk a25 ([] ++ a34) a42 v108)) (IntKind.i64.wrap (a25.T + 1)) _ he1683) (.tupL (.cons (.ownM (fun _ => rfl)) (.cons (.plain rfl) .nil))) rfl) rfl ?_
         refine Qf E_good ?_
         refine Qf E_good ?_
         refine Qf E_good ?_
         refine Qf E_good ?_
         refine Qf E_good ?_
         refine SafeOps.nil ?_
         repeat first|apply sq|apply sk|with_reducible first|apply tn|apply bn
         refine Safe.region ?_
         refine Qf E_good ?_
         refine Qf E_good ?_
         refine Q0 E_good rfl (v := V.bool (x106 == 0)) (.fn rfl) ?_
         refine SafeOps.joinT 1 (fun (v107 : Int) => go_ring_Step_j152 a34 a25 x105 x106 v107 = some r) (fun (v107 : Int) => ⟨Try.f57.ntmps, [(0, V.ptr [31] 0 0), (6, V.ref [40, 19, 15, 0] 0 (rws (fun n => [I n]) x105).length), (21, V.bool (x106 == 0))], [([7], Obj.box [I 0, I 0, I 0, I 0, I 0, V.bool false, I 0]), ([28], Obj.rows 1 (rws (fun n => [I n]) ([] ++ a34)) false), ([31], Obj.box [I a25.Kind, I a25.Pc, I a25.V, I a25.T, I a25.B, V.bool a25.Won, I a25.State, V.ref [28] 0 (rws (fun n => [I n]) ([] ++ a34)).length, I a42.Base, I a42.Cap, I v107]), ([40, 19, 15, 0], Obj.rows 1 (rws (fun n => [I n]) x105) false)], [(Try.f47.ntmps, [(0, V.ptr [31] 0 0)]), (Try.f8.ntmps, [(7, V.ptr [7] 0 0), (9, V.ptr [31] 0 0)])], [40, 19]⟩) ?_ (fun HJ1686 => ?_)
         ·intro v107 h
          replace h : go_ring_Step_j152 a34 a25 x105 x106 v107 = some r := h
          rw [go_ring_Step_j152] at h
          refine SafeOps.nil ?_
          repeat first|apply sq|apply sk|with_reducible first|apply tn|apply bn
          refine ifG h (fun hc1687 h => ?_) (fun hc1687 h => ?_)
          ·skip
           refine Safe.condK rfl hc1687 ?_
           repeat first|apply sq|apply sk|with_reducible first|apply tn|apply bn
           refine Safe.region ?_
           refine Qf E_good ?_
           refine Qf E_good ?_
           refine Q0 E_good rfl (v := V.ptr [31] 0 0) (.fn rfl) ?_
           refine Q0 E_good rfl (v := V.ptr [31] 0 7) (.fn rfl) ?_
           refine SafeOps.store (z := Obj.box [I a25.Kind, I a25.Pc, I a25.V, I a25.T, I a25.B, V.bool a25.Won, I a25.State, V.ref [40, 19, 15, 0] 0 (rws (fun n => [I n]) x105).length, I a42.Base, I a42.Cap, I v107]) E_good rfl rfl rfl rfl rfl rfl rfl (.boxM (c := 11) rfl rfl (Nat.le_of_ble_eq_true rfl) rfl) ?_
           refine SafeOps.nil ?_
           repeat first|apply sq|apply sk|with_reducible first|apply tn|apply bn
           repeat (first | with_reducible refine thenQ.r ?_ | with_reducible refine blockQ.r ?_)
           refine inQ.gen (vs := []) (v := V.tup []) (.inl rfl) rfl .nil rfl ?_
           exact SafeOps.got (HJ1680 (x105, v107) h) (.ren [40, 19, 15, 0] [7000, 114, 31, 7] (.cov ⟨rfl, rfl, (ut upT_nil), (uo (uo (uo upOb_nil))), (upOut_cons rfl (ut (ut upT_nil)) upOut_nil), rfl⟩))
          ·skip
           refine Safe.condN rfl hc1687 ?_
           repeat first|apply sq|apply sk|with_reducible first|apply tn|apply bn
           repeat (first | with_reducible refine thenQ.r ?_ | with_reducible refine blockQ.r ?_)
           refine inQ.gen (vs := []) (v := V.tup []) (.inl rfl) rfl .nil rfl ?_
           exact SafeOps.got (HJ1680 ([] ++ a34, v107) h) (.ren [28] [7000, 114, 31, 7] (.cov ⟨rfl, rfl, (ut upT_nil), (uo (uo (uo upOb_nil))), (upOut_cons rfl (ut (ut upT_nil)) upOut_nil), rfl⟩))
         ·skip
          refine SafeOps.inline E_good rfl rfl rfl rfl rfl Try.func54 rfl (fun _ _ => Try.call54 _ _) rfl ?_
          repeat first|apply sq|apply sk|with_reducible first|apply tn|apply bn
          refine Safe.region ?_
          refine Qf E_good ?_
          refine SafeOps.nil ?_
          repeat first|apply sq|apply sk|with_reducible first|apply tn|apply bn
          refine Safe.region ?_
          refine Qf E_good ?_
          refine Q0 E_good rfl (v := V.bool (!(x106 == 0))) (.fn rfl) ?_
          refine SafeOps.nil ?_
          repeat first|apply sq|apply sk|with_reducible first|apply tn|apply bn
          refine ifG h (fun hc1688 h => ?_) (fun hc1688 h => ?_)
          ·skip
           refine Safe.condK rfl hc1688 ?_
           repeat first|apply sq|apply sk|with_reducible first|apply tn|apply bn
           refine Safe.region ?_
           refine Qf E_good ?_
           refine Q0 E_good rfl (v := V.ptr [31] 0 0) (.fn rfl) ?_
           refine Q0 E_good rfl (v := V.ptr [31] 0 10) (.fn rfl) ?_
           refine SafeOps.store (z := Obj.box [I a25.Kind, I a25.Pc, I a25.V, I a25.T, I a25.B, V.bool a25.Won, I a25.State, V.ref [28] 0 (rws (fun n => [I n]) ([] ++ a34)).length, I a42.Base, I a42.Cap, I 9]) E_good rfl rfl rfl rfl rfl rfl rfl (.boxM (c := 11) rfl rfl (Nat.le_of_ble_eq_true rfl) rfl) ?_
           refine SafeOps.nil ?_
           repeat first|apply sq|apply sk|with_reducible first|apply tn|apply bn
           refine Safe.region ?_
           refine Qf E_good ?_
           refine Qf E_good ?_
           refine SafeOps.nil ?_
           repeat first|apply sq|apply sk|with_reducible first|apply tn|apply bn
           refine Safe.ret ?_
           repeat (first | with_reducible refine thenQ.r ?_ | with_reducible refine blockQ.r ?_)
           refine inQ.gen (vs := [V.bool (x106 == 0)]) (v := V.bool (x106 == 0)) (.inr rfl) rfl (.tmp (v := V.bool (x106 == 0)) rfl .nil) rfl ?_
           exact SafeOps.got (HJ1686 (9) h) (.cov ⟨rfl, rfl, (ut (ut (ut upT_nil))), (uo (uo (uo (uo upOb_nil)))), (upOut_cons rfl (ut upT_nil) (upOut_cons rfl (ut (ut upT_nil)) upOut_nil)), rfl⟩)
          ·skip
           refine Safe.condN rfl hc1688 ?_
           repeat first|apply sq|apply sk|with_reducible first|apply tn|apply bn
           refine Safe.region ?_
           refine Qf E_good ?_
           refine Qf E_good ?_
           refine SafeOps.nil ?_
           repeat first|apply sq|apply sk|with_reducible first|apply tn|apply bn
           refine Safe.ret ?_
           repeat (first | with_reducible refine thenQ.r ?_ | with_reducible refine blockQ.r ?_)
           refine inQ.gen (vs := [V.bool (x106 == 0)]) (v := V.bool (x106 == 0)) (.inr rfl) rfl (.tmp (v := V.bool (x106 == 0)) rfl .nil) rfl ?_
           exact SafeOps.got (HJ1686 (v108) h) (.cov ⟨rfl, rfl, (ut (ut (ut upT_nil))), (uo (uo (uo (uo upOb_nil)))), (upOut_cons rfl (ut upT_nil) (upOut_cons rfl (ut (ut upT_nil)) upOut_nil)), rfl⟩)
       ·skip
        refine Safe.condN rfl hc1670 ?_
        repeat (first | refine Safe.skip ?_ | with_reducible refine thenQ.n ?_ | with_reducible refine blockQ.n ?_)
        exact Safe.got (HJ1668 ([] ++ a34, v108) h) (.ren [28] [7000, 114, 31, 7] (.cov ⟨rfl, rfl, (ut upT_nil), (uo (uo (uo upOb_nil))), (upOut_cons rfl (ut (ut upT_nil)) upOut_nil), rfl⟩))
     ·skip
      refine SafeOps.inline E_good rfl rfl rfl rfl rfl Try.func54 rfl (fun _ _ => Try.call54 _ _) rfl ?_
      repeat first|apply sq|apply sk|with_reducible first|apply tn|apply bn
      refine Safe.region ?_
      refine Qf E_good ?_
      refine SafeOps.nil ?_
      repeat first|apply sq|apply sk|with_reducible first|apply tn|apply bn
      refine Safe.region ?_
      refine Qf E_good ?_
      refine Q0 E_good rfl (v := V.bool (!(decide (a25.T ≥ 0)))) (.fn rfl) ?_
      refine SafeOps.nil ?_
      repeat first|apply sq|apply sk|with_reducible first|apply tn|apply bn
      refine ifG h (fun hc1689 h => ?_) (fun hc1689 h => ?_)
      ·skip
       refine Safe.condK rfl hc1689 ?_
       repeat first|apply sq|apply sk|with_reducible first|apply tn|apply bn
       refine Safe.region ?_
       refine Qf E_good ?_
       refine Q0 E_good rfl (v := V.ptr [31] 0 0) (.fn rfl) ?_
       refine Q0 E_good rfl (v := V.ptr [31] 0 10) (.fn rfl) ?_
       refine SafeOps.store (z := Obj.box [I a25.Kind, I a25.Pc, I a25.V, I a25.T, I a25.B, V.bool a25.Won, I a25.State, V.ref [28] 0 (rws (fun n => [I n]) ([] ++ a34)).length, I a42.Base, I a42.Cap, I 9]) E_good rfl rfl rfl rfl rfl rfl rfl (.boxM (c := 11) rfl rfl (Nat.le_of_ble_eq_true rfl) rfl) ?_
       refine SafeOps.nil ?_
       repeat first|apply sq|apply sk|with_reducible first|apply tn|apply bn
       refine Safe.region ?_
       refine Qf E_good ?_
       refine Qf E_good ?_
       refine SafeOps.nil ?_
       repeat first|apply sq|apply sk|with_reducible first|apply tn|apply bn
       refine Safe.ret ?_
       repeat (first | with_reducible refine thenQ.r ?_ | with_reducible refine blockQ.r ?_)
       refine inQ.gen (vs := [V.bool (decide (a25.T ≥ 0))]) (v := V.bool (decide (a25.T ≥ 0))) (.inr rfl) rfl (.tmp (v := V.bool (decide (a25.T ≥ 0))) rfl .nil) rfl ?_
       exact SafeOps.got (HJ1655 (9) h) (.cov ⟨rfl, rfl, (ut (ut upT_nil)), (uo (uo (uo upOb_nil))), (upOut_cons rfl (ut (ut upT_nil)) upOut_nil), rfl⟩)
      ·skip
       refine Safe.condN rfl hc1689 ?_
       repeat first|apply sq|apply sk|with_reducible first|apply tn|apply bn
       refine Safe.region ?_
       refine Qf E_good ?_
       refine Qf E_good ?_
       refine SafeOps.nil ?_
       repeat first|apply sq|apply sk|with_reducible first|apply tn|apply bn
       refine Safe.ret ?_
       repeat (first | with_reducible refine thenQ.r ?_ | with_reducible refine blockQ.r ?_)
       refine inQ.gen (vs := [V.bool (decide (a25.T ≥ 0))]) (v := V.bool (decide (a25.T ≥ 0))) (.inr rfl) rfl (.tmp (v := V.bool (decide (a25.T ≥ 0))) rfl .nil) rfl ?_
       exact SafeOps.got (HJ1655 (0) h) (.cov ⟨rfl, rfl, (ut (ut upT_nil)), (uo (uo (uo upOb_nil))), (upOut_cons rfl (ut (ut upT_nil)) upOut_nil), rfl⟩)
    refine ifP_G h (fun hq1690 h => ?_) (fun _ h => ?_)
    ·skip
     refine SafeOps.see 38 (u := V.fn 48 []) rfl (up_fn hq1690) ?_
     refine SafeOps.inline E_good rfl rfl rfl rfl rfl Try.func48 rfl (fun _ _ => Try.call48 _ _) rfl ?_
     repeat first|apply sq|apply sk|with_reducible first|apply tn|apply bn
     refine Safe.region ?_
     refine Qf E_good ?_
     refine Qf E_good ?_
     refine Qf E_good ?_
     refine Q0 E_good rfl (v := I (go_pring_actor_bottom (ring_actor.mk a25 ([] ++ a34) a42 0))) (.callS rfl (.cons (.box rfl (.cons (.free rfl) (.cons (.free rfl) (.cons (.free rfl) (.cons (.free rfl) (.cons (.free rfl) (.cons (.free rfl) (.cons (.free rfl) (.cons (.full rfl rfl) (.cons (.free rfl) (.cons (.free rfl) (.cons (.free rfl) .nil)))))))))))) .nil) (go_pring_actor_bottom_sc (ring_actor.mk a25 ([] ++ a34) a42 0) _ rfl) (.plain rfl) rfl) ?_
     refine SafeOps.inline E_good rfl rfl rfl rfl rfl Try.func28 rfl (fun _ _ => Try.call28 _ _) rfl ?_
     repeat first|apply sq|apply sk|with_reducible first|apply tn|apply bn
     refine Safe.region ?_
     refine Qf E_good ?_
     refine SafeOps.nil ?_
     repeat first|apply sq|apply sk|with_reducible first|apply tn|apply bn
     refine Safe.region ?_
     refine Qf E_good ?_
     refine Qf E_good ?_
     refine SafeOps.inline E_good rfl rfl rfl rfl rfl Try.func31 rfl (fun _ _ => Try.call31 _ _) rfl ?_
     repeat first|apply sq|apply sk|with_reducible first|apply tn|apply bn
     refine Safe.region ?_
     refine Qf E_good ?_
     refine SafeOps.nil ?_
     repeat first|apply sq|apply sk|with_reducible first|apply tn|apply bn
     refine Safe.region ?_
     refine Qf E_good ?_
     refine Q0 E_good rfl (v := V.ptr [31] 0 0) (.fn rfl) ?_
     refine Q0 E_good rfl (v := V.ptr [31] 0 7) (.fn rfl) ?_
     refine Q0 E_good rfl (v := V.ref [28] 0 (rws (fun n => [I n]) ([] ++ a34)).length) (.load rfl rfl (.box rfl rfl) rfl) ?_
     refine Qf E_good ?_
     refine bindG h ?_
     rintro ⟨x109, x134⟩ he1715 h
     refine Q0 E_good rfl (v := V.tup [I x109, I x134]) (.callS rfl (.cons (.full rfl rfl) (.cons (.free rfl) .nil)) (go_cell_Load_sc ([] ++ a34) (go_pring_actor_bottom (ring_actor.mk a25 ([] ++ a34) a42 0)) _ he1715) (.tupL (.cons (.plain rfl) (.cons (.plain rfl) .nil))) rfl) ?_
     refine Qf E_good ?_
     refine Qf E_good ?_
     refine Qf E_good ?_
     refine Qf E_good ?_
     refine Qf E_good ?_
     refine SafeOps.nil ?_
     repeat first|apply sq|apply sk|with_reducible first|apply tn|apply bn
     refine Safe.region ?_
     refine Qf E_good ?_
     refine Qf E_good ?_
     refine Q0 E_good rfl (v := V.bool (x134 == 0)) (.fn rfl) ?_
     refine SafeOps.joinT 1 (fun (v113 : Int) => go_ring_Step_j157 a34 a25 x109 v113 = some r) (fun (v113 : Int) => ⟨Try.f31.ntmps, [(5, I x109)], [([7], Obj.box [I 0, I 0, I 0, I 0, I 0, V.bool false, I 0]), ([28], Obj.rows 1 (rws (fun n => [I n]) ([] ++ a34)) false), ([31], Obj.box [I a25.Kind, I a25.Pc, I a25.V, I a25.T, I a25.B, V.bool a25.Won, I a25.State, V.ref [28] 0 (rws (fun n => [I n]) ([] ++ a34)).length, I a42.Base, I a42.Cap, I v113])], [(Try.f28.ntmps, [(0, V.ptr [31] 0 0), (2, I (-1))]), (Try.f48.ntmps, [(0, V.ptr [31] 0 0), (2, V.ptr [31] 0 0)]), (Try.f8.ntmps, [(7, V.ptr [7] 0 0), (9, V.ptr [31] 0 0)])], [40, 6, 10]⟩) ?_ (fun HJ1718 => ?_)
     ·intro v113 h
      replace h : go_ring_Step_j157 a34 a25 x109 v113 = some r := h
      rw [go_ring_Step_j157] at h
      refine SafeOps.nil ?_
      repeat first|apply sq|apply sk|with_reducible first|apply tn|apply bn
      refine Safe.region ?_
      refine Qf E_good ?_
      refine Qf E_good ?_
      refine SafeOps.nil ?_
      repeat first|apply sq|apply sk|with_reducible first|apply tn|apply bn
      refine Safe.ret ?_
      repeat (first | with_reducible refine thenQ.r ?_ | with_reducible refine blockQ.r ?_)
      refine inQ.gen (vs := [I x109]) (v := I x109) (.inr rfl) rfl (.tmp (v := I x109) rfl .nil) rfl ?_
      refine Qf E_good ?_
      refine SafeOps.nil ?_
      repeat first|apply sq|apply sk|with_reducible first|apply tn|apply bn
      refine Safe.region ?_
      refine Qf E_good ?_
      refine Qf E_good ?_
      refine Qf E_good ?_
      refine Q0 E_good rfl (v := V.bool (decide (x109 ≥ (-1)))) (.fn rfl) ?_
      refine Qf E_good ?_
      refine SafeOps.bjoin 3 18 (b := ((decide (x109 ≥ (-1))) && (decide (x109 ≤ 1099511627776)))) (b1 := decide (x109 ≤ 1099511627776)) (b0 := false) (fun hc1719 K => ?_) (fun hc1719 K => ?_) bj_and ?_
      ·skip
       refine qT E_good hc1719 (.fn rfl) ?_
       refine qT E_good hc1719 (v := V.bool (decide (x109 ≤ 1099511627776))) (.fn rfl) ?_
       refine Q0 E_good rfl (v := V.bool (decide (x109 ≤ 1099511627776))) (.pickK rfl hc1719 rfl) ?_
       exact SafeOps.drop' 3 rfl rfl rfl K
      ·skip
       refine sT hc1719 ?_
       refine sT hc1719 ?_
       refine Q0 E_good rfl (v := V.bool false) (.pickK rfl hc1719 rfl) ?_
       exact SafeOps.drop' 3 rfl rfl rfl K
      refine SafeOps.joinT 1 (fun (v110 : Int) => go_ring_Step_j158 a34 a25 x109 v110 = some r) (fun (v110 : Int) => ⟨Try.f28.ntmps, [(7, I x109)], [([7], Obj.box [I 0, I 0, I 0, I 0, I 0, V.bool false, I 0]), ([28], Obj.rows 1 (rws (fun n => [I n]) ([] ++ a34)) false), ([31], Obj.box [I a25.Kind, I a25.Pc, I a25.V, I a25.T, I a25.B, V.bool a25.Won, I a25.State, V.ref [28] 0 (rws (fun n => [I n]) ([] ++ a34)).length, I a42.Base, I a42.Cap, I v110])], [(Try.f48.ntmps, [(0, V.ptr [31] 0 0), (2, V.ptr [31] 0 0)]), (Try.f8.ntmps, [(7, V.ptr [7] 0 0), (9, V.ptr [31] 0 0)])], [40, 6]⟩) ?_ (fun HJ1722 => ?_)
      ·intro v110 h
       replace h : go_ring_Step_j158 a34 a25 x109 v110 = some r := h
       rw [go_ring_Step_j158] at h
       refine SafeOps.nil ?_
       repeat first|apply sq|apply sk|with_reducible first|apply tn|apply bn
       refine Safe.region ?_
       refine Qf E_good ?_
       refine Qf E_good ?_
       refine SafeOps.nil ?_
       repeat first|apply sq|apply sk|with_reducible first|apply tn|apply bn
       refine Safe.ret ?_
       repeat (first | with_reducible refine thenQ.r ?_ | with_reducible refine blockQ.r ?_)
       refine inQ.gen (vs := [I x109]) (v := I x109) (.inr rfl) rfl (.tmp (v := I x109) rfl .nil) rfl ?_
       refine Q0 E_good rfl (v := V.ptr [31] 0 0) (.fn rfl) ?_
       refine Q0 E_good rfl (v := V.ptr [31] 0 0) (.fn rfl) ?_
       refine Q0 E_good rfl (v := V.ptr [31] 0 4) (.fn rfl) ?_
       refine SafeOps.store (z := Obj.box [I a25.Kind, I a25.Pc, I a25.V, I a25.T, I x109, V.bool a25.Won, I a25.State, V.ref [28] 0 (rws (fun n => [I n]) ([] ++ a34)).length, I a42.Base, I a42.Cap, I v110]) E_good rfl rfl rfl rfl rfl rfl rfl (.boxM (c := 11) rfl rfl (Nat.le_of_ble_eq_true rfl) rfl) ?_
       refine SafeOps.nil ?_
       repeat first|apply sq|apply sk|with_reducible first|apply tn|apply bn
       refine Safe.regionD (n := 14) [] [13] E_good mixed rfl ?_
       refine DT 0 [] rfl rfl (fun _ hz => (.fn rfl)) ?_
       refine DT 1 [] rfl rfl (fun _ hz => (.fn rfl)) ?_
       refine DT 2 [] rfl rfl (v := V.ptr [31] 0 0) (fun _ hz => (.fn rfl)) ?_
       refine DT 3 [] rfl rfl (v := V.ptr [31] 0 0) (fun _ hz => (.fn rfl)) ?_
       refine DT 4 [] rfl rfl (v := V.ptr [31] 0 4) (fun _ hz => (.fn rfl)) ?_
       refine DT 5 [] rfl rfl (v := I x109) (fun _ hz => (.load rfl rfl (.box (hz _ _ rfl rfl) rfl) rfl)) ?_
       refine DT 6 [] rfl rfl (fun _ hz => (.fn rfl)) ?_
       refine DT 7 [] rfl rfl (v := V.ptr [31] 0 0) (fun _ hz => (.fn rfl)) ?_
       refine DT 8 [] rfl rfl (v := V.ptr [31] 0 0) (fun _ hz => (.fn rfl)) ?_
       refine DT 9 [] rfl rfl (v := V.ptr [31] 0 3) (fun _ hz => (.fn rfl)) ?_
       refine DT 10 [] rfl rfl (v := I a25.T) (fun _ hz => (.load rfl rfl (.box (hz _ _ rfl rfl) rfl) rfl)) ?_
       refine DT 11 [] rfl rfl (v := I (IntKind.i64.wrap (x109 - a25.T))) (fun _ hz => (.fn rfl)) ?_
       refine DT 12 [] rfl rfl (v := V.bool (decide ((IntKind.i64.wrap (x109 - a25.T)) < 1))) (fun _ hz => (.fn rfl)) ?_
       refine DAny.onlyS (i := 13) rfl (by kernel_rfl) rfl ?_
       refine SafeOps.joinT 1 (fun ((v111, v112) : Int × Int) => go_ring_Step_j159 a34 a25 x109 v110 v111 v112 = some r) (fun ((v111, v112) : Int × Int) => ⟨Try.f48.ntmps, [], [([7], Obj.box [I 0, I 0, I 0, I 0, I 0, V.bool false, I 0]), ([28], Obj.rows 1 (rws (fun n => [I n]) ([] ++ a34)) false), ([31], Obj.box [I a25.Kind, I v111, I a25.V, I a25.T, I x109, V.bool a25.Won, I v112, V.ref [28] 0 (rws (fun n => [I n]) ([] ++ a34)).length, I a42.Base, I a42.Cap, I v110])], [(Try.f8.ntmps, [(7, V.ptr [7] 0 0), (9, V.ptr [31] 0 0)])], [40]⟩) ?_ (fun HJ1726 => ?_)
       ·rintro ⟨v111, v112⟩ h
        replace h : go_ring_Step_j159 a34 a25 x109 v110 v111 v112 = some r := h
        rw [go_ring_Step_j159] at h
        refine SafeOps.nil ⟨rfl, ?_⟩
        refine DAny.nil (by kernel_rfl) ?_
        repeat first|apply sq|apply sk|with_reducible first|apply tn|apply bn
        repeat (first | with_reducible refine thenQ.r ?_ | with_reducible refine blockQ.r ?_)
        refine inQ.gen (vs := []) (v := V.tup []) (.inl rfl) rfl .nil rfl ?_
        exact SafeOps.got (HJ1246 (v111, a25.V, a25.T, x109, a25.Won, v112, [] ++ a34, v110) h) (.ren [28] [7000, 114, 31, 7] (.cov ⟨rfl, rfl, (ut (ut upT_nil)), (uo (uo (uo upOb_nil))), upOut_nil, rfl⟩))
       ·skip
        refine SafeOps.inline E_good rfl rfl rfl rfl rfl Try.func56 rfl (fun _ _ => Try.call56 _ _) rfl ?_
        repeat first|apply sq|apply sk|with_reducible first|apply tn|apply bn
        refine Safe.region ?_
        refine Qf E_good ?_
        refine SafeOps.nil ?_
        repeat first|apply sq|apply sk|with_reducible first|apply tn|apply bn
        refine ifG h (fun hc1727 h => ?_) (fun hc1727 h => ?_)
        ·skip
         refine Safe.condK rfl hc1727 ?_
         repeat first|apply sq|apply sk|with_reducible first|apply tn|apply bn
         refine Safe.region ?_
         refine Qf E_good ?_
         refine Qf E_good ?_
         refine Q0 E_good rfl (v := V.ptr [31] 0 0) (.fn rfl) ?_
         refine Q0 E_good rfl (v := V.ptr [31] 0 0) (.fn rfl) ?_
         refine Q0 E_good rfl (v := V.ptr [31] 0 6) (.fn rfl) ?_
         refine SafeOps.store (z := Obj.box [I a25.Kind, I a25.Pc, I a25.V, I a25.T, I x109, V.bool a25.Won, I 2, V.ref [28] 0 (rws (fun n => [I n]) ([] ++ a34)).length, I a42.Base, I a42.Cap, I v110]) E_good rfl rfl rfl rfl rfl rfl rfl (.boxM (c := 11) rfl rfl (Nat.le_of_ble_eq_true rfl) rfl) ?_
         refine SafeOps.nil ?_
         repeat first|apply sq|apply sk|with_reducible first|apply tn|apply bn
         refine Safe.ret ?_
         repeat (first | with_reducible refine thenQ.r ?_ | with_reducible refine blockQ.r ?_)
         refine inQ.gen (vs := []) (v := V.tup []) (.inr rfl) rfl .nil rfl ?_
         exact SafeOps.got (HJ1726 (a25.Pc, 2) h) (.cov ⟨rfl, rfl, upT_nil, (uo (uo (uo upOb_nil))), (upOut_cons rfl (ut (ut upT_nil)) upOut_nil), rfl⟩)
        ·skip
         refine Safe.condN rfl hc1727 ?_
         repeat first|apply sq|apply sk|with_reducible first|apply tn|apply bn
         refine Safe.region ?_
         refine Qf E_good ?_
         refine Qf E_good ?_
         refine Q0 E_good rfl (v := V.ptr [31] 0 0) (.fn rfl) ?_
         refine Q0 E_good rfl (v := V.ptr [31] 0 0) (.fn rfl) ?_
         refine Q0 E_good rfl (v := V.ptr [31] 0 1) (.fn rfl) ?_
         refine SafeOps.store (z := Obj.box [I a25.Kind, I 2, I a25.V, I a25.T, I x109, V.bool a25.Won, I a25.State, V.ref [28] 0 (rws (fun n => [I n]) ([] ++ a34)).length, I a42.Base, I a42.Cap, I v110]) E_good rfl rfl rfl rfl rfl rfl rfl (.boxM (c := 11) rfl rfl (Nat.le_of_ble_eq_true rfl) rfl) ?_
         refine SafeOps.nil ?_
         repeat first|apply sq|apply sk|with_reducible first|apply tn|apply bn
         repeat (first | with_reducible refine thenQ.r ?_ | with_reducible refine blockQ.r ?_)
         refine inQ.gen (vs := []) (v := V.tup []) (.inl rfl) rfl .nil rfl ?_
         exact SafeOps.got (HJ1726 (2, a25.State) h) (.cov ⟨rfl, rfl, upT_nil, (uo (uo (uo upOb_nil))), (upOut_cons rfl (ut (ut upT_nil)) upOut_nil), rfl⟩)
      ·skip
       refine SafeOps.inline E_good rfl rfl rfl rfl rfl Try.func54 rfl (fun _ _ => Try.call54 _ _) rfl ?_
       repeat first|apply sq|apply sk|with_reducible first|apply tn|apply bn
       refine Safe.region ?_
       refine Qf E_good ?_
       refine SafeOps.nil ?_
       repeat first|apply sq|apply sk|with_reducible first|apply tn|apply bn
       refine Safe.region ?_
       refine Qf E_good ?_
       refine Q0 E_good rfl (v := V.bool (!((decide (x109 ≥ (-1))) && (decide (x109 ≤ 1099511627776))))) (.fn rfl) ?_
       refine SafeOps.nil ?_
       repeat first|apply sq|apply sk|with_reducible first|apply tn|apply bn
       refine ifG h (fun hc1728 h => ?_) (fun hc1728 h => ?_)
       ·skip
        refine Safe.condK rfl hc1728 ?_
        repeat first|apply sq|apply sk|with_reducible first|apply tn|apply bn
        refine Safe.region ?_
        refine Qf E_good ?_
        refine Q0 E_good rfl (v := V.ptr [31] 0 0) (.fn rfl) ?_
        refine Q0 E_good rfl (v := V.ptr [31] 0 10) (.fn rfl) ?_
        refine SafeOps.store (z := Obj.box [I a25.Kind, I a25.Pc, I a25.V, I a25.T, I a25.B, V.bool a25.Won, I a25.State, V.ref [28] 0 (rws (fun n => [I n]) ([] ++ a34)).length, I a42.Base, I a42.Cap, I 9]) E_good rfl rfl rfl rfl rfl rfl rfl (.boxM (c := 11) rfl rfl (Nat.le_of_ble_eq_true rfl) rfl) ?_
        refine SafeOps.nil ?_
        repeat first|apply sq|apply sk|with_reducible first|apply tn|apply bn
        refine Safe.region ?_
        refine Qf E_good ?_
        refine Qf E_good ?_
        refine SafeOps.nil ?_
        repeat first|apply sq|apply sk|with_reducible first|apply tn|apply bn
        refine Safe.ret ?_
        repeat (first | with_reducible refine thenQ.r ?_ | with_reducible refine blockQ.r ?_)
        refine inQ.gen (vs := [V.bool ((decide (x109 ≥ (-1))) && (decide (x109 ≤ 1099511627776)))]) (v := V.bool ((decide (x109 ≥ (-1))) && (decide (x109 ≤ 1099511627776)))) (.inr rfl) rfl (.tmp (v := V.bool ((decide (x109 ≥ (-1))) && (decide (x109 ≤ 1099511627776)))) rfl .nil) rfl ?_
        exact SafeOps.got (HJ1722 (9) h) (.cov ⟨rfl, rfl, (ut upT_nil), (uo (uo (uo upOb_nil))), (upOut_cons rfl (ut (ut upT_nil)) (upOut_cons rfl (ut (ut upT_nil)) upOut_nil)), rfl⟩)
       ·skip
        refine Safe.condN rfl hc1728 ?_
        repeat first|apply sq|apply sk|with_reducible first|apply tn|apply bn
        refine Safe.region ?_
        refine Qf E_good ?_
        refine Qf E_good ?_
        refine SafeOps.nil ?_
        repeat first|apply sq|apply sk|with_reducible first|apply tn|apply bn
        refine Safe.ret ?_
        repeat (first | with_reducible refine thenQ.r ?_ | with_reducible refine blockQ.r ?_)
        refine inQ.gen (vs := [V.bool ((decide (x109 ≥ (-1))) && (decide (x109 ≤ 1099511627776)))]) (v := V.bool ((decide (x109 ≥ (-1))) && (decide (x109 ≤ 1099511627776)))) (.inr rfl) rfl (.tmp (v := V.bool ((decide (x109 ≥ (-1))) && (decide (x109 ≤ 1099511627776)))) rfl .nil) rfl ?_
        exact SafeOps.got (HJ1722 (v113) h) (.cov ⟨rfl, rfl, (ut upT_nil), (uo (uo (uo upOb_nil))), (upOut_cons rfl (ut (ut upT_nil)) (upOut_cons rfl (ut (ut upT_nil)) upOut_nil)), rfl⟩)
     ·skip
      refine SafeOps.inline E_good rfl rfl rfl rfl rfl Try.func54 rfl (fun _ _ => Try.call54 _ _) rfl ?_
      repeat first|apply sq|apply sk|with_reducible first|apply tn|apply bn
      refine Safe.region ?_
      refine Qf E_good ?_
      refine SafeOps.nil ?_
      repeat first|apply sq|apply sk|with_reducible first|apply tn|apply bn
      refine Safe.region ?_
      refine Qf E_good ?_
      refine Q0 E_good rfl (v := V.bool (!(x134 == 0))) (.fn rfl) ?_
      refine SafeOps.nil ?_
      repeat first|apply sq|apply sk|with_reducible first|apply tn|apply bn
      refine ifG h (fun hc1729 h => ?_) (fun hc1729 h => ?_)
      ·skip
       refine Safe.condK rfl hc1729 ?_
       repeat first|apply sq|apply sk|with_reducible first|apply tn|apply bn
       refine Safe.region ?_
       refine Qf E_good ?_
       refine Q0 E_good rfl (v := V.ptr [31] 0 0) (.fn rfl) ?_
       refine Q0 E_good rfl (v := V.ptr [31] 0 10) (.fn rfl) ?_
       refine SafeOps.store (z := Obj.box [I a25.Kind, I a25.Pc, I a25.V, I a25.T, I a25.B, V.bool a25.Won, I a25.State, V.ref [28] 0 (rws (fun n => [I n]) ([] ++ a34)).length, I a42.Base, I a42.Cap, I 9]) E_good rfl rfl rfl rfl rfl rfl rfl (.boxM (c := 11) rfl rfl (Nat.le_of_ble_eq_true rfl) rfl) ?_
       refine SafeOps.nil ?_
       repeat first|apply sq|apply sk|with_reducible first|apply tn|apply bn
       refine Safe.region ?_
       refine Qf E_good ?_
       refine Qf E_good ?_
       refine SafeOps.nil ?_
       repeat first|apply sq|apply sk|with_reducible first|apply tn|apply bn
       refine Safe.ret ?_
       repeat (first | with_reducible refine thenQ.r ?_ | with_reducible refine blockQ.r ?_)
       refine inQ.gen (vs := [V.bool (x134 == 0)]) (v := V.bool (x134 == 0)) (.inr rfl) rfl (.tmp (v := V.bool (x134 == 0)) rfl .nil) rfl ?_
       exact SafeOps.got (HJ1718 (9) h) (.cov ⟨rfl, rfl, (ut upT_nil), (uo (uo (uo upOb_nil))), (upOut_cons rfl (ut (ut upT_nil)) (upOut_cons rfl (ut (ut upT_nil)) (upOut_cons rfl (ut (ut upT_nil)) upOut_nil))), rfl⟩)
      ·skip
       refine Safe.condN rfl hc1729 ?_
       repeat first|apply sq|apply sk|with_reducible first|apply tn|apply bn
       refine Safe.region ?_
       refine Qf E_good ?_
       refine Qf E_good ?_
       refine SafeOps.nil ?_
       repeat first|apply sq|apply sk|with_reducible first|apply tn|apply bn
       refine Safe.ret ?_
       repeat (first | with_reducible refine thenQ.r ?_ | with_reducible refine blockQ.r ?_)
       refine inQ.gen (vs := [V.bool (x134 == 0)]) (v := V.bool (x134 == 0)) (.inr rfl) rfl (.tmp (v := V.bool (x134 == 0)) rfl .nil) rfl ?_
       exact SafeOps.got (HJ1718 (0) h) (.cov ⟨rfl, rfl, (ut upT_nil), (uo (uo (uo upOb_nil))), (upOut_cons rfl (ut (ut upT_nil)) (upOut_cons rfl (ut (ut upT_nil)) (upOut_cons rfl (ut (ut upT_nil)) upOut_nil))), rfl⟩)
    refine ifP_G h (fun hq1730 h => ?_) (fun _ h => ?_)
    ·skip
     refine SafeOps.see 38 (u := V.fn 49 []) rfl (up_fn hq1730) ?_
     refine SafeOps.inline E_good rfl rfl rfl rfl rfl Try.func49 rfl (fun _ _ => Try.call49 _ _) rfl ?_
     repeat first|apply sq|apply sk|with_reducible first|apply tn|apply bn
     refine Safe.region ?_
     refine Qf E_good ?_
     refine Qf E_good ?_
     refine Q0 E_good rfl (v := V.ptr [31] 0 0) (.fn rfl) ?_
     refine Q0 E_good rfl (v := V.ptr [31] 0 0) (.fn rfl) ?_
     refine Q0 E_good rfl (v := V.ptr [31] 0 3) (.fn rfl) ?_
     refine Q0 E_good rfl (v := I a25.T) (.load rfl rfl (.box rfl rfl) rfl) ?_
     refine Q0 E_good rfl (v := V.bool (decide (a25.T ≥ 0))) (.fn rfl) ?_
     refine SafeOps.joinT 1 (fun (v118 : Int) => go_ring_Step_j160 a34 a42 a25 v118 = some r) (fun (v118 : Int) => ⟨Try.f49.ntmps, [(0, V.ptr [31] 0 0), (9, V.bool (decide (a25.T ≥ 0)))], [([7], Obj.box [I 0, I 0, I 0, I 0, I 0, V.bool false, I 0]), ([28], Obj.rows 1 (rws (fun n => [I n]) ([] ++ a34)) false), ([31], Obj.box [I a25.Kind, I a25.Pc, I a25.V, I a25.T, I a25.B, V.bool a25.Won, I a25.State, V.ref [28] 0 (rws (fun n => [I n]) ([] ++ a34)).length, I a42.Base, I a42.Cap, I v118])], [(Try.f8.ntmps, [(7, V.ptr [7] 0 0), (9, V.ptr [31] 0 0)])], [40]⟩) ?_ (fun HJ1733 => ?_)
     ·intro v118 h
      replace h : go_ring_Step_j160 a34 a42 a25 v118 = some r := h
      rw [go_ring_Step_j160] at h
      refine SafeOps.nil ?_
      repeat first|apply sq|apply sk|with_reducible first|apply tn|apply bn
      refine Safe.joinT (fun ((v114, v115) : Int × Int) => go_ring_Step_j163 a34 a25 v114 v115 = some r) (fun ((v114, v115) : Int × Int) => ⟨Try.f49.ntmps, [(0, V.ptr [31] 0 0)], [([7], Obj.box [I 0, I 0, I 0, I 0, I 0, V.bool false, I 0]), ([28], Obj.rows 1 (rws (fun n => [I n]) ([] ++ a34)) false), ([31], Obj.box [I a25.Kind, I a25.Pc, I v114, I a25.T, I a25.B, V.bool a25.Won, I a25.State, V.ref [28] 0 (rws (fun n => [I n]) ([] ++ a34)).length, I a42.Base, I a42.Cap, I v115])], [(Try.f8.ntmps, [(7, V.ptr [7] 0 0), (9, V.ptr [31] 0 0)])], [40]⟩) ?_ (fun HJ1750 => ?_)
      ·rintro ⟨v114, v115⟩ h
       replace h : go_ring_Step_j163 a34 a25 v114 v115 = some r := h
       rw [go_ring_Step_j163] at h
       repeat first|apply sq|apply sk|with_reducible first|apply tn|apply bn
       refine Safe.region ?_
       refine Qf E_good ?_
       refine Q0 E_good rfl (v := V.ptr [31] 0 0) (.fn rfl) ?_
       refine Q0 E_good rfl (v := V.ptr [31] 0 0) (.fn rfl) ?_
       refine Q0 E_good rfl (v := V.ptr [31] 0 1) (.fn rfl) ?_
       refine Q0 E_good rfl (v := I a25.Pc) (.load rfl rfl (.box rfl rfl) rfl) ?_
       refine Q0 E_good rfl (v := I (IntKind.i64.wrap (a25.Pc + 1))) (.fn rfl) ?_
       refine Q0 E_good rfl (v := V.ptr [31] 0 0) (.fn rfl) ?_
       refine Q0 E_good rfl (v := V.ptr [31] 0 0) (.fn rfl) ?_
       refine Q0 E_good rfl (v := V.ptr [31] 0 1) (.fn rfl) ?_
       refine SafeOps.store (z := Obj.box [I a25.Kind, I (IntKind.i64.wrap (a25.Pc + 1)), I v114, I a25.T, I a25.B, V.bool a25.Won, I a25.State, V.ref [28] 0 (rws (fun n => [I n]) ([] ++ a34)).length, I a42.Base, I a42.Cap, I v115]) E_good rfl rfl rfl rfl rfl rfl rfl (.boxM (c := 11) rfl rfl (Nat.le_of_ble_eq_true rfl) rfl) ?_
       refine SafeOps.nil ?_
       repeat first|apply sq|apply sk|with_reducible first|apply tn|apply bn
       repeat (first | with_reducible refine thenQ.r ?_ | with_reducible refine blockQ.r ?_)
       refine inQ.gen (vs := []) (v := V.tup []) (.inl rfl) rfl .nil rfl ?_
       exact SafeOps.got (HJ1246 (IntKind.i64.wrap (a25.Pc + 1), v114, a25.T, a25.B, a25.Won, a25.State, [] ++ a34, v115) h) (.ren [28] [7000, 114, 31, 7] (.cov ⟨rfl, rfl, (ut (ut upT_nil)), (uo (uo (uo upOb_nil))), upOut_nil, rfl⟩))
      ·skip
       refine ifG h (fun hc1751 h => ?_) (fun hc1751 h => ?_)
       ·skip
        refine Safe.condK rfl hc1751 ?_
        repeat first|apply sq|apply sk|with_reducible first|apply tn|apply bn
        refine Safe.region ?_
        refine Qf E_good ?_
        refine Qf E_good ?_
        refine Qf E_good ?_
        refine Qf E_good ?_
        refine Q0 E_good rfl (v := V.ptr [31] 0 0) (.fn rfl) ?_
        refine Q0 E_good rfl (v := V.ptr [31] 0 0) (.fn rfl) ?_
        refine Q0 E_good rfl (v := V.ptr [31] 0 3) (.fn rfl) ?_
        refine Q0 E_good rfl (v := I a25.T) (.load rfl rfl (.box rfl rfl) rfl) ?_
        refine bindG h ?_
        intro x119 he1753 h
        refine Q0 E_good rfl (v := I x119) (.callS rfl (.cons (.box rfl (.cons (.free rfl) (.cons (.free rfl) (.cons (.free rfl) (.cons (.free rfl) (.cons (.free rfl) (.cons (.free rfl) (.cons (.free rfl) (.cons (.full rfl rfl) (.cons (.free rfl) (.cons (.free rfl) (.cons (.free rfl) .nil)))))))))))) (.cons (.free rfl) .nil)) (go_pring_actor_slot_sc (ring_actor.mk a25 ([] ++ a34) a42 v118) a25.T _ he1753) (.plain rfl) rfl) ?_
        refine SafeOps.inline E_good rfl rfl rfl rfl rfl Try.func31 rfl (fun _ _ => Try.call31 _ _) rfl ?_
        repeat first|apply sq|apply sk|with_reducible first|apply tn|apply bn
        refine Safe.region ?_
        refine Qf E_good ?_
        refine SafeOps.nil ?_
        repeat first|apply sq|apply sk|with_reducible first|apply tn|apply bn
        refine Safe.region ?_
        refine Qf E_good ?_
        refine Q0 E_good rfl (v := V.ptr [31] 0 0) (.fn rfl) ?_
        refine Q0 E_good rfl (v := V.ptr [31] 0 7) (.fn rfl) ?_
        refine Q0 E_good rfl (v := V.ref [28] 0 (rws (fun n => [I n]) ([] ++ a34)).length) (.load rfl rfl (.box rfl rfl) rfl) ?_
        refine Qf E_good ?_
        refine bindG h ?_
        rintro ⟨x116, x120⟩ he1762 h
        refine Q0 E_good rfl (v := V.tup [I x116, I x120]) (.callS rfl (.cons (.full rfl rfl) (.cons (.free rfl) .nil)) (go_cell_Load_sc ([] ++ a34) x119 _ he1762) (.tupL (.cons (.plain rfl) (.cons (.plain rfl) .nil))) rfl) ?_
        refine Qf E_good ?_
        refine Qf E_good ?_
        refine Qf E_good ?_
        refine Qf E_good ?_
        refine Qf E_good ?_
        refine SafeOps.nil ?_
        repeat first|apply sq|apply sk|with_reducible first|apply tn|apply bn
        refine Safe.region ?_
        refine Qf E_good ?_
        refine Qf E_good ?_
        refine Q0 E_good rfl (v := V.bool (x120 == 0)) (.fn rfl) ?_
        refine SafeOps.joinT 1 (fun (v117 : Int) => go_ring_Step_j165 a34 a25 x116 v117 = some r) (fun (v117 : Int) => ⟨Try.f31.ntmps, [(5, I x116)], [([7], Obj.box [I 0, I 0, I 0, I 0, I 0, V.bool false, I 0]), ([28], Obj.rows 1 (rws (fun n => [I n]) ([] ++ a34)) false), ([31], Obj.box [I a25.Kind, I a25.Pc, I a25.V, I a25.T, I a25.B, V.bool a25.Won, I a25.State, V.ref [28] 0 (rws (fun n => [I n]) ([] ++ a34)).length, I a42.Base, I a42.Cap, I v117])], [(Try.f49.ntmps, [(0, V.ptr [31] 0 0), (10, V.ptr [31] 0 0)]), (Try.f8.ntmps, [(7, V.ptr [7] 0 0), (9, V.ptr [31] 0 0)])], [40, 19]⟩) ?_ (fun HJ1765 => ?_)
        ·intro v117 h
         replace h : go_ring_Step_j165 a34 a25 x116 v117 = some r := h
         rw [go_ring_Step_j165] at h
         refine SafeOps.nil ?_
         repeat first|apply sq|apply sk|with_reducible first|apply tn|apply bn
         refine Safe.region ?_
         refine Qf E_good ?_
         refine Qf E_good ?_
         refine SafeOps.nil ?_
         repeat first|apply sq|apply sk|with_reducible first|apply tn|apply bn
         refine Safe.ret ?_
         repeat (first | with_reducible refine thenQ.r ?_ | with_reducible refine blockQ.r ?_)
         refine inQ.gen (vs := [I x116]) (v := I x116) (.inr rfl) rfl (.tmp (v := I x116) rfl .nil) rfl ?_
         refine Q0 E_good rfl (v := V.ptr [31] 0 0) (.fn rfl) ?_
         refine Q0 E_good rfl (v := V.ptr [31] 0 0) (.fn rfl) ?_
         refine Q0 E_good rfl (v := V.ptr [31] 0 2) (.fn rfl) ?_
         refine SafeOps.store (z := Obj.box [I a25.Kind, I a25.Pc, I x116, I a25.T, I a25.B, V.bool a25.Won, I a25.State, V.ref [28] 0 (rws (fun n => [I n]) ([] ++ a34)).length, I a42.Base, I a42.Cap, I v117]) E_good rfl rfl rfl rfl rfl rfl rfl (.boxM (c := 11) rfl rfl (Nat.le_of_ble_eq_true rfl) rfl) ?_
         refine SafeOps.nil ?_
         repeat (first | refine Safe.skip ?_ | with_reducible refine thenQ.n ?_ | with_reducible refine blockQ.n ?_)
         exact Safe.got (HJ1750 (x116, v117) h) (.cov ⟨rfl, rfl, (ut upT_nil), (uo (uo (uo upOb_nil))), (upOut_cons rfl (ut (ut upT_nil)) upOut_nil), rfl⟩)
        ·skip
         refine SafeOps.inline E_good rfl rfl rfl rfl rfl Try.func54 rfl (fun _ _ => Try.call54 _ _) rfl ?_
         repeat first|apply sq|apply sk|with_reducible first|apply tn|apply bn
         refine Safe.region ?_
         refine Qf E_good ?_
         refine SafeOps.nil ?_
         repeat first|apply sq|apply sk|with_reducible first|apply tn|apply bn
         refine Safe.region ?_
         refine Qf E_good ?_
         refine Q0 E_good rfl (v := V.bool (!(x120 == 0))) (.fn rfl) ?_
         refine SafeOps.nil ?_
         repeat first|apply sq|apply sk|with_reducible first|apply tn|apply bn
         refine ifG h (fun hc1766 h => ?_) (fun hc1766 h => ?_)
         ·skip
          refine Safe.condK rfl hc1766 ?_
          repeat first|apply sq|apply sk|with_reducible first|apply tn|apply bn
          refine Safe.region ?_
          refine Qf E_good ?_
          refine Q0 E_good rfl (v := V.ptr [31] 0 0) (.fn rfl) ?_
          refine Q0 E_good rfl (v := V.ptr [31] 0 10) (.fn rfl) ?_
          refine SafeOps.store (z := Obj.box [I a25.Kind, I a25.Pc, I a25.V, I a25.T, I a25.B, V.bool a25.Won, I a25.State, V.ref [28] 0 (rws (fun n => [I n]) ([] ++ a34)).length, I a42.Base, I a42.Cap, I 9]) E_good rfl rfl rfl rfl rfl rfl rfl (.boxM (c := 11) rfl rfl (Nat.le_of_ble_eq_true rfl) rfl) ?_
          refine SafeOps.nil ?_
          repeat first|apply sq|apply sk|with_reducible first|apply tn|apply bn
          refine Safe.region ?_
          refine Qf E_good ?_
          refine Qf E_good ?_
          refine SafeOps.nil ?_
          repeat first|apply sq|apply sk|with_reducible first|apply tn|apply bn
          refine Safe.ret ?_
          repeat (first | with_reducible refine thenQ.r ?_ | with_reducible refine blockQ.r ?_)
          refine inQ.gen (vs := [V.bool (x120 == 0)]) (v := V.bool (x120 == 0)) (.inr rfl) rfl (.tmp (v := V.bool (x120 == 0)) rfl .nil) rfl ?_
          exact SafeOps.got (HJ1765 (9) h) (.cov ⟨rfl, rfl, (ut upT_nil), (uo (uo (uo upOb_nil))), (upOut_cons rfl (ut (ut upT_nil)) (upOut_cons rfl (ut (ut upT_nil)) upOut_nil)), rfl⟩)
         ·skip
          refine Safe.condN rfl hc1766 ?_
          repeat first|apply sq|apply sk|with_reducible first|apply tn|apply bn
          refine Safe.region ?_
          refine Qf E_good ?_
          refine Qf E_good ?_
          refine SafeOps.nil ?_
          repeat first|apply sq|apply sk|with_reducible first|apply tn|apply bn
          refine Safe.ret ?_
          repeat (first | with_reducible refine thenQ.r ?_ | with_reducible refine blockQ.r ?_)
          refine inQ.gen (vs := [V.bool (x120 == 0)]) (v := V.bool (x120 == 0)) (.inr rfl) rfl (.tmp (v := V.bool (x120 == 0)) rfl .nil) rfl ?_
          exact SafeOps.got (HJ1765 (v118) h) (.cov ⟨rfl, rfl, (ut upT_nil), (uo (uo (uo upOb_nil))), (upOut_cons rfl (ut (ut upT_nil)) (upOut_cons rfl (ut (ut upT_nil)) upOut_nil)), rfl⟩)
       ·skip
        refine Safe.condN rfl hc1751 ?_
        repeat (first | refine Safe.skip ?_ | with_reducible refine thenQ.n ?_ | with_reducible refine blockQ.n ?_)
        exact Safe.got (HJ1750 (a25.V, v118) h) (.cov ⟨rfl, rfl, (ut upT_nil), (uo (uo (uo upOb_nil))), (upOut_cons rfl (ut (ut upT_nil)) upOut_nil), rfl⟩)
     ·skip
      refine SafeOps.inline E_good rfl rfl rfl rfl rfl Try.func54 rfl (fun _ _ => Try.call54 _ _) rfl ?_
      repeat first|apply sq|apply sk|with_reducible first|apply tn|apply bn
      refine Safe.region ?_
      refine Qf E_good ?_
      refine SafeOps.nil ?_
      repeat first|apply sq|apply sk|with_reducible first|apply tn|apply bn
      refine Safe.region ?_
      refine Qf E_good ?_
      refine Q0 E_good rfl (v := V.bool (!(decide (a25.T ≥ 0)))) (.fn rfl) ?_
      refine SafeOps.nil ?_
      repeat first|apply sq|apply sk|with_reducible first|apply tn|apply bn
      refine ifG h (fun hc1767 h => ?_) (fun hc1767 h => ?_)
      ·skip
       refine Safe.condK rfl hc1767 ?_
       repeat first|apply sq|apply sk|with_reducible first|apply tn|apply bn
       refine Safe.region ?_
       refine Qf E_good ?_
       refine Q0 E_good rfl (v := V.ptr [31] 0 0) (.fn rfl) ?_
       refine Q0 E_good rfl (v := V.ptr [31] 0 10) (.fn rfl) ?_
       refine SafeOps.store (z := Obj.box [I a25.Kind, I a25.Pc, I a25.V, I a25.T, I a25.B, V.bool a25.Won, I a25.State, V.ref [28] 0 (rws (fun n => [I n]) ([] ++ a34)).length, I a42.Base, I a42.Cap, I 9]) E_good rfl rfl rfl rfl rfl rfl rfl (.boxM (c := 11) rfl rfl (Nat.le_of_ble_eq_true rfl) rfl) ?_
       refine SafeOps.nil ?_
       repeat first|apply sq|apply sk|with_reducible first|apply tn|apply bn
       refine Safe.region ?_
       refine Qf E_good ?_
       refine Qf E_good ?_
       refine SafeOps.nil ?_
       repeat first|apply sq|apply sk|with_reducible first|apply tn|apply bn
       refine Safe.ret ?_
       repeat (first | with_reducible refine thenQ.r ?_ | with_reducible refine blockQ.r ?_)
       refine inQ.gen (vs := [V.bool (decide (a25.T ≥ 0))]) (v := V.bool (decide (a25.T ≥ 0))) (.inr rfl) rfl (.tmp (v := V.bool (decide (a25.T ≥ 0))) rfl .nil) rfl ?_
       exact SafeOps.got (HJ1733 (9) h) (.cov ⟨rfl, rfl, (ut (ut upT_nil)), (uo (uo (uo upOb_nil))), (upOut_cons rfl (ut (ut upT_nil)) upOut_nil), rfl⟩)
      ·skip
       refine Safe.condN rfl hc1767 ?_
       repeat first|apply sq|apply sk|with_reducible first|apply tn|apply bn
       refine Safe.region ?_
       refine Qf E_good ?_
       refine Qf E_good ?_
       refine SafeOps.nil ?_
       repeat first|apply sq|apply sk|with_reducible first|apply tn|apply bn
       refine Safe.ret ?_
       repeat (first | with_reducible refine thenQ.r ?_ | with_reducible refine blockQ.r ?_)
       refine inQ.gen (vs := [V.bool (decide (a25.T ≥ 0))]) (v := V.bool (decide (a25.T ≥ 0))) (.inr rfl) rfl (.tmp (v := V.bool (decide (a25.T ≥ 0))) rfl .nil) rfl ?_
       exact SafeOps.got (HJ1733 (0) h) (.cov ⟨rfl, rfl, (ut (ut upT_nil)), (uo (uo (uo upOb_nil))), (upOut_cons rfl (ut (ut upT_nil)) upOut_nil), rfl⟩)
    refine ifP_G h (fun hq1768 h => ?_) (fun _ h => ?_)
    ·skip
     refine SafeOps.see 38 (u := V.fn 50 []) rfl (up_fn hq1768) ?_
     refine SafeOps.inline E_good rfl rfl rfl rfl rfl Try.func50 rfl (fun _ _ => Try.call50 _ _) rfl ?_
     repeat first|apply sq|apply sk|with_reducible first|apply tn|apply bn
     refine Safe.region ?_
     refine Qf E_good ?_
     refine Q0 E_good rfl (v := V.ptr [31] 0 0) (.fn rfl) ?_
     refine Q0 E_good rfl (v := V.ptr [31] 0 0) (.fn rfl) ?_
     refine Q0 E_good rfl (v := V.ptr [31] 0 6) (.fn rfl) ?_
     refine SafeOps.store (z := Obj.box [I a25.Kind, I a25.Pc, I a25.V, I a25.T, I a25.B, V.bool a25.Won, I 4, V.ref [28] 0 (rws (fun n => [I n]) ([] ++ a34)).length, I a42.Base, I a42.Cap, I 0]) E_good rfl rfl rfl rfl rfl rfl rfl (.boxM (c := 11) rfl rfl (Nat.le_of_ble_eq_true rfl) rfl) ?_
     refine SafeOps.nil ?_
     repeat first|apply sq|apply sk|with_reducible first|apply tn|apply bn
     refine Safe.region ?_
     refine Qf E_good ?_
     refine Qf E_good ?_
     refine Q0 E_good rfl (v := V.ptr [31] 0 0) (.fn rfl) ?_
     refine Q0 E_good rfl (v := V.ptr [31] 0 0) (.fn rfl) ?_
     refine Q0 E_good rfl (v := V.ptr [31] 0 3) (.fn rfl) ?_
     refine Q0 E_good rfl (v := I a25.T) (.load rfl rfl (.box rfl rfl) rfl) ?_
     refine Q0 E_good rfl (v := V.bool (decide (a25.T ≥ 0))) (.fn rfl) ?_
     refine SafeOps.joinT 1 (fun (v128 : Int) => go_ring_Step_j166 a34 a42 a25 v128 = some r) (fun (v128 : Int) => ⟨Try.f50.ntmps, [(0, V.ptr [31] 0 0), (13, V.bool (decide (a25.T ≥ 0)))], [([7], Obj.box [I 0, I 0, I 0, I 0, I 0, V.bool false, I 0]), ([28], Obj.rows 1 (rws (fun n => [I n]) ([] ++ a34)) false), ([31], Obj.box [I a25.Kind, I a25.Pc, I a25.V, I a25.T, I a25.B, V.bool a25.Won, I 4, V.ref [28] 0 (rws (fun n => [I n]) ([] ++ a34)).length, I a42.Base, I a42.Cap, I v128])], [(Try.f8.ntmps, [(7, V.ptr [7] 0 0), (9, V.ptr [31] 0 0)])], [40]⟩) ?_ (fun HJ1771 => ?_)
     ·intro v128 h
      replace h : go_ring_Step_j166 a34 a42 a25 v128 = some r := h
      rw [go_ring_Step_j166] at h
      refine Qf E_good ?_
      refine ifG h (fun hc1772 h => ?_) (fun hc1772 h => ?_)
      ·skip
       refine qT E_good hc1772 (.fn rfl) ?_
       refine SafeOps.joinT 1 (fun ((v121, v122, v123) : Bool × (List Int) × Int) => go_ring_Step_j168 a25 v121 v122 v123 = some r) (fun ((v121, v122, v123) : Bool × (List Int) × Int) => ⟨Try.f50.ntmps, [(0, V.ptr [31] 0 0), (14, V.bool (decide (a25.T ≥ 0))), (16, V.bool v121)], [([7], Obj.box [I 0, I 0, I 0, I 0, I 0, V.bool false, I 0]), ([31], Obj.box [I a25.Kind, I a25.Pc, I a25.V, I a25.T, I a25.B, V.bool a25.Won, I 4, V.ref [7000, 114, 31, 7] 0 (rws (fun n => [I n]) v122).length, I a42.Base, I a42.Cap, I v123]), ([7000, 114, 31, 7], Obj.rows 1 (rws (fun n => [I n]) v122) false)], [(Try.f8.ntmps, [(7, V.ptr [7] 0 0), (9, V.ptr [31] 0 0)])], [40]⟩) ?_ (fun HJ1820 => ?_)
       ·rintro ⟨v121, v122, v123⟩ h
        replace h : go_ring_Step_j168 a25 v121 v122 v123 = some r := h
        rw [go_ring_Step_j168] at h
        refine Q0 E_good rfl (v := V.bool v121) (.pickK rfl hc1772 rfl) ?_
        refine SafeOps.nil ?_
        repeat first|apply sq|apply sk|with_reducible first|apply tn|apply bn
        refine ifG h (fun hc1821 h => ?_) (fun hc1821 h => ?_)
        ·skip
         refine Safe.condK rfl hc1821 ?_
         repeat first|apply sq|apply sk|with_reducible first|apply tn|apply bn
         refine Safe.region ?_
         refine Qf E_good ?_
         refine Q0 E_good rfl (v := V.ptr [31] 0 0) (.fn rfl) ?_
         refine Q0 E_good rfl (v := V.ptr [31] 0 0) (.fn rfl) ?_
         refine Q0 E_good rfl (v := V.ptr [31] 0 6) (.fn rfl) ?_
         refine SafeOps.store (z := Obj.box [I a25.Kind, I a25.Pc, I a25.V, I a25.T, I a25.B, V.bool a25.Won, I 1, V.ref [7000, 114, 31, 7] 0 (rws (fun n => [I n]) v122).length, I a42.Base, I a42.Cap, I v123]) E_good rfl rfl rfl rfl rfl rfl rfl (.boxM (c := 11) rfl rfl (Nat.le_of_ble_eq_true rfl) rfl) ?_
         refine SafeOps.nil ?_
         repeat first|apply sq|apply sk|with_reducible first|apply tn|apply bn
         repeat (first | with_reducible refine thenQ.r ?_ | with_reducible refine blockQ.r ?_)
         refine inQ.gen (vs := []) (v := V.tup []) (.inl rfl) rfl .nil rfl ?_
         exact SafeOps.got (HJ1246 (a25.Pc, a25.V, a25.T, a25.B, a25.Won, 1, v122, v123) h) (.cov ⟨rfl, rfl, (ut (ut upT_nil)), (uo (uo (uo upOb_nil))), upOut_nil, rfl⟩)
        ·skip
         refine Safe.condN rfl hc1821 ?_
         repeat first|apply sq|apply sk|with_reducible first|apply tn|apply bn
         repeat (first | with_reducible refine thenQ.r ?_ | with_reducible refine blockQ.r ?_)
         refine inQ.gen (vs := []) (v := V.tup []) (.inl rfl) rfl .nil rfl ?_
         exact SafeOps.got (HJ1246 (a25.Pc, a25.V, a25.T, a25.B, a25.Won, 4, v122, v123) h) (.cov ⟨rfl, rfl, (ut (ut upT_nil)), (uo (uo (uo upOb_nil))), upOut_nil, rfl⟩)
       ·skip
        refine SafeOps.inline E_good (congrArg some hc1772) rfl rfl rfl rfl Try.func58 rfl (fun _ _ => Try.call58 _ _) rfl ?_
        repeat first|apply sq|apply sk|with_reducible first|apply tn|apply bn
        refine Safe.region ?_
        refine Qf E_good ?_
        refine SafeOps.nil ?_
        repeat first|apply sq|apply sk|with_reducible first|apply tn|apply bn
        refine Safe.regionD (n := 25) [] [] E_good mixed rfl ?_
        refine DT 0 [] rfl rfl (fun _ hz => (.fn rfl)) ?_
        refine DT 1 [] rfl rfl (v := V.ptr [31] 0 0) (fun _ hz => (.fn rfl)) ?_
        refine DT 2 [] rfl rfl (v := V.ptr [31] 0 7) (fun _ hz => (.fn rfl)) ?_
        refine DT 3 [] rfl rfl (v := V.ref [28] 0 (rws (fun n => [I n]) ([] ++ a34)).length) (fun _ hz => (.load rfl rfl (.box (hz _ _ rfl rfl) rfl) rfl)) ?_
        refine DT 4 [] rfl rfl (fun _ hz => (.fn rfl)) ?_
        refine DT 5 [] rfl rfl (v := I (go_pring_actor_top (ring_actor.mk (api_Hand.mk a25.Kind a25.Pc a25.V a25.T a25.B a25.Won 4) ([] ++ a34) a42 v128))) (fun _ hz => (.callS rfl (.cons (.box (hz _ _ rfl rfl) (.cons (.free rfl) (.cons (.free rfl) (.cons (.free rfl) (.cons (.free rfl) (.cons (.free rfl) (.cons (.free rfl) (.cons (.free rfl) (.cons (.full (hz _ _ rfl rfl) rfl) (.cons (.free rfl) (.cons (.free rfl) (.cons (.free rfl) .nil)))))))))))) .nil) (go_pring_actor_top_sc (ring_actor.mk (api_Hand.mk a25.Kind a25.Pc a25.V a25.T a25.B a25.Won 4) ([] ++ a34) a42 v128) _ rfl) (.plain rfl) rfl)) ?_
        refine DT 6 [] rfl rfl (fun _ hz => (.fn rfl)) ?_
        refine DT 7 [] rfl rfl (v := V.ptr [31] 0 0) (fun _ hz => (.fn rfl)) ?_
        refine DT 8 [] rfl rfl (v := V.ptr [31] 0 0) (fun _ hz => (.fn rfl)) ?_
        refine DT 9 [] rfl rfl (v := V.ptr [31] 0 3) (fun _ hz => (.fn rfl)) ?_
        refine DT 10 [] rfl rfl (v := I a25.T) (fun _ hz => (.load rfl rfl (.box (hz _ _ rfl rfl) rfl) rfl)) ?_
        refine DT 11 [] rfl rfl (fun _ hz => (.fn rfl)) ?_
        refine DT 12 [] rfl rfl (v := V.ptr [31] 0 0) (fun _ hz => (.fn rfl)) ?_
        refine DT 13 [] rfl rfl (v := V.ptr [31] 0 0) (fun _ hz => (.fn rfl)) ?_
        refine DT 14 [] rfl rfl (v := V.ptr [31] 0 3) (fun _ hz => (.fn rfl)) ?_
        refine DT 15 [] rfl rfl (v := I a25.T) (fun _ hz => (.load rfl rfl (.box (hz _ _ rfl rfl) rfl) rfl)) ?_
        refine DT 16 [] rfl rfl (v := I (IntKind.i64.wrap (a25.T + 1))) (fun _ hz => (.fn rfl)) ?_
        refine bindG h ?_
        rintro ⟨x124, x125, x126⟩ he1825 h
        refine DAny.only (i := 17) rfl (by kernel_rfl) (.quiet rfl rfl rfl (v := V.tup [V.ref [40, 16, 24, 0] 0 (rws (fun n => [I n]) x124).length, V.bool x125, I x126]) (.callS rfl (.cons (.full rfl rfl) (.cons (.free rfl) (.cons (.free rfl) (.cons (.free rfl) .nil)))) (go_cell_Cas_sc ([] ++ a34) (go_pring_actor_top (ring_actor.mk (api_Hand.mk a25.Kind a25.Pc a25.V a25.T a25.B a25.Won 4) ([] ++ a34) a42 v128)) a25.T (IntKind.i64.wrap (a25.T + 1)) _ he1825) (.tupL (.cons (.ownM (fun _ => rfl)) (.cons (.plain rfl) (.cons (.plain rfl) .nil)))) rfl) rfl ?_)
        refine DT 18 [] rfl rfl (fun _ hz => (.fn rfl)) ?_
        refine DT 19 [] rfl rfl (fun _ hz => (.fn rfl)) ?_
        refine DT 20 [] rfl rfl (fun _ hz => (.fn rfl)) ?_
        refine DT 21 [] rfl rfl (fun _ hz => (.fn rfl)) ?_
        refine DT 22 [] rfl rfl (fun _ hz => (.fn rfl)) ?_
        refine DT 23 [] rfl rfl (fun _ hz => (.fn rfl)) ?_
        refine DT 24 [] rfl rfl (fun _ hz => (.fn rfl)) ?_
        refine DAny.nil (by kernel_rfl) ?_
        repeat first|apply sq|apply sk|with_reducible first|apply tn|apply bn
        refine Safe.region ?_
        refine Qf E_good ?_
        refine Qf E_good ?_
        refine Q0 E_good rfl (v := V.bool (x126 == 0)) (.fn rfl) ?_
        refine SafeOps.joinT 1 (fun (v127 : Int) => go_ring_Step_j169 a34 a25 x124 x125 x126 v127 = some r) (fun (v127 : Int) => ⟨Try.f58.ntmps, [(0, V.ptr [31] 0 0), (3, V.ref [40, 16, 24, 0] 0 (rws (fun n => [I n]) x124).length), (4, V.bool x125), (31, V.bool (x126 == 0))], [([7], Obj.box [I 0, I 0, I 0, I 0, I 0, V.bool false, I 0]), ([28], Obj.rows 1 (rws (fun n => [I n]) ([] ++ a34)) false), ([31], Obj.box [I a25.Kind, I a25.Pc, I a25.V, I a25.T, I a25.B, V.bool a25.Won, I 4, V.ref [28] 0 (rws (fun n => [I n]) ([] ++ a34)).length, I a42.Base, I a42.Cap, I v127]), ([40, 16, 24, 0], Obj.rows 1 (rws (fun n => [I n]) x124) false)], [(Try.f50.ntmps, [(0, V.ptr [31] 0 0), (14, V.bool (decide (a25.T ≥ 0)))]), (Try.f8.ntmps, [(7, V.ptr [7] 0 0), (9, V.ptr [31] 0 0)])], [40, 16]⟩) ?_ (fun HJ1828 => ?_)
        ·intro v127 h
         replace h : go_ring_Step_j169 a34 a25 x124 x125 x126 v127 = some r := h
         rw [go_ring_Step_j169] at h
         refine SafeOps.nil ?_
         repeat first|apply sq|apply sk|with_reducible first|apply tn|apply bn
         refine ifG h (fun hc1829 h => ?_) (fun hc1829 h => ?_)
         ·skip
          refine Safe.condK rfl hc1829 ?_
          repeat first|apply sq|apply sk|with_reducible first|apply tn|apply bn
          refine Safe.region ?_
          refine Qf E_good ?_
          refine Qf E_good ?_
          refine Q0 E_good rfl (v := V.ptr [31] 0 0) (.fn rfl) ?_
          refine Q0 E_good rfl (v := V.ptr [31] 0 7) (.fn rfl) ?_
          refine SafeOps.store (z := Obj.box [I a25.Kind, I a25.Pc, I a25.V, I a25.T, I a25.B, V.bool a25.Won, I 4, V.ref [40, 16, 24, 0] 0 (rws (fun n => [I n]) x124).length, I a42.Base, I a42.Cap, I v127]) E_good rfl rfl rfl rfl rfl rfl rfl (.boxM (c := 11) rfl rfl (Nat.le_of_ble_eq_true rfl) rfl) ?_
          refine SafeOps.nil ?_
          repeat first|apply sq|apply sk|with_reducible first|apply tn|apply bn
          refine Safe.region ?_
          refine Qf E_good ?_
          refine Qf E_good ?_
          refine SafeOps.nil ?_
          repeat first|apply sq|apply sk|with_reducible first|apply tn|apply bn
          refine Safe.ret ?_
          repeat (first | with_reducible refine thenQ.r ?_ | with_reducible refine blockQ.r ?_)
          refine inQ.gen (vs := [V.bool x125]) (v := V.bool x125) (.inr rfl) rfl (.tmp (v := V.bool x125) rfl .nil) rfl ?_
          exact SafeOps.got (HJ1820 (x125, x124, v127) h) (.ren [40, 16, 24, 0] [7000, 114, 31, 7] (.cov ⟨rfl, rfl, (ut (ut (ut upT_nil))), (uo (uo (uo upOb_nil))), (upOut_cons rfl (ut (ut upT_nil)) upOut_nil), rfl⟩))
         ·skip
          refine Safe.condN rfl hc1829 ?_
          repeat first|apply sq|apply sk|with_reducible first|apply tn|apply bn
          refine Safe.region ?_
          refine Qf E_good ?_
          refine Qf E_good ?_
          refine SafeOps.nil ?_
          repeat first|apply sq|apply sk|with_reducible first|apply tn|apply bn
          refine Safe.ret ?_
          repeat (first | with_reducible refine thenQ.r ?_ | with_reducible refine blockQ.r ?_)
          refine inQ.gen (vs := [V.bool x125]) (v := V.bool x125) (.inr rfl) rfl (.tmp (v := V.bool x125) rfl .nil) rfl ?_
          exact SafeOps.got (HJ1820 (x125, [] ++ a34, v127) h) (.ren [28] [7000, 114, 31, 7] (.cov ⟨rfl, rfl, (ut (ut (ut upT_nil))), (uo (uo (uo upOb_nil))), (upOut_cons rfl (ut (ut upT_nil)) upOut_nil), rfl⟩))
        ·skip
         refine SafeOps.inline E_good rfl rfl rfl rfl rfl Try.func54 rfl (fun _ _ => Try.call54 _ _) rfl ?_
         repeat first|apply sq|apply sk|with_reducible first|apply tn|apply bn
         refine Safe.region ?_
         refine Qf E_good ?_
         refine SafeOps.nil ?_
         repeat first|apply sq|apply sk|with_reducible first|apply tn|apply bn
         refine Safe.region ?_
         refine Qf E_good ?_
         refine Q0 E_good rfl (v := V.bool (!(x126 == 0))) (.fn rfl) ?_
         refine SafeOps.nil ?_
         repeat first|apply sq|apply sk|with_reducible first|apply tn|apply bn
         refine ifG h (fun hc1830 h => ?_) (fun hc1830 h => ?_)
         ·skip
          refine Safe.condK rfl hc1830 ?_
          repeat first|apply sq|apply sk|with_reducible first|apply tn|apply bn
          refine Safe.region ?_
          refine Qf E_good ?_
          refine Q0 E_good rfl (v := V.ptr [31] 0 0) (.fn rfl) ?_
          refine Q0 E_good rfl (v := V.ptr [31] 0 10) (.fn rfl) ?_
          refine SafeOps.store (z := Obj.box [I a25.Kind, I a25.Pc, I a25.V, I a25.T, I a25.B, V.bool a25.Won, I 4, V.ref [28] 0 (rws (fun n => [I n]) ([] ++ a34)).length, I a42.Base, I a42.Cap, I 9]) E_good rfl rfl rfl rfl rfl rfl rfl (.boxM (c := 11) rfl rfl (Nat.le_of_ble_eq_true rfl) rfl) ?_
          refine SafeOps.nil ?_
          repeat first|apply sq|apply sk|with_reducible first|apply tn|apply bn
          refine Safe.region ?_
          refine Qf E_good ?_
          refine Qf E_good ?_
          refine SafeOps.nil ?_
          repeat first|apply sq|apply sk|with_reducible first|apply tn|apply bn
          refine Safe.ret ?_
          repeat (first | with_reducible refine thenQ.r ?_ | with_reducible refine blockQ.r ?_)
          refine inQ.gen (vs := [V.bool (x126 == 0)]) (v := V.bool (x126 == 0)) (.inr rfl) rfl (.tmp (v := V.bool (x126 == 0)) rfl .nil) rfl ?_
          exact SafeOps.got (HJ1828 (9) h) (.cov ⟨rfl, rfl, (ut (ut (ut (ut upT_nil)))), (uo (uo (uo (uo upOb_nil)))), (upOut_cons rfl (ut (ut upT_nil)) (upOut_cons rfl (ut (ut upT_nil)) upOut_nil)), rfl⟩)
         ·skip
          refine Safe.condN rfl hc1830 ?_
          repeat first|apply sq|apply sk|with_reducible first|apply tn|apply bn
          refine Safe.region ?_
          refine Qf E_good ?_
          refine Qf E_good ?_
          refine SafeOps.nil ?_
          repeat first|apply sq|apply sk|with_reducible first|apply tn|apply bn
          refine Safe.ret ?_
          repeat (first | with_reducible refine thenQ.r ?_ | with_reducible refine blockQ.r ?_)
          refine inQ.gen (vs := [V.bool (x126 == 0)]) (v := V.bool (x126 == 0)) (.inr rfl) rfl (.tmp (v := V.bool (x126 == 0)) rfl .nil) rfl ?_
          exact SafeOps.got (HJ1828 (v128) h) (.cov ⟨rfl, rfl, (ut (ut (ut (ut upT_nil)))), (uo (uo (uo (uo upOb_nil)))), (upOut_cons rfl (ut (ut upT_nil)) (upOut_cons rfl (ut (ut upT_nil)) upOut_nil)), rfl⟩)
      ·skip
       refine sT hc1772 ?_
       refine sT hc1772 ?_
       refine Q0 E_good rfl (v := V.bool false) (.pickK rfl hc1772 rfl) ?_
       refine SafeOps.nil ?_
       repeat first|apply sq|apply sk|with_reducible first|apply tn|apply bn
       refine Safe.condN rfl rfl ?_
       repeat first|apply sq|apply sk|with_reducible first|apply tn|apply bn
       repeat (first | with_reducible refine thenQ.r ?_ | with_reducible refine blockQ.r ?_)
       refine inQ.gen (vs := []) (v := V.tup []) (.inl rfl) rfl .nil rfl ?_
       exact SafeOps.got (HJ1246 (a25.Pc, a25.V, a25.T, a25.B, a25.Won, 4, [] ++ a34, v128) h) (.ren [28] [7000, 114, 31, 7] (.cov ⟨rfl, rfl, (ut (ut upT_nil)), (uo (uo (uo upOb_nil))), upOut_nil, rfl⟩))
     ·skip
      refine SafeOps.inline E_good rfl rfl rfl rfl rfl Try.func54 rfl (fun _ _ => Try.call54 _ _) rfl ?_
      repeat first|apply sq|apply sk|with_reducible first|apply tn|apply bn
      refine Safe.region ?_
      refine Qf E_good ?_
      refine SafeOps.nil ?_
      repeat first|apply sq|apply sk|with_reducible first|apply tn|apply bn
      refine Safe.region ?_
      refine Qf E_good ?_
      refine Q0 E_good rfl (v := V.bool (!(decide (a25.T ≥ 0)))) (.fn rfl) ?_
      refine SafeOps.nil ?_
      repeat first|apply sq|apply sk|with_reducible first|apply tn|apply bn
      refine ifG h (fun hc1831 h => ?_) (fun hc1831 h => ?_)
      ·skip
       refine Safe.condK rfl hc1831 ?_
       repeat first|apply sq|apply sk|with_reducible first|apply tn|apply bn
       refine Safe.region ?_
       refine Qf E_good ?_
       refine Q0 E_good rfl (v := V.ptr [31] 0 0) (.fn rfl) ?_
       refine Q0 E_good rfl (v := V.ptr [31] 0 10) (.fn rfl) ?_
       refine SafeOps.store (z := Obj.box [I a25.Kind, I a25.Pc, I a25.V, I a25.T, I a25.B, V.bool a25.Won, I 4, V.ref [28] 0 (rws (fun n => [I n]) ([] ++ a34)).length, I a42.Base, I a42.Cap, I 9]) E_good rfl rfl rfl rfl rfl rfl rfl (.boxM (c := 11) rfl rfl (Nat.le_of_ble_eq_true rfl) rfl) ?_
       refine SafeOps.nil ?_
       repeat first|apply sq|apply sk|with_reducible first|apply tn|apply bn
       refine Safe.region ?_
       refine Qf E_good ?_
       refine Qf E_good ?_
       refine SafeOps.nil ?_
       repeat first|apply sq|apply sk|with_reducible first|apply tn|apply bn
       refine Safe.ret ?_
       repeat (first | with_reducible refine thenQ.r ?_ | with_reducible refine blockQ.r ?_)
       refine inQ.gen (vs := [V.bool (decide (a25.T ≥ 0))]) (v := V.bool (decide (a25.T ≥ 0))) (.inr rfl) rfl (.tmp (v := V.bool (decide (a25.T ≥ 0))) rfl .nil) rfl ?_
       exact SafeOps.got (HJ1771 (9) h) (.cov ⟨rfl, rfl, (ut (ut upT_nil)), (uo (uo (uo upOb_nil))), (upOut_cons rfl (ut (ut upT_nil)) upOut_nil), rfl⟩)
      ·skip
       refine Safe.condN rfl hc1831 ?_
       repeat first|apply sq|apply sk|with_reducible first|apply tn|apply bn
       refine Safe.region ?_
       refine Qf E_good ?_
       refine Qf E_good ?_
       refine SafeOps.nil ?_
       repeat first|apply sq|apply sk|with_reducible first|apply tn|apply bn
       refine Safe.ret ?_
       repeat (first | with_reducible refine thenQ.r ?_ | with_reducible refine blockQ.r ?_)
       refine inQ.gen (vs := [V.bool (decide (a25.T ≥ 0))]) (v := V.bool (decide (a25.T ≥ 0))) (.inr rfl) rfl (.tmp (v := V.bool (decide (a25.T ≥ 0))) rfl .nil) rfl ?_
       exact SafeOps.got (HJ1771 (0) h) (.cov ⟨rfl, rfl, (ut (ut upT_nil)), (uo (uo (uo upOb_nil))), (upOut_cons rfl (ut (ut upT_nil)) upOut_nil), rfl⟩)
    cases h
end Go.Proofs.Ytoapmmcoaggekaa
