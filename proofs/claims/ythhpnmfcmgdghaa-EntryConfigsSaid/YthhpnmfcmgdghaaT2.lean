/- Helper lemmas for the claim's theorem: an abstract machine over the model, proved sound; no condition beyond each lemma's own. -/
import Derived.Test.YthhpnmfcmgdghaaT1
set_option linter.unusedVariables false
set_option linter.unusedSimpArgs false
set_option linter.unnecessarySimpa false
set_option linter.unusedSectionVars false
namespace Go.Proofs.Ythhpnmfcmgdghaa
open Go Go.AM
set_option maxRecDepth 100000
set_option maxHeartbeats 1000000
set_option linter.unusedVariables false
set_option linter.unusedSimpArgs false
variable {gl : List (Nat × List V)}
noncomputable def go_ravelref14_Check_s1 (a0_2369 : List api_Tenant) : (Int) → Option ((Int) ⊕ (Int))
  | v15_2428 =>
    if (decide (v15_2428 < (a0_2369.length : Int))) = true then
      if 0 ≤ v15_2428 ∧ v15_2428 < (a0_2369.length : Int) then
        if ((((((!(go_ravelref14_in ((gt a0_2369 v15_2428).Weight) 1 16)) || (!(go_ravelref14_in ((gt a0_2369 v15_2428).Quota) 0 256))) || (decide (((gt a0_2369 v15_2428).Live) < 0))) || (decide (((gt a0_2369 v15_2428).Live) > ((gt a0_2369 v15_2428).Quota)))) || (!(go_ravelref14_in ((gt a0_2369 v15_2428).Tag) 0 1152921504606846976))) || (!(go_ravelref14_in ((gt a0_2369 v15_2428).Ran) 0 1099511627776))) = true then
          inrO (
            some 1)
        else
          nextO (IntKind.i64.wrap (v15_2428 + 1))
      else none
    else
      inrO (
        some 0)

noncomputable def go_ravelref14_Check (a0_2369 : List api_Tenant) : Option Int :=
  if ((decide ((a0_2369.length : Int) < 1)) || (decide ((a0_2369.length : Int) > 16))) = true then
    some 1
  else
    whileO (go_ravelref14_Check_s1 a0_2369) 0

theorem go_ravelref14_Check_sc (a0_2369 : List api_Tenant) (r : Int) (h : go_ravelref14_Check a0_2369 = some r) : SC Try.prog gl 57 [V.sl 5 (rws api_Tenant.cells a0_2369)] (V.int .i64 r) := by
  rw [go_ravelref14_Check] at h
  refine SC.of E_good Try.func57 rfl (fun _ _ => Try.call57 _ _) rfl ?_
  repeat (first | refine Safe.seq ?_ | refine Safe.skip ?_ | with_reducible refine thenQ.n ?_ | with_reducible refine blockQ.n ?_)
  refine Safe.region ?_
  refine SafeOps.quiet0 E_good rfl rfl rfl (v := V.int .i64 0) (.fn rfl) ?_
  refine SafeOps.nil ?_
  repeat (first | refine Safe.seq ?_ | refine Safe.skip ?_ | with_reducible refine thenQ.n ?_ | with_reducible refine blockQ.n ?_)
  refine Safe.region ?_
  refine SafeOps.quiet0 E_good rfl rfl rfl (v := V.sl 5 (rws api_Tenant.cells a0_2369)) (.fn rfl) ?_
  refine SafeOps.quiet0 E_good rfl rfl rfl (v := V.int .i64 (a0_2369.length : Int)) (.fnE rfl lenE) ?_
  refine SafeOps.quiet0 E_good rfl rfl rfl (v := V.bool (decide ((a0_2369.length : Int) < 1))) (.fn rfl) ?_
  refine SafeOps.quiet0 E_good rfl rfl rfl (v := V.bool (decide ((a0_2369.length : Int) < 1))) (.fn rfl) ?_
  refine SafeOps.bjoin 4 12 (b := ((decide ((a0_2369.length : Int) < 1)) || (decide ((a0_2369.length : Int) > 16)))) (b1 := true) (b0 := decide ((a0_2369.length : Int) > 16)) (fun hc2409 K => ?_) (fun hc2409 K => ?_) bj_or ?_
  · skip
    refine SafeOps.skip (congrArg (fun b => some (!b)) hc2409) rfl rfl ?_
    refine SafeOps.skip (congrArg (fun b => some (!b)) hc2409) rfl rfl ?_
    refine SafeOps.skip (congrArg (fun b => some (!b)) hc2409) rfl rfl ?_
    refine SafeOps.quiet0 E_good rfl rfl rfl (v := V.bool true) (.pickK rfl hc2409 rfl) ?_
    exact SafeOps.drop' 4 rfl rfl rfl K
  · skip
    refine SafeOps.quiet0 E_good (congrArg (fun b => some (!b)) hc2409) rfl rfl (v := V.sl 5 (rws api_Tenant.cells a0_2369)) (.fn rfl) ?_
    refine SafeOps.quiet0 E_good (congrArg (fun b => some (!b)) hc2409) rfl rfl (v := V.int .i64 (a0_2369.length : Int)) (.fnE rfl lenE) ?_
    refine SafeOps.quiet0 E_good (congrArg (fun b => some (!b)) hc2409) rfl rfl (v := V.bool (decide ((a0_2369.length : Int) > 16))) (.fn rfl) ?_
    refine SafeOps.quiet0 E_good rfl rfl rfl (v := V.bool (decide ((a0_2369.length : Int) > 16))) (.pickK rfl hc2409 rfl) ?_
    exact SafeOps.drop' 4 rfl rfl rfl K
  refine SafeOps.nil ?_
  repeat (first | refine Safe.seq ?_ | refine Safe.skip ?_ | with_reducible refine thenQ.n ?_ | with_reducible refine blockQ.n ?_)
  refine ifG h (fun hc2410 h => ?_) (fun hc2410 h => ?_)
  · skip
    refine Safe.condK rfl hc2410 ?_
    repeat (first | refine Safe.seq ?_ | refine Safe.skip ?_ | with_reducible refine thenQ.n ?_ | with_reducible refine blockQ.n ?_)
    refine Safe.region ?_
    refine SafeOps.quiet0 E_good rfl rfl rfl (v := V.int .i64 1) (.fn rfl) ?_
    refine SafeOps.nil ?_
    repeat (first | refine Safe.seq ?_ | refine Safe.skip ?_ | with_reducible refine thenQ.n ?_ | with_reducible refine blockQ.n ?_)
    refine Safe.ret ?_
    repeat (first | with_reducible refine thenQ.r ?_ | with_reducible refine blockQ.r ?_)
    obtain rfl := Option.some.inj h
    exact retQ.gen (vs := [V.int .i64 1]) rfl (.tmp (v := V.int .i64 1) rfl .nil) (.free rfl) (by simp) (.inr rfl)
  · skip
    refine Safe.condN rfl hc2410 ?_
    repeat (first | refine Safe.seq ?_ | refine Safe.skip ?_ | with_reducible refine thenQ.n ?_ | with_reducible refine blockQ.n ?_)
    refine Safe.region ?_
    refine SafeOps.quiet0 E_good rfl rfl rfl (v := V.sl 5 (rws api_Tenant.cells a0_2369)) (.fn rfl) ?_
    refine SafeOps.quiet0 E_good rfl rfl rfl (v := V.int .i64 (a0_2369.length : Int)) (.fnE rfl lenE) ?_
    refine SafeOps.quiet0 E_good rfl rfl rfl (v := V.int .i64 0) (.fn rfl) ?_
    refine SafeOps.nil ?_
    repeat (first | refine Safe.seq ?_ | refine Safe.skip ?_ | with_reducible refine thenQ.n ?_ | with_reducible refine blockQ.n ?_)
    refine Safe.block ?_
    repeat (first | refine Safe.seq ?_ | refine Safe.skip ?_ | with_reducible refine thenQ.n ?_ | with_reducible refine blockQ.n ?_)
    refine Safe.loopW (fun (v15_2428 : Int) => ⟨Try.f57.ntmps, [(13, V.sl 5 (rws api_Tenant.cells a0_2369)), (14, V.int .i64 (a0_2369.length : Int)), (15, V.int .i64 v15_2428)], [], [], []⟩) h (.cov ⟨rfl, rfl, (upT_cons (.refl _) (upT_cons (.refl _) (upT_cons (.refl _) upT_nil))), upOb_nil, upOut_nil, rfl⟩) ?_
    intro v15_2428 ohr2429 h hr2429
    replace h : go_ravelref14_Check_s1 a0_2369 v15_2428 = some ohr2429 := h
    rw [go_ravelref14_Check_s1] at h
    repeat (first | refine Safe.seq ?_ | refine Safe.skip ?_ | with_reducible refine thenQ.n ?_ | with_reducible refine blockQ.n ?_)
    refine Safe.region ?_
    refine SafeOps.quiet0 E_good rfl rfl rfl (v := V.bool (decide (v15_2428 < (a0_2369.length : Int)))) (.fn rfl) ?_
    refine SafeOps.nil ?_
    repeat (first | refine Safe.seq ?_ | refine Safe.skip ?_ | with_reducible refine thenQ.n ?_ | with_reducible refine blockQ.n ?_)
    refine ifG h (fun hc2430 h => ?_) (fun hc2430 h => ?_)
    · skip
      refine Safe.condK rfl hc2430 ?_
      repeat (first | refine Safe.seq ?_ | refine Safe.skip ?_ | with_reducible refine thenQ.n ?_ | with_reducible refine blockQ.n ?_)
      refine Safe.block ?_
      repeat (first | refine Safe.seq ?_ | refine Safe.skip ?_ | with_reducible refine thenQ.n ?_ | with_reducible refine blockQ.n ?_)
      refine Safe.region ?_
      refine okG h (fun hb2431 h => ?_)
      refine SafeOps.quiet0 E_good rfl rfl rfl (v := V.spt 5 (rws api_Tenant.cells a0_2369) (Int.toNat v15_2428) 0) (.idxSlM (f := api_Tenant.cells) rfl rfl rfl rfl rfl hb2431) ?_
      refine SafeOps.quiet0 E_good rfl rfl rfl (v := V.agg [V.int .i64 ((gt a0_2369 v15_2428).Weight), V.int .i64 ((gt a0_2369 v15_2428).Quota), V.int .i64 ((gt a0_2369 v15_2428).Live), V.int .i64 ((gt a0_2369 v15_2428).Tag), V.int .i64 ((gt a0_2369 v15_2428).Ran)]) (.load rfl rfl (.sptM (f := api_Tenant.cells) hb2431 rfl) rfl) ?_
      refine SafeOps.quiet1 E_good rfl rfl rfl (.alloc rfl rfl) rfl ?_
      refine SafeOps.store (z := Obj.box [V.int .i64 ((gt a0_2369 v15_2428).Weight), V.int .i64 ((gt a0_2369 v15_2428).Quota), V.int .i64 ((gt a0_2369 v15_2428).Live), V.int .i64 ((gt a0_2369 v15_2428).Tag), V.int .i64 ((gt a0_2369 v15_2428).Ran)]) E_good rfl rfl rfl rfl rfl rfl rfl (.boxM (c := 5) rfl rfl (Nat.le_of_ble_eq_true rfl) rfl) ?_
      refine SafeOps.nil ?_
      repeat (first | refine Safe.seq ?_ | refine Safe.skip ?_ | with_reducible refine thenQ.n ?_ | with_reducible refine blockQ.n ?_)
      refine Safe.region ?_
      refine SafeOps.quiet0 E_good rfl rfl rfl (v := V.ptr [4] 0 0) (.fn rfl) ?_
      refine SafeOps.quiet0 E_good rfl rfl rfl (v := V.int .i64 ((gt a0_2369 v15_2428).Weight)) (.load rfl rfl (.box rfl rfl) rfl) ?_
      refine SafeOps.quiet0 E_good rfl rfl rfl (v := V.bool (go_ravelref14_in ((gt a0_2369 v15_2428).Weight) 1 16)) (.callP rfl rfl (go_ravelref14_in_sc ((gt a0_2369 v15_2428).Weight) 1 16 _ rfl) rfl) ?_
      refine SafeOps.quiet0 E_good rfl rfl rfl (v := V.bool (!(go_ravelref14_in ((gt a0_2369 v15_2428).Weight) 1 16))) (.fn rfl) ?_
      refine SafeOps.quiet0 E_good rfl rfl rfl (v := V.bool (!(go_ravelref14_in ((gt a0_2369 v15_2428).Weight) 1 16))) (.fn rfl) ?_
      refine SafeOps.bjoin 5 28 (b := ((!(go_ravelref14_in ((gt a0_2369 v15_2428).Weight) 1 16)) || (!(go_ravelref14_in ((gt a0_2369 v15_2428).Quota) 0 256)))) (b1 := true) (b0 := (!(go_ravelref14_in ((gt a0_2369 v15_2428).Quota) 0 256))) (fun hc2432 K => ?_) (fun hc2432 K => ?_) bj_or ?_
      · skip
        refine SafeOps.skip (congrArg (fun b => some (!b)) hc2432) rfl rfl ?_
        refine SafeOps.skip (congrArg (fun b => some (!b)) hc2432) rfl rfl ?_
        refine SafeOps.skip (congrArg (fun b => some (!b)) hc2432) rfl rfl ?_
        refine SafeOps.skip (congrArg (fun b => some (!b)) hc2432) rfl rfl ?_
        refine SafeOps.quiet0 E_good rfl rfl rfl (v := V.bool true) (.pickK rfl hc2432 rfl) ?_
        exact SafeOps.drop' 5 rfl rfl rfl K
      · skip
        refine SafeOps.quiet0 E_good (congrArg (fun b => some (!b)) hc2432) rfl rfl (v := V.ptr [4] 0 1) (.fn rfl) ?_
        refine SafeOps.quiet0 E_good (congrArg (fun b => some (!b)) hc2432) rfl rfl (v := V.int .i64 ((gt a0_2369 v15_2428).Quota)) (.load rfl rfl (.box rfl rfl) rfl) ?_
        refine SafeOps.quiet0 E_good (congrArg (fun b => some (!b)) hc2432) rfl rfl (v := V.bool (go_ravelref14_in ((gt a0_2369 v15_2428).Quota) 0 256)) (.callP rfl rfl (go_ravelref14_in_sc ((gt a0_2369 v15_2428).Quota) 0 256 _ rfl) rfl) ?_
        refine SafeOps.quiet0 E_good (congrArg (fun b => some (!b)) hc2432) rfl rfl (v := V.bool (!(go_ravelref14_in ((gt a0_2369 v15_2428).Quota) 0 256))) (.fn rfl) ?_
        refine SafeOps.quiet0 E_good rfl rfl rfl (v := V.bool (!(go_ravelref14_in ((gt a0_2369 v15_2428).Quota) 0 256))) (.pickK rfl hc2432 rfl) ?_
        exact SafeOps.drop' 5 rfl rfl rfl K
      refine SafeOps.quiet0 E_good rfl rfl rfl (v := V.bool ((!(go_ravelref14_in ((gt a0_2369 v15_2428).Weight) 1 16)) || (!(go_ravelref14_in ((gt a0_2369 v15_2428).Quota) 0 256)))) (.fn rfl) ?_
      refine SafeOps.bjoin 4 33 (b := (((!(go_ravelref14_in ((gt a0_2369 v15_2428).Weight) 1 16)) || (!(go_ravelref14_in ((gt a0_2369 v15_2428).Quota) 0 256))) || (decide (((gt a0_2369 v15_2428).Live) < 0)))) (b1 := true) (b0 := decide (((gt a0_2369 v15_2428).Live) < 0)) (fun hc2433 K => ?_) (fun hc2433 K => ?_) bj_or ?_
      · skip
        refine SafeOps.skip (congrArg (fun b => some (!b)) hc2433) rfl rfl ?_
        refine SafeOps.skip (congrArg (fun b => some (!b)) hc2433) rfl rfl ?_
        refine SafeOps.skip (congrArg (fun b => some (!b)) hc2433) rfl rfl ?_
        refine SafeOps.quiet0 E_good rfl rfl rfl (v := V.bool true) (.pickK rfl hc2433 rfl) ?_
        exact SafeOps.drop' 4 rfl rfl rfl K
      · skip
        refine SafeOps.quiet0 E_good (congrArg (fun b => some (!b)) hc2433) rfl rfl (v := V.ptr [4] 0 2) (.fn rfl) ?_
        refine SafeOps.quiet0 E_good (congrArg (fun b => some (!b)) hc2433) rfl rfl (v := V.int .i64 ((gt a0_2369 v15_2428).Live)) (.load rfl rfl (.box rfl rfl) rfl) ?_
        refine SafeOps.quiet0 E_good (congrArg (fun b => some (!b)) hc2433) rfl rfl (v := V.bool (decide (((gt a0_2369 v15_2428).Live) < 0))) (.fn rfl) ?_
        refine SafeOps.quiet0 E_good rfl rfl rfl (v := V.bool (decide (((gt a0_2369 v15_2428).Live) < 0))) (.pickK rfl hc2433 rfl) ?_
        exact SafeOps.drop' 4 rfl rfl rfl K
      refine SafeOps.quiet0 E_good rfl rfl rfl (v := V.bool (((!(go_ravelref14_in ((gt a0_2369 v15_2428).Weight) 1 16)) || (!(go_ravelref14_in ((gt a0_2369 v15_2428).Quota) 0 256))) || (decide (((gt a0_2369 v15_2428).Live) < 0)))) (.fn rfl) ?_
      refine SafeOps.bjoin 6 40 (b := ((((!(go_ravelref14_in ((gt a0_2369 v15_2428).Weight) 1 16)) || (!(go_ravelref14_in ((gt a0_2369 v15_2428).Quota) 0 256))) || (decide (((gt a0_2369 v15_2428).Live) < 0))) || (decide (((gt a0_2369 v15_2428).Live) > ((gt a0_2369 v15_2428).Quota))))) (b1 := true) (b0 := decide (((gt a0_2369 v15_2428).Live) > ((gt a0_2369 v15_2428).Quota))) (fun hc2434 K => ?_) (fun hc2434 K => ?_) bj_or ?_
      · skip
        refine SafeOps.skip (congrArg (fun b => some (!b)) hc2434) rfl rfl ?_
        refine SafeOps.skip (congrArg (fun b => some (!b)) hc2434) rfl rfl ?_
        refine SafeOps.skip (congrArg (fun b => some (!b)) hc2434) rfl rfl ?_
        refine SafeOps.skip (congrArg (fun b => some (!b)) hc2434) rfl rfl ?_
        refine SafeOps.skip (congrArg (fun b => some (!b)) hc2434) rfl rfl ?_
        refine SafeOps.quiet0 E_good rfl rfl rfl (v := V.bool true) (.pickK rfl hc2434 rfl) ?_
        exact SafeOps.drop' 6 rfl rfl rfl K
      · skip
        refine SafeOps.quiet0 E_good (congrArg (fun b => some (!b)) hc2434) rfl rfl (v := V.ptr [4] 0 2) (.fn rfl) ?_
        refine SafeOps.quiet0 E_good (congrArg (fun b => some (!b)) hc2434) rfl rfl (v := V.int .i64 ((gt a0_2369 v15_2428).Live)) (.load rfl rfl (.box rfl rfl) rfl) ?_
        refine SafeOps.quiet0 E_good (congrArg (fun b => some (!b)) hc2434) rfl rfl (v := V.ptr [4] 0 1) (.fn rfl) ?_
        refine SafeOps.quiet0 E_good (congrArg (fun b => some (!b)) hc2434) rfl rfl (v := V.int .i64 ((gt a0_2369 v15_2428).Quota)) (.load rfl rfl (.box rfl rfl) rfl) ?_
        refine SafeOps.quiet0 E_good (congrArg (fun b => some (!b)) hc2434) rfl rfl (v := V.bool (decide (((gt a0_2369 v15_2428).Live) > ((gt a0_2369 v15_2428).Quota)))) (.fn rfl) ?_
        refine SafeOps.quiet0 E_good rfl rfl rfl (v := V.bool (decide (((gt a0_2369 v15_2428).Live) > ((gt a0_2369 v15_2428).Quota)))) (.pickK rfl hc2434 rfl) ?_
        exact SafeOps.drop' 6 rfl rfl rfl K
      refine SafeOps.quiet0 E_good rfl rfl rfl (v := V.bool ((((!(go_ravelref14_in ((gt a0_2369 v15_2428).Weight) 1 16)) || (!(go_ravelref14_in ((gt a0_2369 v15_2428).Quota) 0 256))) || (decide (((gt a0_2369 v15_2428).Live) < 0))) || (decide (((gt a0_2369 v15_2428).Live) > ((gt a0_2369 v15_2428).Quota))))) (.fn rfl) ?_
      refine SafeOps.bjoin 5 46 (b := (((((!(go_ravelref14_in ((gt a0_2369 v15_2428).Weight) 1 16)) || (!(go_ravelref14_in ((gt a0_2369 v15_2428).Quota) 0 256))) || (decide (((gt a0_2369 v15_2428).Live) < 0))) || (decide (((gt a0_2369 v15_2428).Live) > ((gt a0_2369 v15_2428).Quota)))) || (!(go_ravelref14_in ((gt a0_2369 v15_2428).Tag) 0 1152921504606846976)))) (b1 := true) (b0 := (!(go_ravelref14_in ((gt a0_2369 v15_2428).Tag) 0 1152921504606846976))) (fun hc2435 K => ?_) (fun hc2435 K => ?_) bj_or ?_
      · skip
        refine SafeOps.skip (congrArg (fun b => some (!b)) hc2435) rfl rfl ?_
        refine SafeOps.skip (congrArg (fun b => some (!b)) hc2435) rfl rfl ?_
        refine SafeOps.skip (congrArg (fun b => some (!b)) hc2435) rfl rfl ?_
        refine SafeOps.skip (congrArg (fun b => some (!b)) hc2435) rfl rfl ?_
        refine SafeOps.quiet0 E_good rfl rfl rfl (v := V.bool true) (.pickK rfl hc2435 rfl) ?_
        exact SafeOps.drop' 5 rfl rfl rfl K
      · skip
        refine SafeOps.quiet0 E_good (congrArg (fun b => some (!b)) hc2435) rfl rfl (v := V.ptr [4] 0 3) (.fn rfl) ?_
        refine SafeOps.quiet0 E_good (congrArg (fun b => some (!b)) hc2435) rfl rfl (v := V.int .i64 ((gt a0_2369 v15_2428).Tag)) (.load rfl rfl (.box rfl rfl) rfl) ?_
        refine SafeOps.quiet0 E_good (congrArg (fun b => some (!b)) hc2435) rfl rfl (v := V.bool (go_ravelref14_in ((gt a0_2369 v15_2428).Tag) 0 1152921504606846976)) (.callP rfl rfl (go_ravelref14_in_sc ((gt a0_2369 v15_2428).Tag) 0 1152921504606846976 _ rfl) rfl) ?_
        refine SafeOps.quiet0 E_good (congrArg (fun b => some (!b)) hc2435) rfl rfl (v := V.bool (!(go_ravelref14_in ((gt a0_2369 v15_2428).Tag) 0 1152921504606846976))) (.fn rfl) ?_
        refine SafeOps.quiet0 E_good rfl rfl rfl (v := V.bool (!(go_ravelref14_in ((gt a0_2369 v15_2428).Tag) 0 1152921504606846976))) (.pickK rfl hc2435 rfl) ?_
        exact SafeOps.drop' 5 rfl rfl rfl K
      refine SafeOps.quiet0 E_good rfl rfl rfl (v := V.bool (((((!(go_ravelref14_in ((gt a0_2369 v15_2428).Weight) 1 16)) || (!(go_ravelref14_in ((gt a0_2369 v15_2428).Quota) 0 256))) || (decide (((gt a0_2369 v15_2428).Live) < 0))) || (decide (((gt a0_2369 v15_2428).Live) > ((gt a0_2369 v15_2428).Quota)))) || (!(go_ravelref14_in ((gt a0_2369 v15_2428).Tag) 0 1152921504606846976)))) (.fn rfl) ?_
      refine SafeOps.bjoin 5 52 (b := ((((((!(go_ravelref14_in ((gt a0_2369 v15_2428).Weight) 1 16)) || (!(go_ravelref14_in ((gt a0_2369 v15_2428).Quota) 0 256))) || (decide (((gt a0_2369 v15_2428).Live) < 0))) || (decide (((gt a0_2369 v15_2428).Live) > ((gt a0_2369 v15_2428).Quota)))) || (!(go_ravelref14_in ((gt a0_2369 v15_2428).Tag) 0 1152921504606846976))) || (!(go_ravelref14_in ((gt a0_2369 v15_2428).Ran) 0 1099511627776)))) (b1 := true) (b0 := (!(go_ravelref14_in ((gt a0_2369 v15_2428).Ran) 0 1099511627776))) (fun hc2436 K => ?_) (fun hc2436 K => ?_) bj_or ?_
      · skip
        refine SafeOps.skip (congrArg (fun b => some (!b)) hc2436) rfl rfl ?_
        refine SafeOps.skip (congrArg (fun b => some (!b)) hc2436) rfl rfl ?_
        refine SafeOps.skip (congrArg (fun b => some (!b)) hc2436) rfl rfl ?_
        refine SafeOps.skip (congrArg (fun b => some (!b)) hc2436) rfl rfl ?_
        refine SafeOps.quiet0 E_good rfl rfl rfl (v := V.bool true) (.pickK rfl hc2436 rfl) ?_
        exact SafeOps.drop' 5 rfl rfl rfl K
      · skip
        refine SafeOps.quiet0 E_good (congrArg (fun b => some (!b)) hc2436) rfl rfl (v := V.ptr [4] 0 4) (.fn rfl) ?_
        refine SafeOps.quiet0 E_good (congrArg (fun b => some (!b)) hc2436) rfl rfl (v := V.int .i64 ((gt a0_2369 v15_2428).Ran)) (.load rfl rfl (.box rfl rfl) rfl) ?_
        refine SafeOps.quiet0 E_good (congrArg (fun b => some (!b)) hc2436) rfl rfl (v := V.bool (go_ravelref14_in ((gt a0_2369 v15_2428).Ran) 0 1099511627776)) (.callP rfl rfl (go_ravelref14_in_sc ((gt a0_2369 v15_2428).Ran) 0 1099511627776 _ rfl) rfl) ?_
        refine SafeOps.quiet0 E_good (congrArg (fun b => some (!b)) hc2436) rfl rfl (v := V.bool (!(go_ravelref14_in ((gt a0_2369 v15_2428).Ran) 0 1099511627776))) (.fn rfl) ?_
        refine SafeOps.quiet0 E_good rfl rfl rfl (v := V.bool (!(go_ravelref14_in ((gt a0_2369 v15_2428).Ran) 0 1099511627776))) (.pickK rfl hc2436 rfl) ?_
        exact SafeOps.drop' 5 rfl rfl rfl K
      refine SafeOps.nil ?_
      repeat (first | refine Safe.seq ?_ | refine Safe.skip ?_ | with_reducible refine thenQ.n ?_ | with_reducible refine blockQ.n ?_)
      refine ifG h (fun hc2437 h => ?_) (fun hc2437 h => ?_)
      · skip
        refine Safe.condK rfl hc2437 ?_
        repeat (first | refine Safe.seq ?_ | refine Safe.skip ?_ | with_reducible refine thenQ.n ?_ | with_reducible refine blockQ.n ?_)
        refine Safe.region ?_
        refine SafeOps.quiet0 E_good rfl rfl rfl (v := V.int .i64 1) (.fn rfl) ?_
        refine SafeOps.nil ?_
        repeat (first | refine Safe.seq ?_ | refine Safe.skip ?_ | with_reducible refine thenQ.n ?_ | with_reducible refine blockQ.n ?_)
        refine Safe.ret ?_
        repeat (first | with_reducible refine thenQ.r ?_ | with_reducible refine blockQ.r ?_)
        replace h := inr_out h hr2429
        obtain rfl := Option.some.inj h
        exact retQ.gen (vs := [V.int .i64 1]) rfl (.tmp (v := V.int .i64 1) rfl .nil) (.free rfl) (by simp) (.inr rfl)
      · skip
        refine Safe.condN rfl hc2437 ?_
        repeat (first | refine Safe.seq ?_ | refine Safe.skip ?_ | with_reducible refine thenQ.n ?_ | with_reducible refine blockQ.n ?_)
        refine Safe.region ?_
        refine SafeOps.quiet0 E_good rfl rfl rfl (v := V.int .i64 (IntKind.i64.wrap (v15_2428 + 1))) (.fn rfl) ?_
        refine SafeOps.quiet0 E_good rfl rfl rfl (v := V.int .i64 (IntKind.i64.wrap (v15_2428 + 1))) (.fn rfl) ?_
        refine SafeOps.nil ?_
        repeat (first | refine Safe.seq ?_ | refine Safe.skip ?_ | with_reducible refine thenQ.n ?_ | with_reducible refine blockQ.n ?_)
        exact ⟨_, next_out h, (.cov ⟨rfl, rfl, (upT_cons (.refl _) (upT_cons (.refl _) (upT_cons (.refl _) upT_nil))), upOb_nil, upOut_nil, rfl⟩)⟩
    · skip
      refine Safe.condN rfl hc2430 ?_
      repeat (first | refine Safe.seq ?_ | refine Safe.skip ?_ | with_reducible refine thenQ.n ?_ | with_reducible refine blockQ.n ?_)
      refine Safe.exit ?_
      repeat (first | with_reducible refine thenQ.e ?_ | with_reducible refine blockQ.x rfl ?_ | with_reducible refine blockQ.y rfl ?_)
      replace h := inr_out h hr2429
      repeat (first | refine Safe.seq ?_ | refine Safe.skip ?_ | with_reducible refine thenQ.n ?_ | with_reducible refine blockQ.n ?_)
      refine Safe.region ?_
      refine SafeOps.quiet0 E_good rfl rfl rfl (v := V.int .i64 0) (.fn rfl) ?_
      refine SafeOps.nil ?_
      repeat (first | refine Safe.seq ?_ | refine Safe.skip ?_ | with_reducible refine thenQ.n ?_ | with_reducible refine blockQ.n ?_)
      refine Safe.ret ?_
      repeat (first | with_reducible refine thenQ.r ?_ | with_reducible refine blockQ.r ?_)
      obtain rfl := Option.some.inj h
      exact retQ.gen (vs := [V.int .i64 0]) rfl (.tmp (v := V.int .i64 0) rfl .nil) (.free rfl) (by simp) (.inr rfl)

noncomputable def go_ravelref14_New_s2 (a0_2330 : List Int) (a1_2331 : List Int) : ((List api_Tenant) × Int) → Option (((List api_Tenant) × Int) ⊕ ((List api_Tenant) × Int))
  | (v6_2469, v16_2470) =>
    if (decide (v16_2470 < (a0_2330.length : Int))) = true then
      if 0 ≤ v16_2470 ∧ v16_2470 < (a0_2330.length : Int) then
        if 0 ≤ v16_2470 ∧ v16_2470 < (a1_2331.length : Int) then
          if few (v6_2469 ++ [(api_Tenant.mk (gt a0_2330 v16_2470) (gt a1_2331 v16_2470) 0 0 0)]).length then
            nextO (v6_2469 ++ [(api_Tenant.mk (gt a0_2330 v16_2470) (gt a1_2331 v16_2470) 0 0 0)], IntKind.i64.wrap (v16_2470 + 1))
          else none
        else none
      else none
    else
      inrO (
        (go_ravelref14_Check v6_2469).bind fun x_2476 =>
        if (x_2476 != 0) = true then
          some ([], 1)
        else
          some (v6_2469, 0))

noncomputable def go_ravelref14_New (a0_2330 : List Int) (a1_2331 : List Int) : Option ((List api_Tenant) × Int) :=
  if ((a0_2330.length : Int) != (a1_2331.length : Int)) = true then
    some ([], 1)
  else
    whileO (go_ravelref14_New_s2 a0_2330 a1_2331) ([], 0)

theorem go_ravelref14_New_sc (a0_2330 : List Int) (a1_2331 : List Int) (r : (List api_Tenant) × Int) (h : go_ravelref14_New a0_2330 a1_2331 = some r) : SC Try.prog gl 42 [V.sl 1 (rws (fun n => [V.int .i64 n]) a0_2330), V.sl 1 (rws (fun n => [V.int .i64 n]) a1_2331)] (V.tup [V.own 5 (rws api_Tenant.cells r.1), V.int .i64 r.2]) := by
  rw [go_ravelref14_New] at h
  refine SC.of E_good Try.func42 rfl (fun _ _ => Try.call42 _ _) rfl ?_
  repeat (first | refine Safe.seq ?_ | refine Safe.skip ?_ | with_reducible refine thenQ.n ?_ | with_reducible refine blockQ.n ?_)
  refine Safe.region ?_
  refine SafeOps.quiet0 E_good rfl rfl rfl (v := V.nils) (.fn rfl) ?_
  refine SafeOps.quiet0 E_good rfl rfl rfl (v := V.int .i64 0) (.fn rfl) ?_
  refine SafeOps.nil ?_
  repeat (first | refine Safe.seq ?_ | refine Safe.skip ?_ | with_reducible refine thenQ.n ?_ | with_reducible refine blockQ.n ?_)
  refine Safe.region ?_
  refine SafeOps.quiet0 E_good rfl rfl rfl (v := V.sl 1 (rws (fun n => [V.int .i64 n]) a0_2330)) (.fn rfl) ?_
  refine SafeOps.quiet0 E_good rfl rfl rfl (v := V.int .i64 (a0_2330.length : Int)) (.fnE rfl lenE) ?_
  refine SafeOps.quiet0 E_good rfl rfl rfl (v := V.sl 1 (rws (fun n => [V.int .i64 n]) a1_2331)) (.fn rfl) ?_
  refine SafeOps.quiet0 E_good rfl rfl rfl (v := V.int .i64 (a1_2331.length : Int)) (.fnE rfl lenE) ?_
  refine SafeOps.quiet0 E_good rfl rfl rfl (v := V.bool ((a0_2330.length : Int) != (a1_2331.length : Int))) (.fn rfl) ?_
  refine SafeOps.nil ?_
  repeat (first | refine Safe.seq ?_ | refine Safe.skip ?_ | with_reducible refine thenQ.n ?_ | with_reducible refine blockQ.n ?_)
  refine ifG h (fun hc2441 h => ?_) (fun hc2441 h => ?_)
  · skip
    refine Safe.condK rfl hc2441 ?_
    repeat (first | refine Safe.seq ?_ | refine Safe.skip ?_ | with_reducible refine thenQ.n ?_ | with_reducible refine blockQ.n ?_)
    refine Safe.region ?_
    refine SafeOps.quiet0 E_good rfl rfl rfl (v := V.nils) (.fn rfl) ?_
    refine SafeOps.quiet0 E_good rfl rfl rfl (v := V.int .i64 1) (.fn rfl) ?_
    refine SafeOps.nil ?_
    repeat (first | refine Safe.seq ?_ | refine Safe.skip ?_ | with_reducible refine thenQ.n ?_ | with_reducible refine blockQ.n ?_)
    refine Safe.ret ?_
    repeat (first | with_reducible refine thenQ.r ?_ | with_reducible refine blockQ.r ?_)
    obtain rfl := Option.some.inj h
    exact retQ.gen (vs := [V.nils, V.int .i64 1]) rfl (.tmp (v := V.nils) rfl (.tmp (v := V.int .i64 1) rfl .nil)) (by exact (.tup (.cons (.nils _) (.cons (.free rfl) .nil)))) (by simp) (.inr rfl)
  · skip
    refine Safe.condN rfl hc2441 ?_
    repeat (first | refine Safe.seq ?_ | refine Safe.skip ?_ | with_reducible refine thenQ.n ?_ | with_reducible refine blockQ.n ?_)
    refine Safe.region ?_
    refine SafeOps.quiet0 E_good rfl rfl rfl (v := V.nils) (.fn rfl) ?_
    refine SafeOps.nil ?_
    repeat (first | refine Safe.seq ?_ | refine Safe.skip ?_ | with_reducible refine thenQ.n ?_ | with_reducible refine blockQ.n ?_)
    refine Safe.region ?_
    refine SafeOps.quiet0 E_good rfl rfl rfl (v := V.sl 1 (rws (fun n => [V.int .i64 n]) a0_2330)) (.fn rfl) ?_
    refine SafeOps.quiet0 E_good rfl rfl rfl (v := V.int .i64 (a0_2330.length : Int)) (.fnE rfl lenE) ?_
    refine SafeOps.quiet0 E_good rfl rfl rfl (v := V.int .i64 0) (.fn rfl) ?_
    refine SafeOps.nil ?_
    repeat (first | refine Safe.seq ?_ | refine Safe.skip ?_ | with_reducible refine thenQ.n ?_ | with_reducible refine blockQ.n ?_)
    refine Safe.block ?_
    repeat (first | refine Safe.seq ?_ | refine Safe.skip ?_ | with_reducible refine thenQ.n ?_ | with_reducible refine blockQ.n ?_)
    refine Safe.loopW (fun ((v6_2469, v16_2470) : (List api_Tenant) × Int) => ⟨Try.f42.ntmps, [(1, V.sl 1 (rws (fun n => [V.int .i64 n]) a1_2331)), (6, V.ref [7000, 118, 6] 0 (rws api_Tenant.cells v6_2469).length), (14, V.sl 1 (rws (fun n => [V.int .i64 n]) a0_2330)), (15, V.int .i64 (a0_2330.length : Int)), (16, V.int .i64 v16_2470)], [([7000, 118, 6], Obj.rows 5 (rws api_Tenant.cells v6_2469) false)], [], []⟩) h (.empty [7000, 118, 6] 5 rfl (.cov ⟨rfl, rfl, (upT_cons (.refl _) (upT_cons (.nilref _) (upT_cons (.refl _) (upT_cons (.refl _) (upT_cons (.refl _) upT_nil))))), (upOb_cons rfl (.refl _) upOb_nil), upOut_nil, rfl⟩)) ?_
    rintro ⟨v6_2469, v16_2470⟩ ohr2471 h hr2471
    replace h : go_ravelref14_New_s2 a0_2330 a1_2331 (v6_2469, v16_2470) = some ohr2471 := h
    rw [go_ravelref14_New_s2] at h
    repeat (first | refine Safe.seq ?_ | refine Safe.skip ?_ | with_reducible refine thenQ.n ?_ | with_reducible refine blockQ.n ?_)
    refine Safe.region ?_
    refine SafeOps.quiet0 E_good rfl rfl rfl (v := V.bool (decide (v16_2470 < (a0_2330.length : Int)))) (.fn rfl) ?_
    refine SafeOps.nil ?_
    repeat (first | refine Safe.seq ?_ | refine Safe.skip ?_ | with_reducible refine thenQ.n ?_ | with_reducible refine blockQ.n ?_)
    refine ifG h (fun hc2472 h => ?_) (fun hc2472 h => ?_)
    · skip
      refine Safe.condK rfl hc2472 ?_
      repeat (first | refine Safe.seq ?_ | refine Safe.skip ?_ | with_reducible refine thenQ.n ?_ | with_reducible refine blockQ.n ?_)
      refine Safe.block ?_
      repeat (first | refine Safe.seq ?_ | refine Safe.skip ?_ | with_reducible refine thenQ.n ?_ | with_reducible refine blockQ.n ?_)
      refine Safe.region ?_
      refine SafeOps.quiet0 E_good rfl rfl rfl (v := V.int .i64 v16_2470) (.fn rfl) ?_
      refine okG h (fun hb2473 h => ?_)
      refine SafeOps.quiet0 E_good rfl rfl rfl (v := V.spt 1 (rws (fun n => [V.int .i64 n]) a0_2330) (Int.toNat v16_2470) 0) (.idxSlM (f := (fun n => [V.int .i64 n])) rfl rfl rfl rfl rfl hb2473) ?_
      refine SafeOps.quiet0 E_good rfl rfl rfl (v := V.int .i64 (gt a0_2330 v16_2470)) (.load rfl rfl (.sptM (f := (fun n => [V.int .i64 n])) hb2473 rfl) rfl) ?_
      refine SafeOps.quiet0 E_good rfl rfl rfl (v := V.int .i64 v16_2470) (.fn rfl) ?_
      refine SafeOps.quiet0 E_good rfl rfl rfl (v := V.int .i64 (gt a0_2330 v16_2470)) (.fn rfl) ?_
      refine SafeOps.nil ?_
      repeat (first | refine Safe.seq ?_ | refine Safe.skip ?_ | with_reducible refine thenQ.n ?_ | with_reducible refine blockQ.n ?_)
      refine Safe.region ?_
      refine SafeOps.quiet0 E_good rfl rfl rfl (v := V.ref [7000, 118, 6] 0 (rws api_Tenant.cells v6_2469).length) (.fn rfl) ?_
      refine SafeOps.quiet0 E_good rfl rfl rfl (v := V.int .i64 (gt a0_2330 v16_2470)) (.fn rfl) ?_
      refine SafeOps.quiet0 E_good rfl rfl rfl (v := V.sl 1 (rws (fun n => [V.int .i64 n]) a1_2331)) (.fn rfl) ?_
      refine SafeOps.quiet0 E_good rfl rfl rfl (v := V.int .i64 v16_2470) (.fn rfl) ?_
      refine okG h (fun hb2474 h => ?_)
      refine SafeOps.quiet0 E_good rfl rfl rfl (v := V.spt 1 (rws (fun n => [V.int .i64 n]) a1_2331) (Int.toNat v16_2470) 0) (.idxSlM (f := (fun n => [V.int .i64 n])) rfl rfl rfl rfl rfl hb2474) ?_
      refine SafeOps.quiet0 E_good rfl rfl rfl (v := V.int .i64 (gt a1_2331 v16_2470)) (.load rfl rfl (.sptM (f := (fun n => [V.int .i64 n])) hb2474 rfl) rfl) ?_
      refine SafeOps.quiet0 E_good rfl rfl rfl (v := V.agg [V.int .i64 (gt a0_2330 v16_2470), V.int .i64 (gt a1_2331 v16_2470), V.int .i64 0, V.int .i64 0, V.int .i64 0]) (.fn rfl) ?_
      refine SafeOps.quiet1 E_good rfl rfl rfl (.litM (f := api_Tenant.cells) (xs := [(api_Tenant.mk (gt a0_2330 v16_2470) (gt a1_2331 v16_2470) 0 0 0)]) rfl rfl (by decide) rfl rfl rfl rfl rfl) rfl ?_
      refine okG h (fun hb2475 h => ?_)
      refine SafeOps.appendM api_Tenant.cells (xs := v6_2469) (ys := [(api_Tenant.mk (gt a0_2330 v16_2470) (gt a1_2331 v16_2470) 0 0 0)]) E_good rfl rfl rfl rfl rfl rfl rfl rfl rfl (.own rfl) (.own rfl) (fun _ => rfl) hb2475 ?_
      refine SafeOps.quiet0 E_good rfl rfl rfl (v := V.ref [29] 0 (rws api_Tenant.cells (v6_2469 ++ [(api_Tenant.mk (gt a0_2330 v16_2470) (gt a1_2331 v16_2470) 0 0 0)])).length) (.fn rfl) ?_
      refine SafeOps.nil ?_
      repeat (first | refine Safe.seq ?_ | refine Safe.skip ?_ | with_reducible refine thenQ.n ?_ | with_reducible refine blockQ.n ?_)
      refine Safe.region ?_
      refine SafeOps.quiet0 E_good rfl rfl rfl (v := V.int .i64 (IntKind.i64.wrap (v16_2470 + 1))) (.fn rfl) ?_
      refine SafeOps.quiet0 E_good rfl rfl rfl (v := V.int .i64 (IntKind.i64.wrap (v16_2470 + 1))) (.fn rfl) ?_
      refine SafeOps.nil ?_
      repeat (first | refine Safe.seq ?_ | refine Safe.skip ?_ | with_reducible refine thenQ.n ?_ | with_reducible refine blockQ.n ?_)
      exact ⟨_, next_out h, (.ren [29] [7000, 118, 6] (.cov ⟨rfl, rfl, (upT_cons (.refl _) (upT_cons (.refl _) (upT_cons (.refl _) (upT_cons (.refl _) (upT_cons (.refl _) upT_nil))))), (upOb_cons rfl (.refl _) upOb_nil), upOut_nil, rfl⟩))⟩
    · skip
      refine Safe.condN rfl hc2472 ?_
      repeat (first | refine Safe.seq ?_ | refine Safe.skip ?_ | with_reducible refine thenQ.n ?_ | with_reducible refine blockQ.n ?_)
      refine Safe.exit ?_
      repeat (first | with_reducible refine thenQ.e ?_ | with_reducible refine blockQ.x rfl ?_ | with_reducible refine blockQ.y rfl ?_)
      replace h := inr_out h hr2471
      repeat (first | refine Safe.seq ?_ | refine Safe.skip ?_ | with_reducible refine thenQ.n ?_ | with_reducible refine blockQ.n ?_)
      refine Safe.region ?_
      refine SafeOps.quiet0 E_good rfl rfl rfl (v := V.ref [7000, 118, 6] 0 (rws api_Tenant.cells v6_2469).length) (.fn rfl) ?_
      refine bindG h ?_
      intro x_2476 he2477 h
      refine SafeOps.quiet0 E_good rfl rfl rfl (v := V.int .i64 x_2476) (.callS rfl (.cons (.full rfl rfl) .nil) (go_ravelref14_Check_sc v6_2469 _ he2477) (.plain rfl) rfl) ?_
      refine SafeOps.quiet0 E_good rfl rfl rfl (v := V.bool (x_2476 != 0)) (.fn rfl) ?_
      refine SafeOps.nil ?_
      repeat (first | refine Safe.seq ?_ | refine Safe.skip ?_ | with_reducible refine thenQ.n ?_ | with_reducible refine blockQ.n ?_)
      refine ifG h (fun hc2478 h => ?_) (fun hc2478 h => ?_)
      · skip
        refine Safe.condK rfl hc2478 ?_
        repeat (first | refine Safe.seq ?_ | refine Safe.skip ?_ | with_reducible refine thenQ.n ?_ | with_reducible refine blockQ.n ?_)
        refine Safe.region ?_
        refine SafeOps.quiet0 E_good rfl rfl rfl (v := V.nils) (.fn rfl) ?_
        refine SafeOps.quiet0 E_good rfl rfl rfl (v := V.int .i64 1) (.fn rfl) ?_
        refine SafeOps.nil ?_
        repeat (first | refine Safe.seq ?_ | refine Safe.skip ?_ | with_reducible refine thenQ.n ?_ | with_reducible refine blockQ.n ?_)
        refine Safe.ret ?_
        repeat (first | with_reducible refine thenQ.r ?_ | with_reducible refine blockQ.r ?_)
        obtain rfl := Option.some.inj h
        exact retQ.gen (vs := [V.nils, V.int .i64 1]) rfl (.tmp (v := V.nils) rfl (.tmp (v := V.int .i64 1) rfl .nil)) (by exact (.tup (.cons (.nils _) (.cons (.free rfl) .nil)))) (by simp) (.inr rfl)
      · skip
        refine Safe.condN rfl hc2478 ?_
        repeat (first | refine Safe.seq ?_ | refine Safe.skip ?_ | with_reducible refine thenQ.n ?_ | with_reducible refine blockQ.n ?_)
        refine Safe.region ?_
        refine SafeOps.quiet0 E_good rfl rfl rfl (v := V.ref [7000, 118, 6] 0 (rws api_Tenant.cells v6_2469).length) (.fn rfl) ?_
        refine SafeOps.quiet0 E_good rfl rfl rfl (v := V.ref [7000, 118, 6] 0 (rws api_Tenant.cells v6_2469).length) (.fn rfl) ?_
        refine SafeOps.quiet0 E_good rfl rfl rfl (v := V.int .i64 0) (.fn rfl) ?_
        refine SafeOps.nil ?_
        repeat (first | refine Safe.seq ?_ | refine Safe.skip ?_ | with_reducible refine thenQ.n ?_ | with_reducible refine blockQ.n ?_)
        refine Safe.ret ?_
        repeat (first | with_reducible refine thenQ.r ?_ | with_reducible refine blockQ.r ?_)
        obtain rfl := Option.some.inj h
        exact retQ.gen (vs := [V.ref [7000, 118, 6] 0 (rws api_Tenant.cells v6_2469).length, V.int .i64 0]) rfl (.tmp (v := V.ref [7000, 118, 6] 0 (rws api_Tenant.cells v6_2469).length) rfl (.tmp (v := V.int .i64 0) rfl .nil)) (by exact (.tup (.cons (.own rfl rfl) (.cons (.free rfl) .nil)))) (by simp) (.inr rfl)

def go_ravelref04_in (a0_2693 : Int) (a1_2694 : Int) (a2_2695 : Int) : Bool :=
  ((decide (a0_2693 ≥ a1_2694)) && (decide (a0_2693 ≤ a2_2695)))

theorem go_ravelref04_in_sc (a0_2693 : Int) (a1_2694 : Int) (a2_2695 : Int) (r : Bool) (h : go_ravelref04_in a0_2693 a1_2694 a2_2695 = r) : SC Try.prog gl 71 [V.int .i64 a0_2693, V.int .i64 a1_2694, V.int .i64 a2_2695] (V.bool r) := by
  rw [go_ravelref04_in] at h
  refine SC.of E_good Try.func71 rfl (fun _ _ => Try.call71 _ _) rfl ?_
  repeat (first | refine Safe.seq ?_ | refine Safe.skip ?_ | with_reducible refine thenQ.n ?_ | with_reducible refine blockQ.n ?_)
  refine Safe.region ?_
  refine SafeOps.quiet0 E_good rfl rfl rfl (v := V.bool false) (.fn rfl) ?_
  refine SafeOps.nil ?_
  repeat (first | refine Safe.seq ?_ | refine Safe.skip ?_ | with_reducible refine thenQ.n ?_ | with_reducible refine blockQ.n ?_)
  refine Safe.region ?_
  refine SafeOps.quiet0 E_good rfl rfl rfl (v := V.int .i64 a0_2693) (.fn rfl) ?_
  refine SafeOps.quiet0 E_good rfl rfl rfl (v := V.int .i64 a1_2694) (.fn rfl) ?_
  refine SafeOps.quiet0 E_good rfl rfl rfl (v := V.bool (decide (a0_2693 ≥ a1_2694))) (.fn rfl) ?_
  refine SafeOps.quiet0 E_good rfl rfl rfl (v := V.bool (decide (a0_2693 ≥ a1_2694))) (.fn rfl) ?_
  refine SafeOps.bjoin 4 14 (b := ((decide (a0_2693 ≥ a1_2694)) && (decide (a0_2693 ≤ a2_2695)))) (b1 := decide (a0_2693 ≤ a2_2695)) (b0 := false) (fun hc2697 K => ?_) (fun hc2697 K => ?_) bj_and ?_
  · skip
    refine SafeOps.quiet0 E_good (congrArg some hc2697) rfl rfl (v := V.int .i64 a0_2693) (.fn rfl) ?_
    refine SafeOps.quiet0 E_good (congrArg some hc2697) rfl rfl (v := V.int .i64 a2_2695) (.fn rfl) ?_
    refine SafeOps.quiet0 E_good (congrArg some hc2697) rfl rfl (v := V.bool (decide (a0_2693 ≤ a2_2695))) (.fn rfl) ?_
    refine SafeOps.quiet0 E_good rfl rfl rfl (v := V.bool (decide (a0_2693 ≤ a2_2695))) (.pickK rfl hc2697 rfl) ?_
    exact SafeOps.drop' 4 rfl rfl rfl K
  · skip
    refine SafeOps.skip (congrArg some hc2697) rfl rfl ?_
    refine SafeOps.skip (congrArg some hc2697) rfl rfl ?_
    refine SafeOps.skip (congrArg some hc2697) rfl rfl ?_
    refine SafeOps.quiet0 E_good rfl rfl rfl (v := V.bool false) (.pickK rfl hc2697 rfl) ?_
    exact SafeOps.drop' 4 rfl rfl rfl K
  refine SafeOps.quiet0 E_good rfl rfl rfl (v := V.bool ((decide (a0_2693 ≥ a1_2694)) && (decide (a0_2693 ≤ a2_2695)))) (.fn rfl) ?_
  refine SafeOps.nil ?_
  repeat (first | refine Safe.seq ?_ | refine Safe.skip ?_ | with_reducible refine thenQ.n ?_ | with_reducible refine blockQ.n ?_)
  refine Safe.ret ?_
  repeat (first | with_reducible refine thenQ.r ?_ | with_reducible refine blockQ.r ?_)
  obtain rfl := h
  exact retQ.gen (vs := [V.bool ((decide (a0_2693 ≥ a1_2694)) && (decide (a0_2693 ≤ a2_2695)))]) rfl (.tmp (v := V.bool ((decide (a0_2693 ≥ a1_2694)) && (decide (a0_2693 ≤ a2_2695)))) rfl .nil) (.free rfl) (by simp) (.inr rfl)

def go_ravelref04_may (a0_2692 : api_Instr) : Bool :=
  if (a0_2692.Op == 1) = true then
    ((go_ravelref04_in a0_2692.A 1 100) && (a0_2692.B == 0))
  else
    if (a0_2692.Op == 2) = true then
      ((go_ravelref04_in a0_2692.A 0 15) && (go_ravelref04_in a0_2692.B 0 3))
    else
      if ((a0_2692.Op == 3) || (a0_2692.Op == 9)) = true then
        ((a0_2692.A == 0) && (a0_2692.B == 0))
      else
        if (a0_2692.Op == 4) = true then
          ((go_ravelref04_in a0_2692.A 1 1000) && (a0_2692.B == 0))
        else
          if (a0_2692.Op == 5) = true then
            ((go_ravelref04_in a0_2692.A 0 15) && (a0_2692.B == 0))
          else
            if (a0_2692.Op == 6) = true then
              ((go_ravelref04_in a0_2692.A 0 3) && (a0_2692.B == 0))
            else
              ((((a0_2692.Op == 7) || (a0_2692.Op == 8)) && (go_ravelref04_in a0_2692.A 0 7)) && (a0_2692.B == 0))

theorem go_ravelref04_may_sc (a0_2692 : api_Instr) (r : Bool) (h : go_ravelref04_may a0_2692 = r) : SC Try.prog gl 66 [V.agg [V.int .i64 a0_2692.Op, V.int .i64 a0_2692.A, V.int .i64 a0_2692.B]] (V.bool r) := by
  rw [go_ravelref04_may] at h
  refine SC.of E_good Try.func66 rfl (fun _ _ => Try.call66 _ _) rfl ?_
  repeat (first | refine Safe.seq ?_ | refine Safe.skip ?_ | with_reducible refine thenQ.n ?_ | with_reducible refine blockQ.n ?_)
  refine Safe.region ?_
  refine SafeOps.quiet1 E_good rfl rfl rfl (.box rfl rfl) rfl ?_
  refine SafeOps.quiet0 E_good rfl rfl rfl (v := V.bool false) (.fn rfl) ?_
  refine SafeOps.nil ?_
  repeat (first | refine Safe.seq ?_ | refine Safe.skip ?_ | with_reducible refine thenQ.n ?_ | with_reducible refine blockQ.n ?_)
  refine Safe.region ?_
  refine SafeOps.quiet0 E_good rfl rfl rfl (v := V.ptr [1] 0 0) (.fn rfl) ?_
  refine SafeOps.quiet0 E_good rfl rfl rfl (v := V.int .i64 a0_2692.Op) (.load rfl rfl (.box rfl rfl) rfl) ?_
  refine SafeOps.quiet0 E_good rfl rfl rfl (v := V.bool (a0_2692.Op == 1)) (.fn rfl) ?_
  refine SafeOps.nil ?_
  repeat (first | refine Safe.seq ?_ | refine Safe.skip ?_ | with_reducible refine thenQ.n ?_ | with_reducible refine blockQ.n ?_)
  refine ifG h (fun hc2721 h => ?_) (fun hc2721 h => ?_)
  · skip
    refine Safe.condK rfl hc2721 ?_
    repeat (first | refine Safe.seq ?_ | refine Safe.skip ?_ | with_reducible refine thenQ.n ?_ | with_reducible refine blockQ.n ?_)
    refine Safe.region ?_
    refine SafeOps.quiet0 E_good rfl rfl rfl (v := V.ptr [1] 0 1) (.fn rfl) ?_
    refine SafeOps.quiet0 E_good rfl rfl rfl (v := V.int .i64 a0_2692.A) (.load rfl rfl (.box rfl rfl) rfl) ?_
    refine SafeOps.quiet0 E_good rfl rfl rfl (v := V.bool (go_ravelref04_in a0_2692.A 1 100)) (.callP rfl rfl (go_ravelref04_in_sc a0_2692.A 1 100 _ rfl) rfl) ?_
    refine SafeOps.quiet0 E_good rfl rfl rfl (v := V.bool (go_ravelref04_in a0_2692.A 1 100)) (.fn rfl) ?_
    refine SafeOps.bjoin 4 13 (b := ((go_ravelref04_in a0_2692.A 1 100) && (a0_2692.B == 0))) (b1 := (a0_2692.B == 0)) (b0 := false) (fun hc2722 K => ?_) (fun hc2722 K => ?_) bj_and ?_
    · skip
      refine SafeOps.quiet0 E_good (congrArg some hc2722) rfl rfl (v := V.ptr [1] 0 2) (.fn rfl) ?_
      refine SafeOps.quiet0 E_good (congrArg some hc2722) rfl rfl (v := V.int .i64 a0_2692.B) (.load rfl rfl (.box rfl rfl) rfl) ?_
      refine SafeOps.quiet0 E_good (congrArg some hc2722) rfl rfl (v := V.bool (a0_2692.B == 0)) (.fn rfl) ?_
      refine SafeOps.quiet0 E_good rfl rfl rfl (v := V.bool (a0_2692.B == 0)) (.pickK rfl hc2722 rfl) ?_
      exact SafeOps.drop' 4 rfl rfl rfl K
    · skip
      refine SafeOps.skip (congrArg some hc2722) rfl rfl ?_
      refine SafeOps.skip (congrArg some hc2722) rfl rfl ?_
      refine SafeOps.skip (congrArg some hc2722) rfl rfl ?_
      refine SafeOps.quiet0 E_good rfl rfl rfl (v := V.bool false) (.pickK rfl hc2722 rfl) ?_
      exact SafeOps.drop' 4 rfl rfl rfl K
    refine SafeOps.quiet0 E_good rfl rfl rfl (v := V.bool ((go_ravelref04_in a0_2692.A 1 100) && (a0_2692.B == 0))) (.fn rfl) ?_
    refine SafeOps.nil ?_
    repeat (first | refine Safe.seq ?_ | refine Safe.skip ?_ | with_reducible refine thenQ.n ?_ | with_reducible refine blockQ.n ?_)
    refine Safe.ret ?_
    repeat (first | with_reducible refine thenQ.r ?_ | with_reducible refine blockQ.r ?_)
    obtain rfl := h
    exact retQ.gen (vs := [V.bool ((go_ravelref04_in a0_2692.A 1 100) && (a0_2692.B == 0))]) rfl (.tmp (v := V.bool ((go_ravelref04_in a0_2692.A 1 100) && (a0_2692.B == 0))) rfl .nil) (.free rfl) (by simp) (.inr rfl)
  · skip
    refine Safe.condN rfl hc2721 ?_
    repeat (first | refine Safe.seq ?_ | refine Safe.skip ?_ | with_reducible refine thenQ.n ?_ | with_reducible refine blockQ.n ?_)
    refine Safe.region ?_
    refine SafeOps.quiet0 E_good rfl rfl rfl (v := V.ptr [1] 0 0) (.fn rfl) ?_
    refine SafeOps.quiet0 E_good rfl rfl rfl (v := V.int .i64 a0_2692.Op) (.load rfl rfl (.box rfl rfl) rfl) ?_
    refine SafeOps.quiet0 E_good rfl rfl rfl (v := V.bool (a0_2692.Op == 2)) (.fn rfl) ?_
    refine SafeOps.nil ?_
    repeat (first | refine Safe.seq ?_ | refine Safe.skip ?_ | with_reducible refine thenQ.n ?_ | with_reducible refine blockQ.n ?_)
    refine ifG h (fun hc2724 h => ?_) (fun hc2724 h => ?_)
    · skip
      refine Safe.condK rfl hc2724 ?_
      repeat (first | refine Safe.seq ?_ | refine Safe.skip ?_ | with_reducible refine thenQ.n ?_ | with_reducible refine blockQ.n ?_)
      refine Safe.region ?_
      refine SafeOps.quiet0 E_good rfl rfl rfl (v := V.ptr [1] 0 1) (.fn rfl) ?_
      refine SafeOps.quiet0 E_good rfl rfl rfl (v := V.int .i64 a0_2692.A) (.load rfl rfl (.box rfl rfl) rfl) ?_
      refine SafeOps.quiet0 E_good rfl rfl rfl (v := V.bool (go_ravelref04_in a0_2692.A 0 15)) (.callP rfl rfl (go_ravelref04_in_sc a0_2692.A 0 15 _ rfl) rfl) ?_
      refine SafeOps.quiet0 E_good rfl rfl rfl (v := V.bool (go_ravelref04_in a0_2692.A 0 15)) (.fn rfl) ?_
      refine SafeOps.bjoin 4 24 (b := ((go_ravelref04_in a0_2692.A 0 15) && (go_ravelref04_in a0_2692.B 0 3))) (b1 := go_ravelref04_in a0_2692.B 0 3) (b0 := false) (fun hc2725 K => ?_) (fun hc2725 K => ?_) bj_and ?_
      · skip
        refine SafeOps.quiet0 E_good (congrArg some hc2725) rfl rfl (v := V.ptr [1] 0 2) (.fn rfl) ?_
        refine SafeOps.quiet0 E_good (congrArg some hc2725) rfl rfl (v := V.int .i64 a0_2692.B) (.load rfl rfl (.box rfl rfl) rfl) ?_
        refine SafeOps.quiet0 E_good (congrArg some hc2725) rfl rfl (v := V.bool (go_ravelref04_in a0_2692.B 0 3)) (.callP rfl rfl (go_ravelref04_in_sc a0_2692.B 0 3 _ rfl) rfl) ?_
        refine SafeOps.quiet0 E_good rfl rfl rfl (v := V.bool (go_ravelref04_in a0_2692.B 0 3)) (.pickK rfl hc2725 rfl) ?_
        exact SafeOps.drop' 4 rfl rfl rfl K
      · skip
        refine SafeOps.skip (congrArg some hc2725) rfl rfl ?_
        refine SafeOps.skip (congrArg some hc2725) rfl rfl ?_
        refine SafeOps.skip (congrArg some hc2725) rfl rfl ?_
        refine SafeOps.quiet0 E_good rfl rfl rfl (v := V.bool false) (.pickK rfl hc2725 rfl) ?_
        exact SafeOps.drop' 4 rfl rfl rfl K
      refine SafeOps.quiet0 E_good rfl rfl rfl (v := V.bool ((go_ravelref04_in a0_2692.A 0 15) && (go_ravelref04_in a0_2692.B 0 3))) (.fn rfl) ?_
      refine SafeOps.nil ?_
      repeat (first | refine Safe.seq ?_ | refine Safe.skip ?_ | with_reducible refine thenQ.n ?_ | with_reducible refine blockQ.n ?_)
      refine Safe.ret ?_
      repeat (first | with_reducible refine thenQ.r ?_ | with_reducible refine blockQ.r ?_)
      obtain rfl := h
      exact retQ.gen (vs := [V.bool ((go_ravelref04_in a0_2692.A 0 15) && (go_ravelref04_in a0_2692.B 0 3))]) rfl (.tmp (v := V.bool ((go_ravelref04_in a0_2692.A 0 15) && (go_ravelref04_in a0_2692.B 0 3))) rfl .nil) (.free rfl) (by simp) (.inr rfl)
    · skip
      refine Safe.condN rfl hc2724 ?_
      repeat (first | refine Safe.seq ?_ | refine Safe.skip ?_ | with_reducible refine thenQ.n ?_ | with_reducible refine blockQ.n ?_)
      refine Safe.region ?_
      refine SafeOps.quiet0 E_good rfl rfl rfl (v := V.ptr [1] 0 0) (.fn rfl) ?_
      refine SafeOps.quiet0 E_good rfl rfl rfl (v := V.int .i64 a0_2692.Op) (.load rfl rfl (.box rfl rfl) rfl) ?_
      refine SafeOps.quiet0 E_good rfl rfl rfl (v := V.bool (a0_2692.Op == 3)) (.fn rfl) ?_
      refine SafeOps.quiet0 E_good rfl rfl rfl (v := V.bool (a0_2692.Op == 3)) (.fn rfl) ?_
      refine SafeOps.bjoin 4 32 (b := ((a0_2692.Op == 3) || (a0_2692.Op == 9))) (b1 := true) (b0 := (a0_2692.Op == 9)) (fun hc2726 K => ?_) (fun hc2726 K => ?_) bj_or ?_
      · skip
        refine SafeOps.skip (congrArg (fun b => some (!b)) hc2726) rfl rfl ?_
        refine SafeOps.skip (congrArg (fun b => some (!b)) hc2726) rfl rfl ?_
        refine SafeOps.skip (congrArg (fun b => some (!b)) hc2726) rfl rfl ?_
        refine SafeOps.quiet0 E_good rfl rfl rfl (v := V.bool true) (.pickK rfl hc2726 rfl) ?_
        exact SafeOps.drop' 4 rfl rfl rfl K
      · skip
        refine SafeOps.quiet0 E_good (congrArg (fun b => some (!b)) hc2726) rfl rfl (v := V.ptr [1] 0 0) (.fn rfl) ?_
        refine SafeOps.quiet0 E_good (congrArg (fun b => some (!b)) hc2726) rfl rfl (v := V.int .i64 a0_2692.Op) (.load rfl rfl (.box rfl rfl) rfl) ?_
        refine SafeOps.quiet0 E_good (congrArg (fun b => some (!b)) hc2726) rfl rfl (v := V.bool (a0_2692.Op == 9)) (.fn rfl) ?_
        refine SafeOps.quiet0 E_good rfl rfl rfl (v := V.bool (a0_2692.Op == 9)) (.pickK rfl hc2726 rfl) ?_
        exact SafeOps.drop' 4 rfl rfl rfl K
      refine SafeOps.nil ?_
      repeat (first | refine Safe.seq ?_ | refine Safe.skip ?_ | with_reducible refine thenQ.n ?_ | with_reducible refine blockQ.n ?_)
      refine ifG h (fun hc2728 h => ?_) (fun hc2728 h => ?_)
      · skip
        refine Safe.condK rfl hc2728 ?_
        repeat (first | refine Safe.seq ?_ | refine Safe.skip ?_ | with_reducible refine thenQ.n ?_ | with_reducible refine blockQ.n ?_)
        refine Safe.region ?_
        refine SafeOps.quiet0 E_good rfl rfl rfl (v := V.ptr [1] 0 1) (.fn rfl) ?_
        refine SafeOps.quiet0 E_good rfl rfl rfl (v := V.int .i64 a0_2692.A) (.load rfl rfl (.box rfl rfl) rfl) ?_
        refine SafeOps.quiet0 E_good rfl rfl rfl (v := V.bool (a0_2692.A == 0)) (.fn rfl) ?_
        refine SafeOps.quiet0 E_good rfl rfl rfl (v := V.bool (a0_2692.A == 0)) (.fn rfl) ?_
        refine SafeOps.bjoin 4 40 (b := ((a0_2692.A == 0) && (a0_2692.B == 0))) (b1 := (a0_2692.B == 0)) (b0 := false) (fun hc2729 K => ?_) (fun hc2729 K => ?_) bj_and ?_
        · skip
          refine SafeOps.quiet0 E_good (congrArg some hc2729) rfl rfl (v := V.ptr [1] 0 2) (.fn rfl) ?_
          refine SafeOps.quiet0 E_good (congrArg some hc2729) rfl rfl (v := V.int .i64 a0_2692.B) (.load rfl rfl (.box rfl rfl) rfl) ?_
          refine SafeOps.quiet0 E_good (congrArg some hc2729) rfl rfl (v := V.bool (a0_2692.B == 0)) (.fn rfl) ?_
          refine SafeOps.quiet0 E_good rfl rfl rfl (v := V.bool (a0_2692.B == 0)) (.pickK rfl hc2729 rfl) ?_
          exact SafeOps.drop' 4 rfl rfl rfl K
        · skip
          refine SafeOps.skip (congrArg some hc2729) rfl rfl ?_
          refine SafeOps.skip (congrArg some hc2729) rfl rfl ?_
          refine SafeOps.skip (congrArg some hc2729) rfl rfl ?_
          refine SafeOps.quiet0 E_good rfl rfl rfl (v := V.bool false) (.pickK rfl hc2729 rfl) ?_
          exact SafeOps.drop' 4 rfl rfl rfl K
        refine SafeOps.quiet0 E_good rfl rfl rfl (v := V.bool ((a0_2692.A == 0) && (a0_2692.B == 0))) (.fn rfl) ?_
        refine SafeOps.nil ?_
        repeat (first | refine Safe.seq ?_ | refine Safe.skip ?_ | with_reducible refine thenQ.n ?_ | with_reducible refine blockQ.n ?_)
        refine Safe.ret ?_
        repeat (first | with_reducible refine thenQ.r ?_ | with_reducible refine blockQ.r ?_)
        obtain rfl := h
        exact retQ.gen (vs := [V.bool ((a0_2692.A == 0) && (a0_2692.B == 0))]) rfl (.tmp (v := V.bool ((a0_2692.A == 0) && (a0_2692.B == 0))) rfl .nil) (.free rfl) (by simp) (.inr rfl)
      · skip
        refine Safe.condN rfl hc2728 ?_
        repeat (first | refine Safe.seq ?_ | refine Safe.skip ?_ | with_reducible refine thenQ.n ?_ | with_reducible refine blockQ.n ?_)
        refine Safe.region ?_
        refine SafeOps.quiet0 E_good rfl rfl rfl (v := V.ptr [1] 0 0) (.fn rfl) ?_
        refine SafeOps.quiet0 E_good rfl rfl rfl (v := V.int .i64 a0_2692.Op) (.load rfl rfl (.box rfl rfl) rfl) ?_
        refine SafeOps.quiet0 E_good rfl rfl rfl (v := V.bool (a0_2692.Op == 4)) (.fn rfl) ?_
        refine SafeOps.nil ?_
        repeat (first | refine Safe.seq ?_ | refine Safe.skip ?_ | with_reducible refine thenQ.n ?_ | with_reducible refine blockQ.n ?_)
        refine ifG h (fun hc2731 h => ?_) (fun hc2731 h => ?_)
        · skip
          refine Safe.condK rfl hc2731 ?_
          repeat (first | refine Safe.seq ?_ | refine Safe.skip ?_ | with_reducible refine thenQ.n ?_ | with_reducible refine blockQ.n ?_)
          refine Safe.region ?_
          refine SafeOps.quiet0 E_good rfl rfl rfl (v := V.ptr [1] 0 1) (.fn rfl) ?_
          refine SafeOps.quiet0 E_good rfl rfl rfl (v := V.int .i64 a0_2692.A) (.load rfl rfl (.box rfl rfl) rfl) ?_
          refine SafeOps.quiet0 E_good rfl rfl rfl (v := V.bool (go_ravelref04_in a0_2692.A 1 1000)) (.callP rfl rfl (go_ravelref04_in_sc a0_2692.A 1 1000 _ rfl) rfl) ?_
          refine SafeOps.quiet0 E_good rfl rfl rfl (v := V.bool (go_ravelref04_in a0_2692.A 1 1000)) (.fn rfl) ?_
          refine SafeOps.bjoin 4 51 (b := ((go_ravelref04_in a0_2692.A 1 1000) && (a0_2692.B == 0))) (b1 := (a0_2692.B == 0)) (b0 := false) (fun hc2732 K => ?_) (fun hc2732 K => ?_) bj_and ?_
          · skip
            refine SafeOps.quiet0 E_good (congrArg some hc2732) rfl rfl (v := V.ptr [1] 0 2) (.fn rfl) ?_
            refine SafeOps.quiet0 E_good (congrArg some hc2732) rfl rfl (v := V.int .i64 a0_2692.B) (.load rfl rfl (.box rfl rfl) rfl) ?_
            refine SafeOps.quiet0 E_good (congrArg some hc2732) rfl rfl (v := V.bool (a0_2692.B == 0)) (.fn rfl) ?_
            refine SafeOps.quiet0 E_good rfl rfl rfl (v := V.bool (a0_2692.B == 0)) (.pickK rfl hc2732 rfl) ?_
            exact SafeOps.drop' 4 rfl rfl rfl K
          · skip
            refine SafeOps.skip (congrArg some hc2732) rfl rfl ?_
            refine SafeOps.skip (congrArg some hc2732) rfl rfl ?_
            refine SafeOps.skip (congrArg some hc2732) rfl rfl ?_
            refine SafeOps.quiet0 E_good rfl rfl rfl (v := V.bool false) (.pickK rfl hc2732 rfl) ?_
            exact SafeOps.drop' 4 rfl rfl rfl K
          refine SafeOps.quiet0 E_good rfl rfl rfl (v := V.bool ((go_ravelref04_in a0_2692.A 1 1000) && (a0_2692.B == 0))) (.fn rfl) ?_
          refine SafeOps.nil ?_
          repeat (first | refine Safe.seq ?_ | refine Safe.skip ?_ | with_reducible refine thenQ.n ?_ | with_reducible refine blockQ.n ?_)
          refine Safe.ret ?_
          repeat (first | with_reducible refine thenQ.r ?_ | with_reducible refine blockQ.r ?_)
          obtain rfl := h
          exact retQ.gen (vs := [V.bool ((go_ravelref04_in a0_2692.A 1 1000) && (a0_2692.B == 0))]) rfl (.tmp (v := V.bool ((go_ravelref04_in a0_2692.A 1 1000) && (a0_2692.B == 0))) rfl .nil) (.free rfl) (by simp) (.inr rfl)
        · skip
          refine Safe.condN rfl hc2731 ?_
          repeat (first | refine Safe.seq ?_ | refine Safe.skip ?_ | with_reducible refine thenQ.n ?_ | with_reducible refine blockQ.n ?_)
          refine Safe.region ?_
          refine SafeOps.quiet0 E_good rfl rfl rfl (v := V.ptr [1] 0 0) (.fn rfl) ?_
          refine SafeOps.quiet0 E_good rfl rfl rfl (v := V.int .i64 a0_2692.Op) (.load rfl rfl (.box rfl rfl) rfl) ?_
          refine SafeOps.quiet0 E_good rfl rfl rfl (v := V.bool (a0_2692.Op == 5)) (.fn rfl) ?_
          refine SafeOps.nil ?_
          repeat (first | refine Safe.seq ?_ | refine Safe.skip ?_ | with_reducible refine thenQ.n ?_ | with_reducible refine blockQ.n ?_)
          refine ifG h (fun hc2734 h => ?_) (fun hc2734 h => ?_)
          · skip
            refine Safe.condK rfl hc2734 ?_
            repeat (first | refine Safe.seq ?_ | refine Safe.skip ?_ | with_reducible refine thenQ.n ?_ | with_reducible refine blockQ.n ?_)
            refine Safe.region ?_
            refine SafeOps.quiet0 E_good rfl rfl rfl (v := V.ptr [1] 0 1) (.fn rfl) ?_
            refine SafeOps.quiet0 E_good rfl rfl rfl (v := V.int .i64 a0_2692.A) (.load rfl rfl (.box rfl rfl) rfl) ?_
            refine SafeOps.quiet0 E_good rfl rfl rfl (v := V.bool (go_ravelref04_in a0_2692.A 0 15)) (.callP rfl rfl (go_ravelref04_in_sc a0_2692.A 0 15 _ rfl) rfl) ?_
            refine SafeOps.quiet0 E_good rfl rfl rfl (v := V.bool (go_ravelref04_in a0_2692.A 0 15)) (.fn rfl) ?_
            refine SafeOps.bjoin 4 62 (b := ((go_ravelref04_in a0_2692.A 0 15) && (a0_2692.B == 0))) (b1 := (a0_2692.B == 0)) (b0 := false) (fun hc2735 K => ?_) (fun hc2735 K => ?_) bj_and ?_
            · skip
              refine SafeOps.quiet0 E_good (congrArg some hc2735) rfl rfl (v := V.ptr [1] 0 2) (.fn rfl) ?_
              refine SafeOps.quiet0 E_good (congrArg some hc2735) rfl rfl (v := V.int .i64 a0_2692.B) (.load rfl rfl (.box rfl rfl) rfl) ?_
              refine SafeOps.quiet0 E_good (congrArg some hc2735) rfl rfl (v := V.bool (a0_2692.B == 0)) (.fn rfl) ?_
              refine SafeOps.quiet0 E_good rfl rfl rfl (v := V.bool (a0_2692.B == 0)) (.pickK rfl hc2735 rfl) ?_
              exact SafeOps.drop' 4 rfl rfl rfl K
            · skip
              refine SafeOps.skip (congrArg some hc2735) rfl rfl ?_
              refine SafeOps.skip (congrArg some hc2735) rfl rfl ?_
              refine SafeOps.skip (congrArg some hc2735) rfl rfl ?_
              refine SafeOps.quiet0 E_good rfl rfl rfl (v := V.bool false) (.pickK rfl hc2735 rfl) ?_
              exact SafeOps.drop' 4 rfl rfl rfl K
            refine SafeOps.quiet0 E_good rfl rfl rfl (v := V.bool ((go_ravelref04_in a0_2692.A 0 15) && (a0_2692.B == 0))) (.fn rfl) ?_
            refine SafeOps.nil ?_
            repeat (first | refine Safe.seq ?_ | refine Safe.skip ?_ | with_reducible refine thenQ.n ?_ | with_reducible refine blockQ.n ?_)
            refine Safe.ret ?_
            repeat (first | with_reducible refine thenQ.r ?_ | with_reducible refine blockQ.r ?_)
            obtain rfl := h
            exact retQ.gen (vs := [V.bool ((go_ravelref04_in a0_2692.A 0 15) && (a0_2692.B == 0))]) rfl (.tmp (v := V.bool ((go_ravelref04_in a0_2692.A 0 15) && (a0_2692.B == 0))) rfl .nil) (.free rfl) (by simp) (.inr rfl)
          · skip
            refine Safe.condN rfl hc2734 ?_
            repeat (first | refine Safe.seq ?_ | refine Safe.skip ?_ | with_reducible refine thenQ.n ?_ | with_reducible refine blockQ.n ?_)
            refine Safe.region ?_
            refine SafeOps.quiet0 E_good rfl rfl rfl (v := V.ptr [1] 0 0) (.fn rfl) ?_
            refine SafeOps.quiet0 E_good rfl rfl rfl (v := V.int .i64 a0_2692.Op) (.load rfl rfl (.box rfl rfl) rfl) ?_
            refine SafeOps.quiet0 E_good rfl rfl rfl (v := V.bool (a0_2692.Op == 6)) (.fn rfl) ?_
            refine SafeOps.nil ?_
            repeat (first | refine Safe.seq ?_ | refine Safe.skip ?_ | with_reducible refine thenQ.n ?_ | with_reducible refine blockQ.n ?_)
            refine ifG h (fun hc2737 h => ?_) (fun hc2737 h => ?_)
            · skip
              refine Safe.condK rfl hc2737 ?_
              repeat (first | refine Safe.seq ?_ | refine Safe.skip ?_ | with_reducible refine thenQ.n ?_ | with_reducible refine blockQ.n ?_)
              refine Safe.region ?_
              refine SafeOps.quiet0 E_good rfl rfl rfl (v := V.ptr [1] 0 1) (.fn rfl) ?_
              refine SafeOps.quiet0 E_good rfl rfl rfl (v := V.int .i64 a0_2692.A) (.load rfl rfl (.box rfl rfl) rfl) ?_
              refine SafeOps.quiet0 E_good rfl rfl rfl (v := V.bool (go_ravelref04_in a0_2692.A 0 3)) (.callP rfl rfl (go_ravelref04_in_sc a0_2692.A 0 3 _ rfl) rfl) ?_
              refine SafeOps.quiet0 E_good rfl rfl rfl (v := V.bool (go_ravelref04_in a0_2692.A 0 3)) (.fn rfl) ?_
              refine SafeOps.bjoin 4 73 (b := ((go_ravelref04_in a0_2692.A 0 3) && (a0_2692.B == 0))) (b1 := (a0_2692.B == 0)) (b0 := false) (fun hc2738 K => ?_) (fun hc2738 K => ?_) bj_and ?_
              · skip
                refine SafeOps.quiet0 E_good (congrArg some hc2738) rfl rfl (v := V.ptr [1] 0 2) (.fn rfl) ?_
                refine SafeOps.quiet0 E_good (congrArg some hc2738) rfl rfl (v := V.int .i64 a0_2692.B) (.load rfl rfl (.box rfl rfl) rfl) ?_
                refine SafeOps.quiet0 E_good (congrArg some hc2738) rfl rfl (v := V.bool (a0_2692.B == 0)) (.fn rfl) ?_
                refine SafeOps.quiet0 E_good rfl rfl rfl (v := V.bool (a0_2692.B == 0)) (.pickK rfl hc2738 rfl) ?_
                exact SafeOps.drop' 4 rfl rfl rfl K
              · skip
                refine SafeOps.skip (congrArg some hc2738) rfl rfl ?_
                refine SafeOps.skip (congrArg some hc2738) rfl rfl ?_
                refine SafeOps.skip (congrArg some hc2738) rfl rfl ?_
                refine SafeOps.quiet0 E_good rfl rfl rfl (v := V.bool false) (.pickK rfl hc2738 rfl) ?_
                exact SafeOps.drop' 4 rfl rfl rfl K
              refine SafeOps.quiet0 E_good rfl rfl rfl (v := V.bool ((go_ravelref04_in a0_2692.A 0 3) && (a0_2692.B == 0))) (.fn rfl) ?_
              refine SafeOps.nil ?_
              repeat (first | refine Safe.seq ?_ | refine Safe.skip ?_ | with_reducible refine thenQ.n ?_ | with_reducible refine blockQ.n ?_)
              refine Safe.ret ?_
              repeat (first | with_reducible refine thenQ.r ?_ | with_reducible refine blockQ.r ?_)
              obtain rfl := h
              exact retQ.gen (vs := [V.bool ((go_ravelref04_in a0_2692.A 0 3) && (a0_2692.B == 0))]) rfl (.tmp (v := V.bool ((go_ravelref04_in a0_2692.A 0 3) && (a0_2692.B == 0))) rfl .nil) (.free rfl) (by simp) (.inr rfl)
            · skip
              refine Safe.condN rfl hc2737 ?_
              repeat (first | refine Safe.seq ?_ | refine Safe.skip ?_ | with_reducible refine thenQ.n ?_ | with_reducible refine blockQ.n ?_)
              refine Safe.region ?_
              refine SafeOps.quiet0 E_good rfl rfl rfl (v := V.ptr [1] 0 0) (.fn rfl) ?_
              refine SafeOps.quiet0 E_good rfl rfl rfl (v := V.int .i64 a0_2692.Op) (.load rfl rfl (.box rfl rfl) rfl) ?_
              refine SafeOps.quiet0 E_good rfl rfl rfl (v := V.bool (a0_2692.Op == 7)) (.fn rfl) ?_
              refine SafeOps.quiet0 E_good rfl rfl rfl (v := V.bool (a0_2692.Op == 7)) (.fn rfl) ?_
              refine SafeOps.bjoin 4 81 (b := ((a0_2692.Op == 7) || (a0_2692.Op == 8))) (b1 := true) (b0 := (a0_2692.Op == 8)) (fun hc2739 K => ?_) (fun hc2739 K => ?_) bj_or ?_
              · skip
                refine SafeOps.skip (congrArg (fun b => some (!b)) hc2739) rfl rfl ?_
                refine SafeOps.skip (congrArg (fun b => some (!b)) hc2739) rfl rfl ?_
                refine SafeOps.skip (congrArg (fun b => some (!b)) hc2739) rfl rfl ?_
                refine SafeOps.quiet0 E_good rfl rfl rfl (v := V.bool true) (.pickK rfl hc2739 rfl) ?_
                exact SafeOps.drop' 4 rfl rfl rfl K
              · skip
                refine SafeOps.quiet0 E_good (congrArg (fun b => some (!b)) hc2739) rfl rfl (v := V.ptr [1] 0 0) (.fn rfl) ?_
                refine SafeOps.quiet0 E_good (congrArg (fun b => some (!b)) hc2739) rfl rfl (v := V.int .i64 a0_2692.Op) (.load rfl rfl (.box rfl rfl) rfl) ?_
                refine SafeOps.quiet0 E_good (congrArg (fun b => some (!b)) hc2739) rfl rfl (v := V.bool (a0_2692.Op == 8)) (.fn rfl) ?_
                refine SafeOps.quiet0 E_good rfl rfl rfl (v := V.bool (a0_2692.Op == 8)) (.pickK rfl hc2739 rfl) ?_
                exact SafeOps.drop' 4 rfl rfl rfl K
              refine SafeOps.quiet0 E_good rfl rfl rfl (v := V.bool ((a0_2692.Op == 7) || (a0_2692.Op == 8))) (.fn rfl) ?_
              refine SafeOps.bjoin 4 86 (b := (((a0_2692.Op == 7) || (a0_2692.Op == 8)) && (go_ravelref04_in a0_2692.A 0 7))) (b1 := go_ravelref04_in a0_2692.A 0 7) (b0 := false) (fun hc2740 K => ?_) (fun hc2740 K => ?_) bj_and ?_
              · skip
                refine SafeOps.quiet0 E_good (congrArg some hc2740) rfl rfl (v := V.ptr [1] 0 1) (.fn rfl) ?_
                refine SafeOps.quiet0 E_good (congrArg some hc2740) rfl rfl (v := V.int .i64 a0_2692.A) (.load rfl rfl (.box rfl rfl) rfl) ?_
                refine SafeOps.quiet0 E_good (congrArg some hc2740) rfl rfl (v := V.bool (go_ravelref04_in a0_2692.A 0 7)) (.callP rfl rfl (go_ravelref04_in_sc a0_2692.A 0 7 _ rfl) rfl) ?_
                refine SafeOps.quiet0 E_good rfl rfl rfl (v := V.bool (go_ravelref04_in a0_2692.A 0 7)) (.pickK rfl hc2740 rfl) ?_
                exact SafeOps.drop' 4 rfl rfl rfl K
              · skip
                refine SafeOps.skip (congrArg some hc2740) rfl rfl ?_
                refine SafeOps.skip (congrArg some hc2740) rfl rfl ?_
                refine SafeOps.skip (congrArg some hc2740) rfl rfl ?_
                refine SafeOps.quiet0 E_good rfl rfl rfl (v := V.bool false) (.pickK rfl hc2740 rfl) ?_
                exact SafeOps.drop' 4 rfl rfl rfl K
              refine SafeOps.quiet0 E_good rfl rfl rfl (v := V.bool (((a0_2692.Op == 7) || (a0_2692.Op == 8)) && (go_ravelref04_in a0_2692.A 0 7))) (.fn rfl) ?_
              refine SafeOps.bjoin 4 91 (b := ((((a0_2692.Op == 7) || (a0_2692.Op == 8)) && (go_ravelref04_in a0_2692.A 0 7)) && (a0_2692.B == 0))) (b1 := (a0_2692.B == 0)) (b0 := false) (fun hc2741 K => ?_) (fun hc2741 K => ?_) bj_and ?_
              · skip
                refine SafeOps.quiet0 E_good (congrArg some hc2741) rfl rfl (v := V.ptr [1] 0 2) (.fn rfl) ?_
                refine SafeOps.quiet0 E_good (congrArg some hc2741) rfl rfl (v := V.int .i64 a0_2692.B) (.load rfl rfl (.box rfl rfl) rfl) ?_
                refine SafeOps.quiet0 E_good (congrArg some hc2741) rfl rfl (v := V.bool (a0_2692.B == 0)) (.fn rfl) ?_
                refine SafeOps.quiet0 E_good rfl rfl rfl (v := V.bool (a0_2692.B == 0)) (.pickK rfl hc2741 rfl) ?_
                exact SafeOps.drop' 4 rfl rfl rfl K
              · skip
                refine SafeOps.skip (congrArg some hc2741) rfl rfl ?_
                refine SafeOps.skip (congrArg some hc2741) rfl rfl ?_
                refine SafeOps.skip (congrArg some hc2741) rfl rfl ?_
                refine SafeOps.quiet0 E_good rfl rfl rfl (v := V.bool false) (.pickK rfl hc2741 rfl) ?_
                exact SafeOps.drop' 4 rfl rfl rfl K
              refine SafeOps.quiet0 E_good rfl rfl rfl (v := V.bool ((((a0_2692.Op == 7) || (a0_2692.Op == 8)) && (go_ravelref04_in a0_2692.A 0 7)) && (a0_2692.B == 0))) (.fn rfl) ?_
              refine SafeOps.nil ?_
              repeat (first | refine Safe.seq ?_ | refine Safe.skip ?_ | with_reducible refine thenQ.n ?_ | with_reducible refine blockQ.n ?_)
              refine Safe.ret ?_
              repeat (first | with_reducible refine thenQ.r ?_ | with_reducible refine blockQ.r ?_)
              obtain rfl := h
              exact retQ.gen (vs := [V.bool ((((a0_2692.Op == 7) || (a0_2692.Op == 8)) && (go_ravelref04_in a0_2692.A 0 7)) && (a0_2692.B == 0))]) rfl (.tmp (v := V.bool ((((a0_2692.Op == 7) || (a0_2692.Op == 8)) && (go_ravelref04_in a0_2692.A 0 7)) && (a0_2692.B == 0))) rfl .nil) (.free rfl) (by simp) (.inr rfl)

noncomputable def go_ravelref04_Check_s1 (a0_2682 : List api_Instr) : (Int) → Option ((Int) ⊕ (Int))
  | v15_2761 =>
    if (decide (v15_2761 < (a0_2682.length : Int))) = true then
      if 0 ≤ v15_2761 ∧ v15_2761 < (a0_2682.length : Int) then
        if (!(go_ravelref04_may (gt a0_2682 v15_2761))) = true then
          inrO (
            some 1)
        else
          nextO (IntKind.i64.wrap (v15_2761 + 1))
      else none
    else
      inrO (
        some 0)

noncomputable def go_ravelref04_Check (a0_2682 : List api_Instr) : Option Int :=
  if ((decide ((a0_2682.length : Int) < 1)) || (decide ((a0_2682.length : Int) > 32))) = true then
    some 1
  else
    whileO (go_ravelref04_Check_s1 a0_2682) 0

theorem go_ravelref04_Check_sc (a0_2682 : List api_Instr) (r : Int) (h : go_ravelref04_Check a0_2682 = some r) : SC Try.prog gl 58 [V.sl 3 (rws api_Instr.cells a0_2682)] (V.int .i64 r) := by
  rw [go_ravelref04_Check] at h
  refine SC.of E_good Try.func58 rfl (fun _ _ => Try.call58 _ _) rfl ?_
  repeat (first | refine Safe.seq ?_ | refine Safe.skip ?_ | with_reducible refine thenQ.n ?_ | with_reducible refine blockQ.n ?_)
  refine Safe.region ?_
  refine SafeOps.quiet0 E_good rfl rfl rfl (v := V.int .i64 0) (.fn rfl) ?_
  refine SafeOps.nil ?_
  repeat (first | refine Safe.seq ?_ | refine Safe.skip ?_ | with_reducible refine thenQ.n ?_ | with_reducible refine blockQ.n ?_)
  refine Safe.region ?_
  refine SafeOps.quiet0 E_good rfl rfl rfl (v := V.sl 3 (rws api_Instr.cells a0_2682)) (.fn rfl) ?_
  refine SafeOps.quiet0 E_good rfl rfl rfl (v := V.int .i64 (a0_2682.length : Int)) (.fnE rfl lenE) ?_
  refine SafeOps.quiet0 E_good rfl rfl rfl (v := V.bool (decide ((a0_2682.length : Int) < 1))) (.fn rfl) ?_
  refine SafeOps.quiet0 E_good rfl rfl rfl (v := V.bool (decide ((a0_2682.length : Int) < 1))) (.fn rfl) ?_
  refine SafeOps.bjoin 4 12 (b := ((decide ((a0_2682.length : Int) < 1)) || (decide ((a0_2682.length : Int) > 32)))) (b1 := true) (b0 := decide ((a0_2682.length : Int) > 32)) (fun hc2752 K => ?_) (fun hc2752 K => ?_) bj_or ?_
  · skip
    refine SafeOps.skip (congrArg (fun b => some (!b)) hc2752) rfl rfl ?_
    refine SafeOps.skip (congrArg (fun b => some (!b)) hc2752) rfl rfl ?_
    refine SafeOps.skip (congrArg (fun b => some (!b)) hc2752) rfl rfl ?_
    refine SafeOps.quiet0 E_good rfl rfl rfl (v := V.bool true) (.pickK rfl hc2752 rfl) ?_
    exact SafeOps.drop' 4 rfl rfl rfl K
  · skip
    refine SafeOps.quiet0 E_good (congrArg (fun b => some (!b)) hc2752) rfl rfl (v := V.sl 3 (rws api_Instr.cells a0_2682)) (.fn rfl) ?_
    refine SafeOps.quiet0 E_good (congrArg (fun b => some (!b)) hc2752) rfl rfl (v := V.int .i64 (a0_2682.length : Int)) (.fnE rfl lenE) ?_
    refine SafeOps.quiet0 E_good (congrArg (fun b => some (!b)) hc2752) rfl rfl (v := V.bool (decide ((a0_2682.length : Int) > 32))) (.fn rfl) ?_
    refine SafeOps.quiet0 E_good rfl rfl rfl (v := V.bool (decide ((a0_2682.length : Int) > 32))) (.pickK rfl hc2752 rfl) ?_
    exact SafeOps.drop' 4 rfl rfl rfl K
  refine SafeOps.nil ?_
  repeat (first | refine Safe.seq ?_ | refine Safe.skip ?_ | with_reducible refine thenQ.n ?_ | with_reducible refine blockQ.n ?_)
  refine ifG h (fun hc2753 h => ?_) (fun hc2753 h => ?_)
  · skip
    refine Safe.condK rfl hc2753 ?_
    repeat (first | refine Safe.seq ?_ | refine Safe.skip ?_ | with_reducible refine thenQ.n ?_ | with_reducible refine blockQ.n ?_)
    refine Safe.region ?_
    refine SafeOps.quiet0 E_good rfl rfl rfl (v := V.int .i64 1) (.fn rfl) ?_
    refine SafeOps.nil ?_
    repeat (first | refine Safe.seq ?_ | refine Safe.skip ?_ | with_reducible refine thenQ.n ?_ | with_reducible refine blockQ.n ?_)
    refine Safe.ret ?_
    repeat (first | with_reducible refine thenQ.r ?_ | with_reducible refine blockQ.r ?_)
    obtain rfl := Option.some.inj h
    exact retQ.gen (vs := [V.int .i64 1]) rfl (.tmp (v := V.int .i64 1) rfl .nil) (.free rfl) (by simp) (.inr rfl)
  · skip
    refine Safe.condN rfl hc2753 ?_
    repeat (first | refine Safe.seq ?_ | refine Safe.skip ?_ | with_reducible refine thenQ.n ?_ | with_reducible refine blockQ.n ?_)
    refine Safe.region ?_
    refine SafeOps.quiet0 E_good rfl rfl rfl (v := V.sl 3 (rws api_Instr.cells a0_2682)) (.fn rfl) ?_
    refine SafeOps.quiet0 E_good rfl rfl rfl (v := V.int .i64 (a0_2682.length : Int)) (.fnE rfl lenE) ?_
    refine SafeOps.quiet0 E_good rfl rfl rfl (v := V.int .i64 0) (.fn rfl) ?_
    refine SafeOps.nil ?_
    repeat (first | refine Safe.seq ?_ | refine Safe.skip ?_ | with_reducible refine thenQ.n ?_ | with_reducible refine blockQ.n ?_)
    refine Safe.block ?_
    repeat (first | refine Safe.seq ?_ | refine Safe.skip ?_ | with_reducible refine thenQ.n ?_ | with_reducible refine blockQ.n ?_)
    refine Safe.loopW (fun (v15_2761 : Int) => ⟨Try.f58.ntmps, [(13, V.sl 3 (rws api_Instr.cells a0_2682)), (14, V.int .i64 (a0_2682.length : Int)), (15, V.int .i64 v15_2761)], [], [], []⟩) h (.cov ⟨rfl, rfl, (upT_cons (.refl _) (upT_cons (.refl _) (upT_cons (.refl _) upT_nil))), upOb_nil, upOut_nil, rfl⟩) ?_
    intro v15_2761 ohr2762 h hr2762
    replace h : go_ravelref04_Check_s1 a0_2682 v15_2761 = some ohr2762 := h
    rw [go_ravelref04_Check_s1] at h
    repeat (first | refine Safe.seq ?_ | refine Safe.skip ?_ | with_reducible refine thenQ.n ?_ | with_reducible refine blockQ.n ?_)
    refine Safe.region ?_
    refine SafeOps.quiet0 E_good rfl rfl rfl (v := V.bool (decide (v15_2761 < (a0_2682.length : Int)))) (.fn rfl) ?_
    refine SafeOps.nil ?_
    repeat (first | refine Safe.seq ?_ | refine Safe.skip ?_ | with_reducible refine thenQ.n ?_ | with_reducible refine blockQ.n ?_)
    refine ifG h (fun hc2763 h => ?_) (fun hc2763 h => ?_)
    · skip
      refine Safe.condK rfl hc2763 ?_
      repeat (first | refine Safe.seq ?_ | refine Safe.skip ?_ | with_reducible refine thenQ.n ?_ | with_reducible refine blockQ.n ?_)
      refine Safe.block ?_
      repeat (first | refine Safe.seq ?_ | refine Safe.skip ?_ | with_reducible refine thenQ.n ?_ | with_reducible refine blockQ.n ?_)
      refine Safe.region ?_
      refine okG h (fun hb2764 h => ?_)
      refine SafeOps.quiet0 E_good rfl rfl rfl (v := V.spt 3 (rws api_Instr.cells a0_2682) (Int.toNat v15_2761) 0) (.idxSlM (f := api_Instr.cells) rfl rfl rfl rfl rfl hb2764) ?_
      refine SafeOps.quiet0 E_good rfl rfl rfl (v := V.agg [V.int .i64 ((gt a0_2682 v15_2761).Op), V.int .i64 ((gt a0_2682 v15_2761).A), V.int .i64 ((gt a0_2682 v15_2761).B)]) (.load rfl rfl (.sptM (f := api_Instr.cells) hb2764 rfl) rfl) ?_
      refine SafeOps.quiet1 E_good rfl rfl rfl (.alloc rfl rfl) rfl ?_
      refine SafeOps.store (z := Obj.box [V.int .i64 ((gt a0_2682 v15_2761).Op), V.int .i64 ((gt a0_2682 v15_2761).A), V.int .i64 ((gt a0_2682 v15_2761).B)]) E_good rfl rfl rfl rfl rfl rfl rfl (.boxM (c := 3) rfl rfl (Nat.le_of_ble_eq_true rfl) rfl) ?_
      refine SafeOps.nil ?_
      repeat (first | refine Safe.seq ?_ | refine Safe.skip ?_ | with_reducible refine thenQ.n ?_ | with_reducible refine blockQ.n ?_)
      refine Safe.region ?_
      refine SafeOps.quiet0 E_good rfl rfl rfl (v := V.agg [V.int .i64 ((gt a0_2682 v15_2761).Op), V.int .i64 ((gt a0_2682 v15_2761).A), V.int .i64 ((gt a0_2682 v15_2761).B)]) (.load rfl rfl (.box rfl rfl) rfl) ?_
      refine SafeOps.quiet0 E_good rfl rfl rfl (v := V.bool (go_ravelref04_may (gt a0_2682 v15_2761))) (.callP rfl rfl (go_ravelref04_may_sc (gt a0_2682 v15_2761) _ rfl) rfl) ?_
      refine SafeOps.quiet0 E_good rfl rfl rfl (v := V.bool (!(go_ravelref04_may (gt a0_2682 v15_2761)))) (.fn rfl) ?_
      refine SafeOps.nil ?_
      repeat (first | refine Safe.seq ?_ | refine Safe.skip ?_ | with_reducible refine thenQ.n ?_ | with_reducible refine blockQ.n ?_)
      refine ifG h (fun hc2765 h => ?_) (fun hc2765 h => ?_)
      · skip
        refine Safe.condK rfl hc2765 ?_
        repeat (first | refine Safe.seq ?_ | refine Safe.skip ?_ | with_reducible refine thenQ.n ?_ | with_reducible refine blockQ.n ?_)
        refine Safe.region ?_
        refine SafeOps.quiet0 E_good rfl rfl rfl (v := V.int .i64 1) (.fn rfl) ?_
        refine SafeOps.nil ?_
        repeat (first | refine Safe.seq ?_ | refine Safe.skip ?_ | with_reducible refine thenQ.n ?_ | with_reducible refine blockQ.n ?_)
        refine Safe.ret ?_
        repeat (first | with_reducible refine thenQ.r ?_ | with_reducible refine blockQ.r ?_)
        replace h := inr_out h hr2762
        obtain rfl := Option.some.inj h
        exact retQ.gen (vs := [V.int .i64 1]) rfl (.tmp (v := V.int .i64 1) rfl .nil) (.free rfl) (by simp) (.inr rfl)
      · skip
        refine Safe.condN rfl hc2765 ?_
        repeat (first | refine Safe.seq ?_ | refine Safe.skip ?_ | with_reducible refine thenQ.n ?_ | with_reducible refine blockQ.n ?_)
        refine Safe.region ?_
        refine SafeOps.quiet0 E_good rfl rfl rfl (v := V.int .i64 (IntKind.i64.wrap (v15_2761 + 1))) (.fn rfl) ?_
        refine SafeOps.quiet0 E_good rfl rfl rfl (v := V.int .i64 (IntKind.i64.wrap (v15_2761 + 1))) (.fn rfl) ?_
        refine SafeOps.nil ?_
        repeat (first | refine Safe.seq ?_ | refine Safe.skip ?_ | with_reducible refine thenQ.n ?_ | with_reducible refine blockQ.n ?_)
        exact ⟨_, next_out h, (.cov ⟨rfl, rfl, (upT_cons (.refl _) (upT_cons (.refl _) (upT_cons (.refl _) upT_nil))), upOb_nil, upOut_nil, rfl⟩)⟩
    · skip
      refine Safe.condN rfl hc2763 ?_
      repeat (first | refine Safe.seq ?_ | refine Safe.skip ?_ | with_reducible refine thenQ.n ?_ | with_reducible refine blockQ.n ?_)
      refine Safe.exit ?_
      repeat (first | with_reducible refine thenQ.e ?_ | with_reducible refine blockQ.x rfl ?_ | with_reducible refine blockQ.y rfl ?_)
      replace h := inr_out h hr2762
      repeat (first | refine Safe.seq ?_ | refine Safe.skip ?_ | with_reducible refine thenQ.n ?_ | with_reducible refine blockQ.n ?_)
      refine Safe.region ?_
      refine SafeOps.quiet0 E_good rfl rfl rfl (v := V.int .i64 0) (.fn rfl) ?_
      refine SafeOps.nil ?_
      repeat (first | refine Safe.seq ?_ | refine Safe.skip ?_ | with_reducible refine thenQ.n ?_ | with_reducible refine blockQ.n ?_)
      refine Safe.ret ?_
      repeat (first | with_reducible refine thenQ.r ?_ | with_reducible refine blockQ.r ?_)
      obtain rfl := Option.some.inj h
      exact retQ.gen (vs := [V.int .i64 0]) rfl (.tmp (v := V.int .i64 0) rfl .nil) (.free rfl) (by simp) (.inr rfl)

noncomputable def go_ravelref04_CheckAll_s4 (a0_2672 : List (List api_Instr)) (v17_2870 : Int) : (Int) → Option ((Int) ⊕ ((Int) ⊕ (Int)))
  | v26_2886 =>
    if (decide (v26_2886 < ((gt a0_2672 v17_2870).length : Int))) = true then
      if 0 ≤ v26_2886 ∧ v26_2886 < ((gt a0_2672 v17_2870).length : Int) then
        if ((((gt (gt a0_2672 v17_2870) v26_2886).Op) == 2) && (decide (((gt (gt a0_2672 v17_2870) v26_2886).A) ≥ (a0_2672.length : Int)))) = true then
          inrO (
            inrO (
              some 1))
        else
          nextO (IntKind.i64.wrap (v26_2886 + 1))
      else none
    else
      inrO (
        nextO (IntKind.i64.wrap (v17_2870 + 1)))

noncomputable def go_ravelref04_CheckAll_s3 (a0_2672 : List (List api_Instr)) : (Int) → Option ((Int) ⊕ (Int))
  | v17_2870 =>
    if (decide (v17_2870 < (a0_2672.length : Int))) = true then
      if 0 ≤ v17_2870 ∧ v17_2870 < (a0_2672.length : Int) then
        (go_ravelref04_Check (gt a0_2672 v17_2870)).bind fun x_2874 =>
        if (x_2874 != 0) = true then
          inrO (
            some 1)
        else
          whileO (go_ravelref04_CheckAll_s4 a0_2672 v17_2870) 0
      else none
    else
      inrO (
        some 0)

noncomputable def go_ravelref04_CheckAll (a0_2672 : List (List api_Instr)) : Option Int :=
  if ((decide ((a0_2672.length : Int) < 1)) || (decide ((a0_2672.length : Int) > 16))) = true then
    some 1
  else
    whileO (go_ravelref04_CheckAll_s3 a0_2672) 0

theorem go_ravelref04_CheckAll_sc (a0_2672 : List (List api_Instr)) (r : Int) (h : go_ravelref04_CheckAll a0_2672 = some r) : SC Try.prog gl 43 [V.sl 1 (rws (fun l => [V.sl 3 (rws api_Instr.cells l)]) a0_2672)] (V.int .i64 r) := by
  rw [go_ravelref04_CheckAll] at h
  refine SC.of E_good Try.func43 rfl (fun _ _ => Try.call43 _ _) rfl ?_
  repeat (first | refine Safe.seq ?_ | refine Safe.skip ?_ | with_reducible refine thenQ.n ?_ | with_reducible refine blockQ.n ?_)
  refine Safe.region ?_
  refine SafeOps.quiet0 E_good rfl rfl rfl (v := V.int .i64 0) (.fn rfl) ?_
  refine SafeOps.nil ?_
  repeat (first | refine Safe.seq ?_ | refine Safe.skip ?_ | with_reducible refine thenQ.n ?_ | with_reducible refine blockQ.n ?_)
  refine Safe.region ?_
  refine SafeOps.quiet0 E_good rfl rfl rfl (v := V.sl 1 (rws (fun l => [V.sl 3 (rws api_Instr.cells l)]) a0_2672)) (.fn rfl) ?_
  refine SafeOps.quiet0 E_good rfl rfl rfl (v := V.int .i64 (a0_2672.length : Int)) (.fnE rfl lenE) ?_
  refine SafeOps.quiet0 E_good rfl rfl rfl (v := V.bool (decide ((a0_2672.length : Int) < 1))) (.fn rfl) ?_
  refine SafeOps.quiet0 E_good rfl rfl rfl (v := V.bool (decide ((a0_2672.length : Int) < 1))) (.fn rfl) ?_
  refine SafeOps.bjoin 4 14 (b := ((decide ((a0_2672.length : Int) < 1)) || (decide ((a0_2672.length : Int) > 16)))) (b1 := true) (b0 := decide ((a0_2672.length : Int) > 16)) (fun hc2827 K => ?_) (fun hc2827 K => ?_) bj_or ?_
  · skip
    refine SafeOps.skip (congrArg (fun b => some (!b)) hc2827) rfl rfl ?_
    refine SafeOps.skip (congrArg (fun b => some (!b)) hc2827) rfl rfl ?_
    refine SafeOps.skip (congrArg (fun b => some (!b)) hc2827) rfl rfl ?_
    refine SafeOps.quiet0 E_good rfl rfl rfl (v := V.bool true) (.pickK rfl hc2827 rfl) ?_
    exact SafeOps.drop' 4 rfl rfl rfl K
  · skip
    refine SafeOps.quiet0 E_good (congrArg (fun b => some (!b)) hc2827) rfl rfl (v := V.sl 1 (rws (fun l => [V.sl 3 (rws api_Instr.cells l)]) a0_2672)) (.fn rfl) ?_
    refine SafeOps.quiet0 E_good (congrArg (fun b => some (!b)) hc2827) rfl rfl (v := V.int .i64 (a0_2672.length : Int)) (.fnE rfl lenE) ?_
    refine SafeOps.quiet0 E_good (congrArg (fun b => some (!b)) hc2827) rfl rfl (v := V.bool (decide ((a0_2672.length : Int) > 16))) (.fn rfl) ?_
    refine SafeOps.quiet0 E_good rfl rfl rfl (v := V.bool (decide ((a0_2672.length : Int) > 16))) (.pickK rfl hc2827 rfl) ?_
    exact SafeOps.drop' 4 rfl rfl rfl K
  refine SafeOps.nil ?_
  repeat (first | refine Safe.seq ?_ | refine Safe.skip ?_ | with_reducible refine thenQ.n ?_ | with_reducible refine blockQ.n ?_)
  refine ifG h (fun hc2828 h => ?_) (fun hc2828 h => ?_)
  · skip
    refine Safe.condK rfl hc2828 ?_
    repeat (first | refine Safe.seq ?_ | refine Safe.skip ?_ | with_reducible refine thenQ.n ?_ | with_reducible refine blockQ.n ?_)
    refine Safe.region ?_
    refine SafeOps.quiet0 E_good rfl rfl rfl (v := V.int .i64 1) (.fn rfl) ?_
    refine SafeOps.nil ?_
    repeat (first | refine Safe.seq ?_ | refine Safe.skip ?_ | with_reducible refine thenQ.n ?_ | with_reducible refine blockQ.n ?_)
    refine Safe.ret ?_
    repeat (first | with_reducible refine thenQ.r ?_ | with_reducible refine blockQ.r ?_)
    obtain rfl := Option.some.inj h
    exact retQ.gen (vs := [V.int .i64 1]) rfl (.tmp (v := V.int .i64 1) rfl .nil) (.free rfl) (by simp) (.inr rfl)
  · skip
    refine Safe.condN rfl hc2828 ?_
    repeat (first | refine Safe.seq ?_ | refine Safe.skip ?_ | with_reducible refine thenQ.n ?_ | with_reducible refine blockQ.n ?_)
    refine Safe.region ?_
    refine SafeOps.quiet0 E_good rfl rfl rfl (v := V.sl 1 (rws (fun l => [V.sl 3 (rws api_Instr.cells l)]) a0_2672)) (.fn rfl) ?_
    refine SafeOps.quiet0 E_good rfl rfl rfl (v := V.int .i64 (a0_2672.length : Int)) (.fnE rfl lenE) ?_
    refine SafeOps.quiet0 E_good rfl rfl rfl (v := V.int .i64 0) (.fn rfl) ?_
    refine SafeOps.nil ?_
    repeat (first | refine Safe.seq ?_ | refine Safe.skip ?_ | with_reducible refine thenQ.n ?_ | with_reducible refine blockQ.n ?_)
    refine Safe.block ?_
    repeat (first | refine Safe.seq ?_ | refine Safe.skip ?_ | with_reducible refine thenQ.n ?_ | with_reducible refine blockQ.n ?_)
    refine Safe.loopW (fun (v17_2870 : Int) => ⟨Try.f43.ntmps, [(0, V.sl 1 (rws (fun l => [V.sl 3 (rws api_Instr.cells l)]) a0_2672)), (15, V.sl 1 (rws (fun l => [V.sl 3 (rws api_Instr.cells l)]) a0_2672)), (16, V.int .i64 (a0_2672.length : Int)), (17, V.int .i64 v17_2870)], [], [], []⟩) h (.cov ⟨rfl, rfl, (upT_cons (.refl _) (upT_cons (.refl _) (upT_cons (.refl _) (upT_cons (.refl _) upT_nil)))), upOb_nil, upOut_nil, rfl⟩) ?_
    intro v17_2870 ohr2871 h hr2871
    replace h : go_ravelref04_CheckAll_s3 a0_2672 v17_2870 = some ohr2871 := h
    rw [go_ravelref04_CheckAll_s3] at h
    repeat (first | refine Safe.seq ?_ | refine Safe.skip ?_ | with_reducible refine thenQ.n ?_ | with_reducible refine blockQ.n ?_)
    refine Safe.region ?_
    refine SafeOps.quiet0 E_good rfl rfl rfl (v := V.bool (decide (v17_2870 < (a0_2672.length : Int)))) (.fn rfl) ?_
    refine SafeOps.nil ?_
    repeat (first | refine Safe.seq ?_ | refine Safe.skip ?_ | with_reducible refine thenQ.n ?_ | with_reducible refine blockQ.n ?_)
    refine ifG h (fun hc2872 h => ?_) (fun hc2872 h => ?_)
    · skip
      refine Safe.condK rfl hc2872 ?_
      repeat (first | refine Safe.seq ?_ | refine Safe.skip ?_ | with_reducible refine thenQ.n ?_ | with_reducible refine blockQ.n ?_)
      refine Safe.block ?_
      repeat (first | refine Safe.seq ?_ | refine Safe.skip ?_ | with_reducible refine thenQ.n ?_ | with_reducible refine blockQ.n ?_)
      refine Safe.region ?_
      refine okG h (fun hb2873 h => ?_)
      refine SafeOps.quiet0 E_good rfl rfl rfl (v := V.spt 1 (rws (fun l => [V.sl 3 (rws api_Instr.cells l)]) a0_2672) (Int.toNat v17_2870) 0) (.idxSlM (f := (fun l => [V.sl 3 (rws api_Instr.cells l)])) rfl rfl rfl rfl rfl hb2873) ?_
      refine SafeOps.quiet0 E_good rfl rfl rfl (v := V.sl 3 (rws api_Instr.cells (gt a0_2672 v17_2870))) (.load rfl rfl (.sptM (f := (fun l => [V.sl 3 (rws api_Instr.cells l)])) hb2873 rfl) rfl) ?_
      refine SafeOps.quiet0 E_good rfl rfl rfl (v := V.sl 3 (rws api_Instr.cells (gt a0_2672 v17_2870))) (.fn rfl) ?_
      refine SafeOps.nil ?_
      repeat (first | refine Safe.seq ?_ | refine Safe.skip ?_ | with_reducible refine thenQ.n ?_ | with_reducible refine blockQ.n ?_)
      refine Safe.region ?_
      refine SafeOps.quiet0 E_good rfl rfl rfl (v := V.sl 3 (rws api_Instr.cells (gt a0_2672 v17_2870))) (.fn rfl) ?_
      refine bindG h ?_
      intro x_2874 he2875 h
      refine SafeOps.quiet0 E_good rfl rfl rfl (v := V.int .i64 x_2874) (.callP rfl rfl (go_ravelref04_Check_sc (gt a0_2672 v17_2870) _ he2875) rfl) ?_
      refine SafeOps.quiet0 E_good rfl rfl rfl (v := V.bool (x_2874 != 0)) (.fn rfl) ?_
      refine SafeOps.nil ?_
      repeat (first | refine Safe.seq ?_ | refine Safe.skip ?_ | with_reducible refine thenQ.n ?_ | with_reducible refine blockQ.n ?_)
      refine ifG h (fun hc2876 h => ?_) (fun hc2876 h => ?_)
      · skip
        refine Safe.condK rfl hc2876 ?_
        repeat (first | refine Safe.seq ?_ | refine Safe.skip ?_ | with_reducible refine thenQ.n ?_ | with_reducible refine blockQ.n ?_)
        refine Safe.region ?_
        refine SafeOps.quiet0 E_good rfl rfl rfl (v := V.int .i64 1) (.fn rfl) ?_
        refine SafeOps.nil ?_
        repeat (first | refine Safe.seq ?_ | refine Safe.skip ?_ | with_reducible refine thenQ.n ?_ | with_reducible refine blockQ.n ?_)
        refine Safe.ret ?_
        repeat (first | with_reducible refine thenQ.r ?_ | with_reducible refine blockQ.r ?_)
        replace h := inr_out h hr2871
        obtain rfl := Option.some.inj h
        exact retQ.gen (vs := [V.int .i64 1]) rfl (.tmp (v := V.int .i64 1) rfl .nil) (.free rfl) (by simp) (.inr rfl)
      · skip
        refine Safe.condN rfl hc2876 ?_
        repeat (first | refine Safe.seq ?_ | refine Safe.skip ?_ | with_reducible refine thenQ.n ?_ | with_reducible refine blockQ.n ?_)
        refine Safe.region ?_
        refine SafeOps.quiet0 E_good rfl rfl rfl (v := V.sl 3 (rws api_Instr.cells (gt a0_2672 v17_2870))) (.fn rfl) ?_
        refine SafeOps.quiet0 E_good rfl rfl rfl (v := V.int .i64 ((gt a0_2672 v17_2870).length : Int)) (.fnE rfl lenE) ?_
        refine SafeOps.quiet0 E_good rfl rfl rfl (v := V.int .i64 0) (.fn rfl) ?_
        refine SafeOps.nil ?_
        repeat (first | refine Safe.seq ?_ | refine Safe.skip ?_ | with_reducible refine thenQ.n ?_ | with_reducible refine blockQ.n ?_)
        refine Safe.block ?_
        repeat (first | refine Safe.seq ?_ | refine Safe.skip ?_ | with_reducible refine thenQ.n ?_ | with_reducible refine blockQ.n ?_)
        refine Safe.loopW (fun (v26_2886 : Int) => ⟨Try.f43.ntmps, [(0, V.sl 1 (rws (fun l => [V.sl 3 (rws api_Instr.cells l)]) a0_2672)), (15, V.sl 1 (rws (fun l => [V.sl 3 (rws api_Instr.cells l)]) a0_2672)), (16, V.int .i64 (a0_2672.length : Int)), (17, V.int .i64 v17_2870), (24, V.sl 3 (rws api_Instr.cells (gt a0_2672 v17_2870))), (25, V.int .i64 ((gt a0_2672 v17_2870).length : Int)), (26, V.int .i64 v26_2886)], [], [], []⟩) h (.cov ⟨rfl, rfl, (upT_cons (.refl _) (upT_cons (.refl _) (upT_cons (.refl _) (upT_cons (.refl _) (upT_cons (.refl _) (upT_cons (.refl _) (upT_cons (.refl _) upT_nil))))))), upOb_nil, upOut_nil, rfl⟩) ?_
        intro v26_2886 ohr2887 h hr2887
        replace h : go_ravelref04_CheckAll_s4 a0_2672 v17_2870 v26_2886 = some ohr2887 := h
        rw [go_ravelref04_CheckAll_s4] at h
        repeat (first | refine Safe.seq ?_ | refine Safe.skip ?_ | with_reducible refine thenQ.n ?_ | with_reducible refine blockQ.n ?_)
        refine Safe.region ?_
        refine SafeOps.quiet0 E_good rfl rfl rfl (v := V.bool (decide (v26_2886 < ((gt a0_2672 v17_2870).length : Int)))) (.fn rfl) ?_
        refine SafeOps.nil ?_
        repeat (first | refine Safe.seq ?_ | refine Safe.skip ?_ | with_reducible refine thenQ.n ?_ | with_reducible refine blockQ.n ?_)
        refine ifG h (fun hc2888 h => ?_) (fun hc2888 h => ?_)
        · skip
          refine Safe.condK rfl hc2888 ?_
          repeat (first | refine Safe.seq ?_ | refine Safe.skip ?_ | with_reducible refine thenQ.n ?_ | with_reducible refine blockQ.n ?_)
          refine Safe.block ?_
          repeat (first | refine Safe.seq ?_ | refine Safe.skip ?_ | with_reducible refine thenQ.n ?_ | with_reducible refine blockQ.n ?_)
          refine Safe.region ?_
          refine okG h (fun hb2889 h => ?_)
          refine SafeOps.quiet0 E_good rfl rfl rfl (v := V.spt 3 (rws api_Instr.cells (gt a0_2672 v17_2870)) (Int.toNat v26_2886) 0) (.idxSlM (f := api_Instr.cells) rfl rfl rfl rfl rfl hb2889) ?_
          refine SafeOps.quiet0 E_good rfl rfl rfl (v := V.agg [V.int .i64 ((gt (gt a0_2672 v17_2870) v26_2886).Op), V.int .i64 ((gt (gt a0_2672 v17_2870) v26_2886).A), V.int .i64 ((gt (gt a0_2672 v17_2870) v26_2886).B)]) (.load rfl rfl (.sptM (f := api_Instr.cells) hb2889 rfl) rfl) ?_
          refine SafeOps.quiet1 E_good rfl rfl rfl (.alloc rfl rfl) rfl ?_
          refine SafeOps.store (z := Obj.box [V.int .i64 ((gt (gt a0_2672 v17_2870) v26_2886).Op), V.int .i64 ((gt (gt a0_2672 v17_2870) v26_2886).A), V.int .i64 ((gt (gt a0_2672 v17_2870) v26_2886).B)]) E_good rfl rfl rfl rfl rfl rfl rfl (.boxM (c := 3) rfl rfl (Nat.le_of_ble_eq_true rfl) rfl) ?_
          refine SafeOps.nil ?_
          repeat (first | refine Safe.seq ?_ | refine Safe.skip ?_ | with_reducible refine thenQ.n ?_ | with_reducible refine blockQ.n ?_)
          refine Safe.region ?_
          refine SafeOps.quiet0 E_good rfl rfl rfl (v := V.ptr [6] 0 0) (.fn rfl) ?_
          refine SafeOps.quiet0 E_good rfl rfl rfl (v := V.int .i64 ((gt (gt a0_2672 v17_2870) v26_2886).Op)) (.load rfl rfl (.box rfl rfl) rfl) ?_
          refine SafeOps.quiet0 E_good rfl rfl rfl (v := V.bool (((gt (gt a0_2672 v17_2870) v26_2886).Op) == 2)) (.fn rfl) ?_
          refine SafeOps.quiet0 E_good rfl rfl rfl (v := V.bool (((gt (gt a0_2672 v17_2870) v26_2886).Op) == 2)) (.fn rfl) ?_
          refine SafeOps.bjoin 6 39 (b := ((((gt (gt a0_2672 v17_2870) v26_2886).Op) == 2) && (decide (((gt (gt a0_2672 v17_2870) v26_2886).A) ≥ (a0_2672.length : Int))))) (b1 := decide (((gt (gt a0_2672 v17_2870) v26_2886).A) ≥ (a0_2672.length : Int))) (b0 := false) (fun hc2890 K => ?_) (fun hc2890 K => ?_) bj_and ?_
          · skip
            refine SafeOps.quiet0 E_good (congrArg some hc2890) rfl rfl (v := V.ptr [6] 0 1) (.fn rfl) ?_
            refine SafeOps.quiet0 E_good (congrArg some hc2890) rfl rfl (v := V.int .i64 ((gt (gt a0_2672 v17_2870) v26_2886).A)) (.load rfl rfl (.box rfl rfl) rfl) ?_
            refine SafeOps.quiet0 E_good (congrArg some hc2890) rfl rfl (v := V.sl 1 (rws (fun l => [V.sl 3 (rws api_Instr.cells l)]) a0_2672)) (.fn rfl) ?_
            refine SafeOps.quiet0 E_good (congrArg some hc2890) rfl rfl (v := V.int .i64 (a0_2672.length : Int)) (.fnE rfl lenE) ?_
            refine SafeOps.quiet0 E_good (congrArg some hc2890) rfl rfl (v := V.bool (decide (((gt (gt a0_2672 v17_2870) v26_2886).A) ≥ (a0_2672.length : Int)))) (.fn rfl) ?_
            refine SafeOps.quiet0 E_good rfl rfl rfl (v := V.bool (decide (((gt (gt a0_2672 v17_2870) v26_2886).A) ≥ (a0_2672.length : Int)))) (.pickK rfl hc2890 rfl) ?_
            exact SafeOps.drop' 6 rfl rfl rfl K
          · skip
            refine SafeOps.skip (congrArg some hc2890) rfl rfl ?_
            refine SafeOps.skip (congrArg some hc2890) rfl rfl ?_
            refine SafeOps.skip (congrArg some hc2890) rfl rfl ?_
            refine SafeOps.skip (congrArg some hc2890) rfl rfl ?_
            refine SafeOps.skip (congrArg some hc2890) rfl rfl ?_
            refine SafeOps.quiet0 E_good rfl rfl rfl (v := V.bool false) (.pickK rfl hc2890 rfl) ?_
            exact SafeOps.drop' 6 rfl rfl rfl K
          refine SafeOps.nil ?_
          repeat (first | refine Safe.seq ?_ | refine Safe.skip ?_ | with_reducible refine thenQ.n ?_ | with_reducible refine blockQ.n ?_)
          refine ifG h (fun hc2891 h => ?_) (fun hc2891 h => ?_)
          · skip
            refine Safe.condK rfl hc2891 ?_
            repeat (first | refine Safe.seq ?_ | refine Safe.skip ?_ | with_reducible refine thenQ.n ?_ | with_reducible refine blockQ.n ?_)
            refine Safe.region ?_
            refine SafeOps.quiet0 E_good rfl rfl rfl (v := V.int .i64 1) (.fn rfl) ?_
            refine SafeOps.nil ?_
            repeat (first | refine Safe.seq ?_ | refine Safe.skip ?_ | with_reducible refine thenQ.n ?_ | with_reducible refine blockQ.n ?_)
            refine Safe.ret ?_
            repeat (first | with_reducible refine thenQ.r ?_ | with_reducible refine blockQ.r ?_)
            replace h := inr_out h hr2887
            replace h := inr_out h hr2871
            obtain rfl := Option.some.inj h
            exact retQ.gen (vs := [V.int .i64 1]) rfl (.tmp (v := V.int .i64 1) rfl .nil) (.free rfl) (by simp) (.inr rfl)
          · skip
            refine Safe.condN rfl hc2891 ?_
            repeat (first | refine Safe.seq ?_ | refine Safe.skip ?_ | with_reducible refine thenQ.n ?_ | with_reducible refine blockQ.n ?_)
            refine Safe.region ?_
            refine SafeOps.quiet0 E_good rfl rfl rfl (v := V.int .i64 (IntKind.i64.wrap (v26_2886 + 1))) (.fn rfl) ?_
            refine SafeOps.quiet0 E_good rfl rfl rfl (v := V.int .i64 (IntKind.i64.wrap (v26_2886 + 1))) (.fn rfl) ?_
            refine SafeOps.nil ?_
            repeat (first | refine Safe.seq ?_ | refine Safe.skip ?_ | with_reducible refine thenQ.n ?_ | with_reducible refine blockQ.n ?_)
            exact ⟨_, next_out h, (.cov ⟨rfl, rfl, (upT_cons (.refl _) (upT_cons (.refl _) (upT_cons (.refl _) (upT_cons (.refl _) (upT_cons (.refl _) (upT_cons (.refl _) (upT_cons (.refl _) upT_nil))))))), upOb_nil, upOut_nil, rfl⟩)⟩
        · skip
          refine Safe.condN rfl hc2888 ?_
          repeat (first | refine Safe.seq ?_ | refine Safe.skip ?_ | with_reducible refine thenQ.n ?_ | with_reducible refine blockQ.n ?_)
          refine Safe.exit ?_
          repeat (first | with_reducible refine thenQ.e ?_ | with_reducible refine blockQ.x rfl ?_ | with_reducible refine blockQ.y rfl ?_)
          replace h := inr_out h hr2887
          repeat (first | refine Safe.seq ?_ | refine Safe.skip ?_ | with_reducible refine thenQ.n ?_ | with_reducible refine blockQ.n ?_)
          refine Safe.region ?_
          refine SafeOps.quiet0 E_good rfl rfl rfl (v := V.int .i64 (IntKind.i64.wrap (v17_2870 + 1))) (.fn rfl) ?_
          refine SafeOps.quiet0 E_good rfl rfl rfl (v := V.int .i64 (IntKind.i64.wrap (v17_2870 + 1))) (.fn rfl) ?_
          refine SafeOps.nil ?_
          repeat (first | refine Safe.seq ?_ | refine Safe.skip ?_ | with_reducible refine thenQ.n ?_ | with_reducible refine blockQ.n ?_)
          exact ⟨_, next_out h, (.cov ⟨rfl, rfl, (upT_cons (.refl _) (upT_cons (.refl _) (upT_cons (.refl _) (upT_cons (.refl _) upT_nil)))), upOb_nil, upOut_nil, rfl⟩)⟩
    · skip
      refine Safe.condN rfl hc2872 ?_
      repeat (first | refine Safe.seq ?_ | refine Safe.skip ?_ | with_reducible refine thenQ.n ?_ | with_reducible refine blockQ.n ?_)
      refine Safe.exit ?_
      repeat (first | with_reducible refine thenQ.e ?_ | with_reducible refine blockQ.x rfl ?_ | with_reducible refine blockQ.y rfl ?_)
      replace h := inr_out h hr2871
      repeat (first | refine Safe.seq ?_ | refine Safe.skip ?_ | with_reducible refine thenQ.n ?_ | with_reducible refine blockQ.n ?_)
      refine Safe.region ?_
      refine SafeOps.quiet0 E_good rfl rfl rfl (v := V.int .i64 0) (.fn rfl) ?_
      refine SafeOps.nil ?_
      repeat (first | refine Safe.seq ?_ | refine Safe.skip ?_ | with_reducible refine thenQ.n ?_ | with_reducible refine blockQ.n ?_)
      refine Safe.ret ?_
      repeat (first | with_reducible refine thenQ.r ?_ | with_reducible refine blockQ.r ?_)
      obtain rfl := Option.some.inj h
      exact retQ.gen (vs := [V.int .i64 0]) rfl (.tmp (v := V.int .i64 0) rfl .nil) (.free rfl) (by simp) (.inr rfl)

def go_ravelref10_New (a0_2897 : Int) : api_Sem × Int :=
  if ((decide (a0_2897 < 0)) || (decide (a0_2897 > 1000))) = true then
    (api_Sem.zero, 1)
  else
    ((api_Sem.mk a0_2897 []), 0)

theorem go_ravelref10_New_sc (a0_2897 : Int) (r : api_Sem × Int) (h : go_ravelref10_New a0_2897 = r) : SC Try.prog gl 44 [V.int .i64 a0_2897] (V.tup [V.agg [V.int .i64 r.1.Free, V.own 1 (rws (fun n => [V.int .i64 n]) r.1.Wait)], V.int .i64 r.2]) := by
  rw [go_ravelref10_New] at h
  refine SC.of E_good Try.func44 rfl (fun _ _ => Try.call44 _ _) rfl ?_
  repeat (first | refine Safe.seq ?_ | refine Safe.skip ?_ | with_reducible refine thenQ.n ?_ | with_reducible refine blockQ.n ?_)
  refine Safe.region ?_
  refine SafeOps.quiet1 E_good rfl rfl rfl (.alloc rfl rfl) rfl ?_
  refine SafeOps.quiet0 E_good rfl rfl rfl (v := V.int .i64 0) (.fn rfl) ?_
  refine SafeOps.nil ?_
  repeat (first | refine Safe.seq ?_ | refine Safe.skip ?_ | with_reducible refine thenQ.n ?_ | with_reducible refine blockQ.n ?_)
  refine Safe.region ?_
  refine SafeOps.quiet0 E_good rfl rfl rfl (v := V.int .i64 a0_2897) (.fn rfl) ?_
  refine SafeOps.quiet0 E_good rfl rfl rfl (v := V.bool (decide (a0_2897 < 0))) (.fn rfl) ?_
  refine SafeOps.quiet0 E_good rfl rfl rfl (v := V.bool (decide (a0_2897 < 0))) (.fn rfl) ?_
  refine SafeOps.bjoin 3 9 (b := ((decide (a0_2897 < 0)) || (decide (a0_2897 > 1000)))) (b1 := true) (b0 := decide (a0_2897 > 1000)) (fun hc2900 K => ?_) (fun hc2900 K => ?_) bj_or ?_
  · skip
    refine SafeOps.skip (congrArg (fun b => some (!b)) hc2900) rfl rfl ?_
    refine SafeOps.skip (congrArg (fun b => some (!b)) hc2900) rfl rfl ?_
    refine SafeOps.quiet0 E_good rfl rfl rfl (v := V.bool true) (.pickK rfl hc2900 rfl) ?_
    exact SafeOps.drop' 3 rfl rfl rfl K
  · skip
    refine SafeOps.quiet0 E_good (congrArg (fun b => some (!b)) hc2900) rfl rfl (v := V.int .i64 a0_2897) (.fn rfl) ?_
    refine SafeOps.quiet0 E_good (congrArg (fun b => some (!b)) hc2900) rfl rfl (v := V.bool (decide (a0_2897 > 1000))) (.fn rfl) ?_
    refine SafeOps.quiet0 E_good rfl rfl rfl (v := V.bool (decide (a0_2897 > 1000))) (.pickK rfl hc2900 rfl) ?_
    exact SafeOps.drop' 3 rfl rfl rfl K
  refine SafeOps.nil ?_
  repeat (first | refine Safe.seq ?_ | refine Safe.skip ?_ | with_reducible refine thenQ.n ?_ | with_reducible refine blockQ.n ?_)
  refine ifG h (fun hc2901 h => ?_) (fun hc2901 h => ?_)
  · skip
    refine Safe.condK rfl hc2901 ?_
    repeat (first | refine Safe.seq ?_ | refine Safe.skip ?_ | with_reducible refine thenQ.n ?_ | with_reducible refine blockQ.n ?_)
    refine Safe.region ?_
    refine SafeOps.quiet0 E_good rfl rfl rfl (v := V.agg [V.int .i64 0, V.nils]) (.fn rfl) ?_
    refine SafeOps.store (z := Obj.box [V.int .i64 0, V.nils]) E_good rfl rfl rfl rfl rfl rfl rfl (.boxM (c := 2) rfl rfl (Nat.le_of_ble_eq_true rfl) rfl) ?_
    refine SafeOps.quiet0 E_good rfl rfl rfl (v := V.int .i64 1) (.fn rfl) ?_
    refine SafeOps.nil ?_
    repeat (first | refine Safe.seq ?_ | refine Safe.skip ?_ | with_reducible refine thenQ.n ?_ | with_reducible refine blockQ.n ?_)
    refine Safe.ret ?_
    repeat (first | with_reducible refine thenQ.r ?_ | with_reducible refine blockQ.r ?_)
    obtain rfl := h
    exact retQ.gen (vs := [V.agg [V.int .i64 0, V.nils], V.int .i64 1]) rfl (.cell (v := V.agg [V.int .i64 0, V.nils]) rfl rfl (.box rfl rfl) rfl (.tmp (v := V.int .i64 1) rfl .nil)) (by exact (.tup (.cons (.agg (.cons (.free rfl) (.cons (.nils _) .nil))) (.cons (.free rfl) .nil)))) (by simp) (.inr rfl)
  · skip
    refine Safe.condN rfl hc2901 ?_
    repeat (first | refine Safe.seq ?_ | refine Safe.skip ?_ | with_reducible refine thenQ.n ?_ | with_reducible refine blockQ.n ?_)
    refine Safe.region ?_
    refine SafeOps.quiet0 E_good rfl rfl rfl (v := V.int .i64 a0_2897) (.fn rfl) ?_
    refine SafeOps.quiet0 E_good rfl rfl rfl (v := V.agg [V.int .i64 a0_2897, V.nils]) (.fn rfl) ?_
    refine SafeOps.store (z := Obj.box [V.int .i64 a0_2897, V.nils]) E_good rfl rfl rfl rfl rfl rfl rfl (.boxM (c := 2) rfl rfl (Nat.le_of_ble_eq_true rfl) rfl) ?_
    refine SafeOps.quiet0 E_good rfl rfl rfl (v := V.int .i64 0) (.fn rfl) ?_
    refine SafeOps.nil ?_
    repeat (first | refine Safe.seq ?_ | refine Safe.skip ?_ | with_reducible refine thenQ.n ?_ | with_reducible refine blockQ.n ?_)
    refine Safe.ret ?_
    repeat (first | with_reducible refine thenQ.r ?_ | with_reducible refine blockQ.r ?_)
    obtain rfl := h
    exact retQ.gen (vs := [V.agg [V.int .i64 a0_2897, V.nils], V.int .i64 0]) rfl (.cell (v := V.agg [V.int .i64 a0_2897, V.nils]) rfl rfl (.box rfl rfl) rfl (.tmp (v := V.int .i64 0) rfl .nil)) (by exact (.tup (.cons (.agg (.cons (.free rfl) (.cons (.nils _) .nil))) (.cons (.free rfl) .nil)))) (by simp) (.inr rfl)

noncomputable def go_ravelref19_Config_s6 (a0_2317 : api_Config) (v88_3132 : Int) : (Int) → Option ((Int) ⊕ ((Int) ⊕ (Int)))
  | v94_3151 =>
    if (decide (v94_3151 < ((gt a0_2317.Progs v88_3132).length : Int))) = true then
      if 0 ≤ v94_3151 ∧ v94_3151 < ((gt a0_2317.Progs v88_3132).length : Int) then
        if (((((gt (gt a0_2317.Progs v88_3132) v94_3151).Op) == 5) && (decide (((gt (gt a0_2317.Progs v88_3132) v94_3151).A) ≥ a0_2317.Fds))) || (((((gt (gt a0_2317.Progs v88_3132) v94_3151).Op) == 7) || (((gt (gt a0_2317.Progs v88_3132) v94_3151).Op) == 8)) && (decide (((gt (gt a0_2317.Progs v88_3132) v94_3151).A) ≥ (a0_2317.Sems.length : Int))))) = true then
          inrO (
            inrO (
              some 1))
        else
          nextO (IntKind.i64.wrap (v94_3151 + 1))
      else none
    else
      inrO (
        nextO (IntKind.i64.wrap (v88_3132 + 1)))

noncomputable def go_ravelref19_Config_s5 (a0_2317 : api_Config) : (Int) → Option ((Int) ⊕ (Int))
  | v88_3132 =>
    if (decide (v88_3132 < (a0_2317.Progs.length : Int))) = true then
      if 0 ≤ v88_3132 ∧ v88_3132 < (a0_2317.Progs.length : Int) then
        whileO (go_ravelref19_Config_s6 a0_2317 v88_3132) 0
      else none
    else
      inrO (
        some 0)

noncomputable def go_ravelref19_Config_s2 (a0_2317 : api_Config) : (Int) → Option ((Int) ⊕ (Int))
  | v73_3071 =>
    if (decide (v73_3071 < (a0_2317.Sems.length : Int))) = true then
      if 0 ≤ v73_3071 ∧ v73_3071 < (a0_2317.Sems.length : Int) then
        letO (go_ravelref10_New (gt a0_2317.Sems v73_3071)) fun (x_3075, x_3076) =>
        if (x_3076 != 0) = true then
          inrO (
            some 1)
        else
          nextO (IntKind.i64.wrap (v73_3071 + 1))
      else none
    else
      inrO (
        whileO (go_ravelref19_Config_s5 a0_2317) 0)

noncomputable def go_ravelref19_Config (a0_2317 : api_Config) : Option Int :=
  if (((((((!(go_ravelref19_in a0_2317.Workers 1 64)) || (!(go_ravelref19_in a0_2317.Cap 1 1024))) || (decide ((IntKind.i64.wrap (a0_2317.Workers * (IntKind.i64.wrap (a0_2317.Cap + 2)))) > 65536))) || (!(go_ravelref19_in a0_2317.Budget 1 100))) || (!(go_ravelref19_in a0_2317.Tasks 1 256))) || (!(go_ravelref19_in a0_2317.Fds 0 16))) || (decide ((a0_2317.Sems.length : Int) > 8))) = true then
    some 1
  else
    (go_ravelref14_New a0_2317.Weights a0_2317.Quotas).bind fun (x_3030, x_3031) =>
    if (x_3031 != 0) = true then
      some 1
    else
      (go_ravelref04_CheckAll a0_2317.Progs).bind fun x_3034 =>
      if (x_3034 != 0) = true then
        some 1
      else
        whileO (go_ravelref19_Config_s2 a0_2317) 0

theorem go_ravelref19_Config_sc (a0_2317 : api_Config) (r : Int) (h : go_ravelref19_Config a0_2317 = some r) : SC Try.prog gl 22 [V.agg [V.int .i64 a0_2317.Workers, V.int .i64 a0_2317.Cap, V.int .i64 a0_2317.Budget, V.sl 1 (rws (fun n => [V.int .i64 n]) a0_2317.Weights), V.sl 1 (rws (fun n => [V.int .i64 n]) a0_2317.Quotas), V.sl 1 (rws (fun l => [V.sl 3 (rws api_Instr.cells l)]) a0_2317.Progs), V.int .i64 a0_2317.Tasks, V.int .i64 a0_2317.Fds, V.sl 1 (rws (fun n => [V.int .i64 n]) a0_2317.Sems)]] (V.int .i64 r) := by
  rw [go_ravelref19_Config] at h
  refine SC.of E_good Try.func22 rfl (fun _ _ => Try.call22 _ _) rfl ?_
  repeat (first | refine Safe.seq ?_ | refine Safe.skip ?_ | with_reducible refine thenQ.n ?_ | with_reducible refine blockQ.n ?_)
  refine Safe.region ?_
  refine SafeOps.quiet1 E_good rfl rfl rfl (.box rfl rfl) rfl ?_
  refine SafeOps.quiet0 E_good rfl rfl rfl (v := V.int .i64 0) (.fn rfl) ?_
  refine SafeOps.nil ?_
  repeat (first | refine Safe.seq ?_ | refine Safe.skip ?_ | with_reducible refine thenQ.n ?_ | with_reducible refine blockQ.n ?_)
  refine Safe.region ?_
  refine SafeOps.quiet0 E_good rfl rfl rfl (v := V.ptr [1] 0 0) (.fn rfl) ?_
  refine SafeOps.quiet0 E_good rfl rfl rfl (v := V.int .i64 a0_2317.Workers) (.load rfl rfl (.box rfl rfl) rfl) ?_
  refine SafeOps.quiet0 E_good rfl rfl rfl (v := V.bool (go_ravelref19_in a0_2317.Workers 1 64)) (.callP rfl rfl (go_ravelref19_in_sc a0_2317.Workers 1 64 _ rfl) rfl) ?_
  refine SafeOps.quiet0 E_good rfl rfl rfl (v := V.bool (!(go_ravelref19_in a0_2317.Workers 1 64))) (.fn rfl) ?_
  refine SafeOps.quiet0 E_good rfl rfl rfl (v := V.bool (!(go_ravelref19_in a0_2317.Workers 1 64))) (.fn rfl) ?_
  refine SafeOps.bjoin 5 22 (b := ((!(go_ravelref19_in a0_2317.Workers 1 64)) || (!(go_ravelref19_in a0_2317.Cap 1 1024)))) (b1 := true) (b0 := (!(go_ravelref19_in a0_2317.Cap 1 1024))) (fun hc3023 K => ?_) (fun hc3023 K => ?_) bj_or ?_
  · skip
    refine SafeOps.skip (congrArg (fun b => some (!b)) hc3023) rfl rfl ?_
    refine SafeOps.skip (congrArg (fun b => some (!b)) hc3023) rfl rfl ?_
    refine SafeOps.skip (congrArg (fun b => some (!b)) hc3023) rfl rfl ?_
    refine SafeOps.skip (congrArg (fun b => some (!b)) hc3023) rfl rfl ?_
    refine SafeOps.quiet0 E_good rfl rfl rfl (v := V.bool true) (.pickK rfl hc3023 rfl) ?_
    exact SafeOps.drop' 5 rfl rfl rfl K
  · skip
    refine SafeOps.quiet0 E_good (congrArg (fun b => some (!b)) hc3023) rfl rfl (v := V.ptr [1] 0 1) (.fn rfl) ?_
    refine SafeOps.quiet0 E_good (congrArg (fun b => some (!b)) hc3023) rfl rfl (v := V.int .i64 a0_2317.Cap) (.load rfl rfl (.box rfl rfl) rfl) ?_
    refine SafeOps.quiet0 E_good (congrArg (fun b => some (!b)) hc3023) rfl rfl (v := V.bool (go_ravelref19_in a0_2317.Cap 1 1024)) (.callP rfl rfl (go_ravelref19_in_sc a0_2317.Cap 1 1024 _ rfl) rfl) ?_
    refine SafeOps.quiet0 E_good (congrArg (fun b => some (!b)) hc3023) rfl rfl (v := V.bool (!(go_ravelref19_in a0_2317.Cap 1 1024))) (.fn rfl) ?_
    refine SafeOps.quiet0 E_good rfl rfl rfl (v := V.bool (!(go_ravelref19_in a0_2317.Cap 1 1024))) (.pickK rfl hc3023 rfl) ?_
    exact SafeOps.drop' 5 rfl rfl rfl K
  refine SafeOps.quiet0 E_good rfl rfl rfl (v := V.bool ((!(go_ravelref19_in a0_2317.Workers 1 64)) || (!(go_ravelref19_in a0_2317.Cap 1 1024)))) (.fn rfl) ?_
  refine SafeOps.bjoin 8 31 (b := (((!(go_ravelref19_in a0_2317.Workers 1 64)) || (!(go_ravelref19_in a0_2317.Cap 1 1024))) || (decide ((IntKind.i64.wrap (a0_2317.Workers * (IntKind.i64.wrap (a0_2317.Cap + 2)))) > 65536)))) (b1 := true) (b0 := decide ((IntKind.i64.wrap (a0_2317.Workers * (IntKind.i64.wrap (a0_2317.Cap + 2)))) > 65536)) (fun hc3024 K => ?_) (fun hc3024 K => ?_) bj_or ?_
  · skip
    refine SafeOps.skip (congrArg (fun b => some (!b)) hc3024) rfl rfl ?_
    refine SafeOps.skip (congrArg (fun b => some (!b)) hc3024) rfl rfl ?_
    refine SafeOps.skip (congrArg (fun b => some (!b)) hc3024) rfl rfl ?_
    refine SafeOps.skip (congrArg (fun b => some (!b)) hc3024) rfl rfl ?_
    refine SafeOps.skip (congrArg (fun b => some (!b)) hc3024) rfl rfl ?_
    refine SafeOps.skip (congrArg (fun b => some (!b)) hc3024) rfl rfl ?_
    refine SafeOps.skip (congrArg (fun b => some (!b)) hc3024) rfl rfl ?_
    refine SafeOps.quiet0 E_good rfl rfl rfl (v := V.bool true) (.pickK rfl hc3024 rfl) ?_
    exact SafeOps.drop' 8 rfl rfl rfl K
  · skip
    refine SafeOps.quiet0 E_good (congrArg (fun b => some (!b)) hc3024) rfl rfl (v := V.ptr [1] 0 0) (.fn rfl) ?_
    refine SafeOps.quiet0 E_good (congrArg (fun b => some (!b)) hc3024) rfl rfl (v := V.int .i64 a0_2317.Workers) (.load rfl rfl (.box rfl rfl) rfl) ?_
    refine SafeOps.quiet0 E_good (congrArg (fun b => some (!b)) hc3024) rfl rfl (v := V.ptr [1] 0 1) (.fn rfl) ?_
    refine SafeOps.quiet0 E_good (congrArg (fun b => some (!b)) hc3024) rfl rfl (v := V.int .i64 a0_2317.Cap) (.load rfl rfl (.box rfl rfl) rfl) ?_
    refine SafeOps.quiet0 E_good (congrArg (fun b => some (!b)) hc3024) rfl rfl (v := V.int .i64 (IntKind.i64.wrap (a0_2317.Cap + 2))) (.fn rfl) ?_
    refine SafeOps.quiet0 E_good (congrArg (fun b => some (!b)) hc3024) rfl rfl (v := V.int .i64 (IntKind.i64.wrap (a0_2317.Workers * (IntKind.i64.wrap (a0_2317.Cap + 2))))) (.fn rfl) ?_
    refine SafeOps.quiet0 E_good (congrArg (fun b => some (!b)) hc3024) rfl rfl (v := V.bool (decide ((IntKind.i64.wrap (a0_2317.Workers * (IntKind.i64.wrap (a0_2317.Cap + 2)))) > 65536))) (.fn rfl) ?_
    refine SafeOps.quiet0 E_good rfl rfl rfl (v := V.bool (decide ((IntKind.i64.wrap (a0_2317.Workers * (IntKind.i64.wrap (a0_2317.Cap + 2)))) > 65536))) (.pickK rfl hc3024 rfl) ?_
    exact SafeOps.drop' 8 rfl rfl rfl K
  refine SafeOps.quiet0 E_good rfl rfl rfl (v := V.bool (((!(go_ravelref19_in a0_2317.Workers 1 64)) || (!(go_ravelref19_in a0_2317.Cap 1 1024))) || (decide ((IntKind.i64.wrap (a0_2317.Workers * (IntKind.i64.wrap (a0_2317.Cap + 2)))) > 65536)))) (.fn rfl) ?_
  refine SafeOps.bjoin 5 37 (b := ((((!(go_ravelref19_in a0_2317.Workers 1 64)) || (!(go_ravelref19_in a0_2317.Cap 1 1024))) || (decide ((IntKind.i64.wrap (a0_2317.Workers * (IntKind.i64.wrap (a0_2317.Cap + 2)))) > 65536))) || (!(go_ravelref19_in a0_2317.Budget 1 100)))) (b1 := true) (b0 := (!(go_ravelref19_in a0_2317.Budget 1 100))) (fun hc3025 K => ?_) (fun hc3025 K => ?_) bj_or ?_
  · skip
    refine SafeOps.skip (congrArg (fun b => some (!b)) hc3025) rfl rfl ?_
    refine SafeOps.skip (congrArg (fun b => some (!b)) hc3025) rfl rfl ?_
    refine SafeOps.skip (congrArg (fun b => some (!b)) hc3025) rfl rfl ?_
    refine SafeOps.skip (congrArg (fun b => some (!b)) hc3025) rfl rfl ?_
    refine SafeOps.quiet0 E_good rfl rfl rfl (v := V.bool true) (.pickK rfl hc3025 rfl) ?_
    exact SafeOps.drop' 5 rfl rfl rfl K
  · skip
    refine SafeOps.quiet0 E_good (congrArg (fun b => some (!b)) hc3025) rfl rfl (v := V.ptr [1] 0 2) (.fn rfl) ?_
    refine SafeOps.quiet0 E_good (congrArg (fun b => some (!b)) hc3025) rfl rfl (v := V.int .i64 a0_2317.Budget) (.load rfl rfl (.box rfl rfl) rfl) ?_
    refine SafeOps.quiet0 E_good (congrArg (fun b => some (!b)) hc3025) rfl rfl (v := V.bool (go_ravelref19_in a0_2317.Budget 1 100)) (.callP rfl rfl (go_ravelref19_in_sc a0_2317.Budget 1 100 _ rfl) rfl) ?_
    refine SafeOps.quiet0 E_good (congrArg (fun b => some (!b)) hc3025) rfl rfl (v := V.bool (!(go_ravelref19_in a0_2317.Budget 1 100))) (.fn rfl) ?_
    refine SafeOps.quiet0 E_good rfl rfl rfl (v := V.bool (!(go_ravelref19_in a0_2317.Budget 1 100))) (.pickK rfl hc3025 rfl) ?_
    exact SafeOps.drop' 5 rfl rfl rfl K
  refine SafeOps.quiet0 E_good rfl rfl rfl (v := V.bool ((((!(go_ravelref19_in a0_2317.Workers 1 64)) || (!(go_ravelref19_in a0_2317.Cap 1 1024))) || (decide ((IntKind.i64.wrap (a0_2317.Workers * (IntKind.i64.wrap (a0_2317.Cap + 2)))) > 65536))) || (!(go_ravelref19_in a0_2317.Budget 1 100)))) (.fn rfl) ?_
  refine SafeOps.bjoin 5 43 (b := (((((!(go_ravelref19_in a0_2317.Workers 1 64)) || (!(go_ravelref19_in a0_2317.Cap 1 1024))) || (decide ((IntKind.i64.wrap (a0_2317.Workers * (IntKind.i64.wrap (a0_2317.Cap + 2)))) > 65536))) || (!(go_ravelref19_in a0_2317.Budget 1 100))) || (!(go_ravelref19_in a0_2317.Tasks 1 256)))) (b1 := true) (b0 := (!(go_ravelref19_in a0_2317.Tasks 1 256))) (fun hc3026 K => ?_) (fun hc3026 K => ?_) bj_or ?_
  · skip
    refine SafeOps.skip (congrArg (fun b => some (!b)) hc3026) rfl rfl ?_
    refine SafeOps.skip (congrArg (fun b => some (!b)) hc3026) rfl rfl ?_
    refine SafeOps.skip (congrArg (fun b => some (!b)) hc3026) rfl rfl ?_
    refine SafeOps.skip (congrArg (fun b => some (!b)) hc3026) rfl rfl ?_
    refine SafeOps.quiet0 E_good rfl rfl rfl (v := V.bool true) (.pickK rfl hc3026 rfl) ?_
    exact SafeOps.drop' 5 rfl rfl rfl K
  · skip
    refine SafeOps.quiet0 E_good (congrArg (fun b => some (!b)) hc3026) rfl rfl (v := V.ptr [1] 0 6) (.fn rfl) ?_
    refine SafeOps.quiet0 E_good (congrArg (fun b => some (!b)) hc3026) rfl rfl (v := V.int .i64 a0_2317.Tasks) (.load rfl rfl (.box rfl rfl) rfl) ?_
    refine SafeOps.quiet0 E_good (congrArg (fun b => some (!b)) hc3026) rfl rfl (v := V.bool (go_ravelref19_in a0_2317.Tasks 1 256)) (.callP rfl rfl (go_ravelref19_in_sc a0_2317.Tasks 1 256 _ rfl) rfl) ?_
    refine SafeOps.quiet0 E_good (congrArg (fun b => some (!b)) hc3026) rfl rfl (v := V.bool (!(go_ravelref19_in a0_2317.Tasks 1 256))) (.fn rfl) ?_
    refine SafeOps.quiet0 E_good rfl rfl rfl (v := V.bool (!(go_ravelref19_in a0_2317.Tasks 1 256))) (.pickK rfl hc3026 rfl) ?_
    exact SafeOps.drop' 5 rfl rfl rfl K
  refine SafeOps.quiet0 E_good rfl rfl rfl (v := V.bool (((((!(go_ravelref19_in a0_2317.Workers 1 64)) || (!(go_ravelref19_in a0_2317.Cap 1 1024))) || (decide ((IntKind.i64.wrap (a0_2317.Workers * (IntKind.i64.wrap (a0_2317.Cap + 2)))) > 65536))) || (!(go_ravelref19_in a0_2317.Budget 1 100))) || (!(go_ravelref19_in a0_2317.Tasks 1 256)))) (.fn rfl) ?_
  refine SafeOps.bjoin 5 49 (b := ((((((!(go_ravelref19_in a0_2317.Workers 1 64)) || (!(go_ravelref19_in a0_2317.Cap 1 1024))) || (decide ((IntKind.i64.wrap (a0_2317.Workers * (IntKind.i64.wrap (a0_2317.Cap + 2)))) > 65536))) || (!(go_ravelref19_in a0_2317.Budget 1 100))) || (!(go_ravelref19_in a0_2317.Tasks 1 256))) || (!(go_ravelref19_in a0_2317.Fds 0 16)))) (b1 := true) (b0 := (!(go_ravelref19_in a0_2317.Fds 0 16))) (fun hc3027 K => ?_) (fun hc3027 K => ?_) bj_or ?_
  · skip
    refine SafeOps.skip (congrArg (fun b => some (!b)) hc3027) rfl rfl ?_
    refine SafeOps.skip (congrArg (fun b => some (!b)) hc3027) rfl rfl ?_
    refine SafeOps.skip (congrArg (fun b => some (!b)) hc3027) rfl rfl ?_
    refine SafeOps.skip (congrArg (fun b => some (!b)) hc3027) rfl rfl ?_
    refine SafeOps.quiet0 E_good rfl rfl rfl (v := V.bool true) (.pickK rfl hc3027 rfl) ?_
    exact SafeOps.drop' 5 rfl rfl rfl K
  · skip
    refine SafeOps.quiet0 E_good (congrArg (fun b => some (!b)) hc3027) rfl rfl (v := V.ptr [1] 0 7) (.fn rfl) ?_
    refine SafeOps.quiet0 E_good (congrArg (fun b => some (!b)) hc3027) rfl rfl (v := V.int .i64 a0_2317.Fds) (.load rfl rfl (.box rfl rfl) rfl) ?_
    refine SafeOps.quiet0 E_good (congrArg (fun b => some (!b)) hc3027) rfl rfl (v := V.bool (go_ravelref19_in a0_2317.Fds 0 16)) (.callP rfl rfl (go_ravelref19_in_sc a0_2317.Fds 0 16 _ rfl) rfl) ?_
    refine SafeOps.quiet0 E_good (congrArg (fun b => some (!b)) hc3027) rfl rfl (v := V.bool (!(go_ravelref19_in a0_2317.Fds 0 16))) (.fn rfl) ?_
    refine SafeOps.quiet0 E_good rfl rfl rfl (v := V.bool (!(go_ravelref19_in a0_2317.Fds 0 16))) (.pickK rfl hc3027 rfl) ?_
    exact SafeOps.drop' 5 rfl rfl rfl K
  refine SafeOps.quiet0 E_good rfl rfl rfl (v := V.bool ((((((!(go_ravelref19_in a0_2317.Workers 1 64)) || (!(go_ravelref19_in a0_2317.Cap 1 1024))) || (decide ((IntKind.i64.wrap (a0_2317.Workers * (IntKind.i64.wrap (a0_2317.Cap + 2)))) > 65536))) || (!(go_ravelref19_in a0_2317.Budget 1 100))) || (!(go_ravelref19_in a0_2317.Tasks 1 256))) || (!(go_ravelref19_in a0_2317.Fds 0 16)))) (.fn rfl) ?_
  refine SafeOps.bjoin 5 55 (b := (((((((!(go_ravelref19_in a0_2317.Workers 1 64)) || (!(go_ravelref19_in a0_2317.Cap 1 1024))) || (decide ((IntKind.i64.wrap (a0_2317.Workers * (IntKind.i64.wrap (a0_2317.Cap + 2)))) > 65536))) || (!(go_ravelref19_in a0_2317.Budget 1 100))) || (!(go_ravelref19_in a0_2317.Tasks 1 256))) || (!(go_ravelref19_in a0_2317.Fds 0 16))) || (decide ((a0_2317.Sems.length : Int) > 8)))) (b1 := true) (b0 := decide ((a0_2317.Sems.length : Int) > 8)) (fun hc3028 K => ?_) (fun hc3028 K => ?_) bj_or ?_
  · skip
    refine SafeOps.skip (congrArg (fun b => some (!b)) hc3028) rfl rfl ?_
    refine SafeOps.skip (congrArg (fun b => some (!b)) hc3028) rfl rfl ?_
    refine SafeOps.skip (congrArg (fun b => some (!b)) hc3028) rfl rfl ?_
    refine SafeOps.skip (congrArg (fun b => some (!b)) hc3028) rfl rfl ?_
    refine SafeOps.quiet0 E_good rfl rfl rfl (v := V.bool true) (.pickK rfl hc3028 rfl) ?_
    exact SafeOps.drop' 5 rfl rfl rfl K
  · skip
    refine SafeOps.quiet0 E_good (congrArg (fun b => some (!b)) hc3028) rfl rfl (v := V.ptr [1] 0 8) (.fn rfl) ?_
    refine SafeOps.quiet0 E_good (congrArg (fun b => some (!b)) hc3028) rfl rfl (v := V.sl 1 (rws (fun n => [V.int .i64 n]) a0_2317.Sems)) (.load rfl rfl (.box rfl rfl) rfl) ?_
    refine SafeOps.quiet0 E_good (congrArg (fun b => some (!b)) hc3028) rfl rfl (v := V.int .i64 (a0_2317.Sems.length : Int)) (.fnE rfl lenE) ?_
    refine SafeOps.quiet0 E_good (congrArg (fun b => some (!b)) hc3028) rfl rfl (v := V.bool (decide ((a0_2317.Sems.length : Int) > 8))) (.fn rfl) ?_
    refine SafeOps.quiet0 E_good rfl rfl rfl (v := V.bool (decide ((a0_2317.Sems.length : Int) > 8))) (.pickK rfl hc3028 rfl) ?_
    exact SafeOps.drop' 5 rfl rfl rfl K
  refine SafeOps.nil ?_
  repeat (first | refine Safe.seq ?_ | refine Safe.skip ?_ | with_reducible refine thenQ.n ?_ | with_reducible refine blockQ.n ?_)
  refine ifG h (fun hc3029 h => ?_) (fun hc3029 h => ?_)
  · skip
    refine Safe.condK rfl hc3029 ?_
    repeat (first | refine Safe.seq ?_ | refine Safe.skip ?_ | with_reducible refine thenQ.n ?_ | with_reducible refine blockQ.n ?_)
    refine Safe.region ?_
    refine SafeOps.quiet0 E_good rfl rfl rfl (v := V.int .i64 1) (.fn rfl) ?_
    refine SafeOps.nil ?_
    repeat (first | refine Safe.seq ?_ | refine Safe.skip ?_ | with_reducible refine thenQ.n ?_ | with_reducible refine blockQ.n ?_)
    refine Safe.ret ?_
    repeat (first | with_reducible refine thenQ.r ?_ | with_reducible refine blockQ.r ?_)
    obtain rfl := Option.some.inj h
    exact retQ.gen (vs := [V.int .i64 1]) rfl (.tmp (v := V.int .i64 1) rfl .nil) (.free rfl) (by simp) (.inr rfl)
  · skip
    refine Safe.condN rfl hc3029 ?_
    repeat (first | refine Safe.seq ?_ | refine Safe.skip ?_ | with_reducible refine thenQ.n ?_ | with_reducible refine blockQ.n ?_)
    refine Safe.region ?_
    refine SafeOps.quiet0 E_good rfl rfl rfl (v := V.ptr [1] 0 3) (.fn rfl) ?_
    refine SafeOps.quiet0 E_good rfl rfl rfl (v := V.sl 1 (rws (fun n => [V.int .i64 n]) a0_2317.Weights)) (.load rfl rfl (.box rfl rfl) rfl) ?_
    refine SafeOps.quiet0 E_good rfl rfl rfl (v := V.ptr [1] 0 4) (.fn rfl) ?_
    refine SafeOps.quiet0 E_good rfl rfl rfl (v := V.sl 1 (rws (fun n => [V.int .i64 n]) a0_2317.Quotas)) (.load rfl rfl (.box rfl rfl) rfl) ?_
    refine bindG h ?_
    rintro ⟨x_3030, x_3031⟩ he3032 h
    refine SafeOps.quiet E_good rfl rfl rfl (v := V.tup [V.ref [61, 0] 0 (rws api_Tenant.cells x_3030).length, V.int .i64 x_3031]) (.callP rfl rfl (go_ravelref14_New_sc a0_2317.Weights a0_2317.Quotas _ he3032) rfl) rfl ?_
    refine SafeOps.quiet0 E_good rfl rfl rfl (v := V.tup [V.ref [61, 0] 0 (rws api_Tenant.cells x_3030).length, V.int .i64 x_3031]) (.fn rfl) ?_
    refine SafeOps.quiet0 E_good rfl rfl rfl (v := V.ref [61, 0] 0 (rws api_Tenant.cells x_3030).length) (.fn rfl) ?_
    refine SafeOps.quiet0 E_good rfl rfl rfl (v := V.int .i64 x_3031) (.fn rfl) ?_
    refine SafeOps.quiet0 E_good rfl rfl rfl (v := V.ref [61, 0] 0 (rws api_Tenant.cells x_3030).length) (.fn rfl) ?_
    refine SafeOps.quiet0 E_good rfl rfl rfl (v := V.int .i64 x_3031) (.fn rfl) ?_
    refine SafeOps.nil ?_
    repeat (first | refine Safe.seq ?_ | refine Safe.skip ?_ | with_reducible refine thenQ.n ?_ | with_reducible refine blockQ.n ?_)
    refine Safe.region ?_
    refine SafeOps.quiet0 E_good rfl rfl rfl (v := V.int .i64 x_3031) (.fn rfl) ?_
    refine SafeOps.quiet0 E_good rfl rfl rfl (v := V.bool (x_3031 != 0)) (.fn rfl) ?_
    refine SafeOps.nil ?_
    repeat (first | refine Safe.seq ?_ | refine Safe.skip ?_ | with_reducible refine thenQ.n ?_ | with_reducible refine blockQ.n ?_)
    refine ifG h (fun hc3033 h => ?_) (fun hc3033 h => ?_)
    · skip
      refine Safe.condK rfl hc3033 ?_
      repeat (first | refine Safe.seq ?_ | refine Safe.skip ?_ | with_reducible refine thenQ.n ?_ | with_reducible refine blockQ.n ?_)
      refine Safe.region ?_
      refine SafeOps.quiet0 E_good rfl rfl rfl (v := V.int .i64 1) (.fn rfl) ?_
      refine SafeOps.nil ?_
      repeat (first | refine Safe.seq ?_ | refine Safe.skip ?_ | with_reducible refine thenQ.n ?_ | with_reducible refine blockQ.n ?_)
      refine Safe.ret ?_
      repeat (first | with_reducible refine thenQ.r ?_ | with_reducible refine blockQ.r ?_)
      obtain rfl := Option.some.inj h
      exact retQ.gen (vs := [V.int .i64 1]) rfl (.tmp (v := V.int .i64 1) rfl .nil) (.free rfl) (by simp) (.inr rfl)
    · skip
      refine Safe.condN rfl hc3033 ?_
      repeat (first | refine Safe.seq ?_ | refine Safe.skip ?_ | with_reducible refine thenQ.n ?_ | with_reducible refine blockQ.n ?_)
      refine Safe.region ?_
      refine SafeOps.quiet0 E_good rfl rfl rfl (v := V.ptr [1] 0 5) (.fn rfl) ?_
      refine SafeOps.quiet0 E_good rfl rfl rfl (v := V.sl 1 (rws (fun l => [V.sl 3 (rws api_Instr.cells l)]) a0_2317.Progs)) (.load rfl rfl (.box rfl rfl) rfl) ?_
      refine bindG h ?_
      intro x_3034 he3035 h
      refine SafeOps.quiet0 E_good rfl rfl rfl (v := V.int .i64 x_3034) (.callP rfl rfl (go_ravelref04_CheckAll_sc a0_2317.Progs _ he3035) rfl) ?_
      refine SafeOps.quiet0 E_good rfl rfl rfl (v := V.bool (x_3034 != 0)) (.fn rfl) ?_
      refine SafeOps.nil ?_
      repeat (first | refine Safe.seq ?_ | refine Safe.skip ?_ | with_reducible refine thenQ.n ?_ | with_reducible refine blockQ.n ?_)
      refine ifG h (fun hc3036 h => ?_) (fun hc3036 h => ?_)
      · skip
        refine Safe.condK rfl hc3036 ?_
        repeat (first | refine Safe.seq ?_ | refine Safe.skip ?_ | with_reducible refine thenQ.n ?_ | with_reducible refine blockQ.n ?_)
        refine Safe.region ?_
        refine SafeOps.quiet0 E_good rfl rfl rfl (v := V.int .i64 1) (.fn rfl) ?_
        refine SafeOps.nil ?_
        repeat (first | refine Safe.seq ?_ | refine Safe.skip ?_ | with_reducible refine thenQ.n ?_ | with_reducible refine blockQ.n ?_)
        refine Safe.ret ?_
        repeat (first | with_reducible refine thenQ.r ?_ | with_reducible refine blockQ.r ?_)
        obtain rfl := Option.some.inj h
        exact retQ.gen (vs := [V.int .i64 1]) rfl (.tmp (v := V.int .i64 1) rfl .nil) (.free rfl) (by simp) (.inr rfl)
      · skip
        refine Safe.condN rfl hc3036 ?_
        repeat (first | refine Safe.seq ?_ | refine Safe.skip ?_ | with_reducible refine thenQ.n ?_ | with_reducible refine blockQ.n ?_)
        refine Safe.region ?_
        refine SafeOps.quiet0 E_good rfl rfl rfl (v := V.ptr [1] 0 8) (.fn rfl) ?_
        refine SafeOps.quiet0 E_good rfl rfl rfl (v := V.sl 1 (rws (fun n => [V.int .i64 n]) a0_2317.Sems)) (.load rfl rfl (.box rfl rfl) rfl) ?_
        refine SafeOps.quiet0 E_good rfl rfl rfl (v := V.int .i64 (a0_2317.Sems.length : Int)) (.fnE rfl lenE) ?_
        refine SafeOps.quiet0 E_good rfl rfl rfl (v := V.int .i64 0) (.fn rfl) ?_
        refine SafeOps.nil ?_
        repeat (first | refine Safe.seq ?_ | refine Safe.skip ?_ | with_reducible refine thenQ.n ?_ | with_reducible refine blockQ.n ?_)
        refine Safe.block ?_
        repeat (first | refine Safe.seq ?_ | refine Safe.skip ?_ | with_reducible refine thenQ.n ?_ | with_reducible refine blockQ.n ?_)
        refine Safe.loopW (fun (v73_3071 : Int) => ⟨Try.f22.ntmps, [(1, V.ptr [1] 0 0), (71, V.sl 1 (rws (fun n => [V.int .i64 n]) a0_2317.Sems)), (72, V.int .i64 (a0_2317.Sems.length : Int)), (73, V.int .i64 v73_3071)], [([1], Obj.box [V.int .i64 a0_2317.Workers, V.int .i64 a0_2317.Cap, V.int .i64 a0_2317.Budget, V.sl 1 (rws (fun n => [V.int .i64 n]) a0_2317.Weights), V.sl 1 (rws (fun n => [V.int .i64 n]) a0_2317.Quotas), V.sl 1 (rws (fun l => [V.sl 3 (rws api_Instr.cells l)]) a0_2317.Progs), V.int .i64 a0_2317.Tasks, V.int .i64 a0_2317.Fds, V.sl 1 (rws (fun n => [V.int .i64 n]) a0_2317.Sems)])], [], []⟩) h (.cov ⟨rfl, rfl, (upT_cons (.refl _) (upT_cons (.refl _) (upT_cons (.refl _) (upT_cons (.refl _) upT_nil)))), (upOb_cons rfl (.refl _) upOb_nil), upOut_nil, rfl⟩) ?_
        intro v73_3071 ohr3072 h hr3072
        replace h : go_ravelref19_Config_s2 a0_2317 v73_3071 = some ohr3072 := h
        rw [go_ravelref19_Config_s2] at h
        repeat (first | refine Safe.seq ?_ | refine Safe.skip ?_ | with_reducible refine thenQ.n ?_ | with_reducible refine blockQ.n ?_)
        refine Safe.region ?_
        refine SafeOps.quiet0 E_good rfl rfl rfl (v := V.bool (decide (v73_3071 < (a0_2317.Sems.length : Int)))) (.fn rfl) ?_
        refine SafeOps.nil ?_
        repeat (first | refine Safe.seq ?_ | refine Safe.skip ?_ | with_reducible refine thenQ.n ?_ | with_reducible refine blockQ.n ?_)
        refine ifG h (fun hc3073 h => ?_) (fun hc3073 h => ?_)
        · skip
          refine Safe.condK rfl hc3073 ?_
          repeat (first | refine Safe.seq ?_ | refine Safe.skip ?_ | with_reducible refine thenQ.n ?_ | with_reducible refine blockQ.n ?_)
          refine Safe.block ?_
          repeat (first | refine Safe.seq ?_ | refine Safe.skip ?_ | with_reducible refine thenQ.n ?_ | with_reducible refine blockQ.n ?_)
          refine Safe.region ?_
          refine okG h (fun hb3074 h => ?_)
          refine SafeOps.quiet0 E_good rfl rfl rfl (v := V.spt 1 (rws (fun n => [V.int .i64 n]) a0_2317.Sems) (Int.toNat v73_3071) 0) (.idxSlM (f := (fun n => [V.int .i64 n])) rfl rfl rfl rfl rfl hb3074) ?_
          refine SafeOps.quiet0 E_good rfl rfl rfl (v := V.int .i64 (gt a0_2317.Sems v73_3071)) (.load rfl rfl (.sptM (f := (fun n => [V.int .i64 n])) hb3074 rfl) rfl) ?_
          refine SafeOps.quiet0 E_good rfl rfl rfl (v := V.int .i64 (gt a0_2317.Sems v73_3071)) (.fn rfl) ?_
          refine SafeOps.nil ?_
          repeat (first | refine Safe.seq ?_ | refine Safe.skip ?_ | with_reducible refine thenQ.n ?_ | with_reducible refine blockQ.n ?_)
          refine Safe.region ?_
          refine SafeOps.quiet0 E_good rfl rfl rfl (v := V.int .i64 (gt a0_2317.Sems v73_3071)) (.fn rfl) ?_
          refine letG h ?_
          rintro ⟨x_3075, x_3076⟩ he3077 h
          refine SafeOps.quiet E_good rfl rfl rfl (v := V.tup [V.agg [V.int .i64 x_3075.Free, V.ref [79, 0] 0 (rws (fun n => [V.int .i64 n]) x_3075.Wait).length], V.int .i64 x_3076]) (.callP rfl rfl (go_ravelref10_New_sc (gt a0_2317.Sems v73_3071) _ he3077) rfl) rfl ?_
          refine SafeOps.quiet0 E_good rfl rfl rfl (v := V.tup [V.agg [V.int .i64 x_3075.Free, V.ref [79, 0] 0 (rws (fun n => [V.int .i64 n]) x_3075.Wait).length], V.int .i64 x_3076]) (.fn rfl) ?_
          refine SafeOps.quiet0 E_good rfl rfl rfl (v := V.agg [V.int .i64 x_3075.Free, V.ref [79, 0] 0 (rws (fun n => [V.int .i64 n]) x_3075.Wait).length]) (.fn rfl) ?_
          refine SafeOps.quiet0 E_good rfl rfl rfl (v := V.int .i64 x_3076) (.fn rfl) ?_
          refine SafeOps.quiet1 E_good rfl rfl rfl (.alloc rfl rfl) rfl ?_
          refine SafeOps.store (z := Obj.box [V.int .i64 x_3075.Free, V.ref [79, 0] 0 (rws (fun n => [V.int .i64 n]) x_3075.Wait).length]) E_good rfl rfl rfl rfl rfl rfl rfl (.boxM (c := 2) rfl rfl (Nat.le_of_ble_eq_true rfl) rfl) ?_
          refine SafeOps.quiet0 E_good rfl rfl rfl (v := V.int .i64 x_3076) (.fn rfl) ?_
          refine SafeOps.nil ?_
          repeat (first | refine Safe.seq ?_ | refine Safe.skip ?_ | with_reducible refine thenQ.n ?_ | with_reducible refine blockQ.n ?_)
          refine Safe.region ?_
          refine SafeOps.quiet0 E_good rfl rfl rfl (v := V.int .i64 x_3076) (.fn rfl) ?_
          refine SafeOps.quiet0 E_good rfl rfl rfl (v := V.bool (x_3076 != 0)) (.fn rfl) ?_
          refine SafeOps.nil ?_
          repeat (first | refine Safe.seq ?_ | refine Safe.skip ?_ | with_reducible refine thenQ.n ?_ | with_reducible refine blockQ.n ?_)
          refine ifG h (fun hc3078 h => ?_) (fun hc3078 h => ?_)
          · skip
            refine Safe.condK rfl hc3078 ?_
            repeat (first | refine Safe.seq ?_ | refine Safe.skip ?_ | with_reducible refine thenQ.n ?_ | with_reducible refine blockQ.n ?_)
            refine Safe.region ?_
            refine SafeOps.quiet0 E_good rfl rfl rfl (v := V.int .i64 1) (.fn rfl) ?_
            refine SafeOps.nil ?_
            repeat (first | refine Safe.seq ?_ | refine Safe.skip ?_ | with_reducible refine thenQ.n ?_ | with_reducible refine blockQ.n ?_)
            refine Safe.ret ?_
            repeat (first | with_reducible refine thenQ.r ?_ | with_reducible refine blockQ.r ?_)
            replace h := inr_out h hr3072
            obtain rfl := Option.some.inj h
            exact retQ.gen (vs := [V.int .i64 1]) rfl (.tmp (v := V.int .i64 1) rfl .nil) (.free rfl) (by simp) (.inr rfl)
          · skip
            refine Safe.condN rfl hc3078 ?_
            repeat (first | refine Safe.seq ?_ | refine Safe.skip ?_ | with_reducible refine thenQ.n ?_ | with_reducible refine blockQ.n ?_)
            refine Safe.region ?_
            refine SafeOps.quiet0 E_good rfl rfl rfl (v := V.int .i64 (IntKind.i64.wrap (v73_3071 + 1))) (.fn rfl) ?_
            refine SafeOps.quiet0 E_good rfl rfl rfl (v := V.int .i64 (IntKind.i64.wrap (v73_3071 + 1))) (.fn rfl) ?_
            refine SafeOps.nil ?_
            repeat (first | refine Safe.seq ?_ | refine Safe.skip ?_ | with_reducible refine thenQ.n ?_ | with_reducible refine blockQ.n ?_)
            exact ⟨_, next_out h, (.cov ⟨rfl, rfl, (upT_cons (.refl _) (upT_cons (.refl _) (upT_cons (.refl _) (upT_cons (.refl _) upT_nil)))), (upOb_cons rfl (.refl _) upOb_nil), upOut_nil, rfl⟩)⟩
        · skip
          refine Safe.condN rfl hc3073 ?_
          repeat (first | refine Safe.seq ?_ | refine Safe.skip ?_ | with_reducible refine thenQ.n ?_ | with_reducible refine blockQ.n ?_)
          refine Safe.exit ?_
          repeat (first | with_reducible refine thenQ.e ?_ | with_reducible refine blockQ.x rfl ?_ | with_reducible refine blockQ.y rfl ?_)
          replace h := inr_out h hr3072
          repeat (first | refine Safe.seq ?_ | refine Safe.skip ?_ | with_reducible refine thenQ.n ?_ | with_reducible refine blockQ.n ?_)
          refine Safe.region ?_
          refine SafeOps.quiet0 E_good rfl rfl rfl (v := V.ptr [1] 0 5) (.fn rfl) ?_
          refine SafeOps.quiet0 E_good rfl rfl rfl (v := V.sl 1 (rws (fun l => [V.sl 3 (rws api_Instr.cells l)]) a0_2317.Progs)) (.load rfl rfl (.box rfl rfl) rfl) ?_
          refine SafeOps.quiet0 E_good rfl rfl rfl (v := V.int .i64 (a0_2317.Progs.length : Int)) (.fnE rfl lenE) ?_
          refine SafeOps.quiet0 E_good rfl rfl rfl (v := V.int .i64 0) (.fn rfl) ?_
          refine SafeOps.nil ?_
          repeat (first | refine Safe.seq ?_ | refine Safe.skip ?_ | with_reducible refine thenQ.n ?_ | with_reducible refine blockQ.n ?_)
          refine Safe.block ?_
          repeat (first | refine Safe.seq ?_ | refine Safe.skip ?_ | with_reducible refine thenQ.n ?_ | with_reducible refine blockQ.n ?_)
          refine Safe.loopW (fun (v88_3132 : Int) => ⟨Try.f22.ntmps, [(1, V.ptr [1] 0 0), (86, V.sl 1 (rws (fun l => [V.sl 3 (rws api_Instr.cells l)]) a0_2317.Progs)), (87, V.int .i64 (a0_2317.Progs.length : Int)), (88, V.int .i64 v88_3132)], [([1], Obj.box [V.int .i64 a0_2317.Workers, V.int .i64 a0_2317.Cap, V.int .i64 a0_2317.Budget, V.sl 1 (rws (fun n => [V.int .i64 n]) a0_2317.Weights), V.sl 1 (rws (fun n => [V.int .i64 n]) a0_2317.Quotas), V.sl 1 (rws (fun l => [V.sl 3 (rws api_Instr.cells l)]) a0_2317.Progs), V.int .i64 a0_2317.Tasks, V.int .i64 a0_2317.Fds, V.sl 1 (rws (fun n => [V.int .i64 n]) a0_2317.Sems)])], [], []⟩) h (.cov ⟨rfl, rfl, (upT_cons (.refl _) (upT_cons (.refl _) (upT_cons (.refl _) (upT_cons (.refl _) upT_nil)))), (upOb_cons rfl (.refl _) upOb_nil), upOut_nil, rfl⟩) ?_
          intro v88_3132 ohr3133 h hr3133
          replace h : go_ravelref19_Config_s5 a0_2317 v88_3132 = some ohr3133 := h
          rw [go_ravelref19_Config_s5] at h
          repeat (first | refine Safe.seq ?_ | refine Safe.skip ?_ | with_reducible refine thenQ.n ?_ | with_reducible refine blockQ.n ?_)
          refine Safe.region ?_
          refine SafeOps.quiet0 E_good rfl rfl rfl (v := V.bool (decide (v88_3132 < (a0_2317.Progs.length : Int)))) (.fn rfl) ?_
          refine SafeOps.nil ?_
          repeat (first | refine Safe.seq ?_ | refine Safe.skip ?_ | with_reducible refine thenQ.n ?_ | with_reducible refine blockQ.n ?_)
          refine ifG h (fun hc3134 h => ?_) (fun hc3134 h => ?_)
          · skip
            refine Safe.condK rfl hc3134 ?_
            repeat (first | refine Safe.seq ?_ | refine Safe.skip ?_ | with_reducible refine thenQ.n ?_ | with_reducible refine blockQ.n ?_)
            refine Safe.block ?_
            repeat (first | refine Safe.seq ?_ | refine Safe.skip ?_ | with_reducible refine thenQ.n ?_ | with_reducible refine blockQ.n ?_)
            refine Safe.region ?_
            refine okG h (fun hb3135 h => ?_)
            refine SafeOps.quiet0 E_good rfl rfl rfl (v := V.spt 1 (rws (fun l => [V.sl 3 (rws api_Instr.cells l)]) a0_2317.Progs) (Int.toNat v88_3132) 0) (.idxSlM (f := (fun l => [V.sl 3 (rws api_Instr.cells l)])) rfl rfl rfl rfl rfl hb3135) ?_
            refine SafeOps.quiet0 E_good rfl rfl rfl (v := V.sl 3 (rws api_Instr.cells (gt a0_2317.Progs v88_3132))) (.load rfl rfl (.sptM (f := (fun l => [V.sl 3 (rws api_Instr.cells l)])) hb3135 rfl) rfl) ?_
            refine SafeOps.quiet0 E_good rfl rfl rfl (v := V.sl 3 (rws api_Instr.cells (gt a0_2317.Progs v88_3132))) (.fn rfl) ?_
            refine SafeOps.nil ?_
            repeat (first | refine Safe.seq ?_ | refine Safe.skip ?_ | with_reducible refine thenQ.n ?_ | with_reducible refine blockQ.n ?_)
            refine Safe.region ?_
            refine SafeOps.quiet0 E_good rfl rfl rfl (v := V.sl 3 (rws api_Instr.cells (gt a0_2317.Progs v88_3132))) (.fn rfl) ?_
            refine SafeOps.quiet0 E_good rfl rfl rfl (v := V.int .i64 ((gt a0_2317.Progs v88_3132).length : Int)) (.fnE rfl lenE) ?_
            refine SafeOps.quiet0 E_good rfl rfl rfl (v := V.int .i64 0) (.fn rfl) ?_
            refine SafeOps.nil ?_
            repeat (first | refine Safe.seq ?_ | refine Safe.skip ?_ | with_reducible refine thenQ.n ?_ | with_reducible refine blockQ.n ?_)
            refine Safe.block ?_
            repeat (first | refine Safe.seq ?_ | refine Safe.skip ?_ | with_reducible refine thenQ.n ?_ | with_reducible refine blockQ.n ?_)
            refine Safe.loopW (fun (v94_3151 : Int) => ⟨Try.f22.ntmps, [(1, V.ptr [1] 0 0), (86, V.sl 1 (rws (fun l => [V.sl 3 (rws api_Instr.cells l)]) a0_2317.Progs)), (87, V.int .i64 (a0_2317.Progs.length : Int)), (88, V.int .i64 v88_3132), (92, V.sl 3 (rws api_Instr.cells (gt a0_2317.Progs v88_3132))), (93, V.int .i64 ((gt a0_2317.Progs v88_3132).length : Int)), (94, V.int .i64 v94_3151)], [([1], Obj.box [V.int .i64 a0_2317.Workers, V.int .i64 a0_2317.Cap, V.int .i64 a0_2317.Budget, V.sl 1 (rws (fun n => [V.int .i64 n]) a0_2317.Weights), V.sl 1 (rws (fun n => [V.int .i64 n]) a0_2317.Quotas), V.sl 1 (rws (fun l => [V.sl 3 (rws api_Instr.cells l)]) a0_2317.Progs), V.int .i64 a0_2317.Tasks, V.int .i64 a0_2317.Fds, V.sl 1 (rws (fun n => [V.int .i64 n]) a0_2317.Sems)])], [], []⟩) h (.cov ⟨rfl, rfl, (upT_cons (.refl _) (upT_cons (.refl _) (upT_cons (.refl _) (upT_cons (.refl _) (upT_cons (.refl _) (upT_cons (.refl _) (upT_cons (.refl _) upT_nil))))))), (upOb_cons rfl (.refl _) upOb_nil), upOut_nil, rfl⟩) ?_
            intro v94_3151 ohr3152 h hr3152
            replace h : go_ravelref19_Config_s6 a0_2317 v88_3132 v94_3151 = some ohr3152 := h
            rw [go_ravelref19_Config_s6] at h
            repeat (first | refine Safe.seq ?_ | refine Safe.skip ?_ | with_reducible refine thenQ.n ?_ | with_reducible refine blockQ.n ?_)
            refine Safe.region ?_
            refine SafeOps.quiet0 E_good rfl rfl rfl (v := V.bool (decide (v94_3151 < ((gt a0_2317.Progs v88_3132).length : Int)))) (.fn rfl) ?_
            refine SafeOps.nil ?_
            repeat (first | refine Safe.seq ?_ | refine Safe.skip ?_ | with_reducible refine thenQ.n ?_ | with_reducible refine blockQ.n ?_)
            refine ifG h (fun hc3153 h => ?_) (fun hc3153 h => ?_)
            · skip
              refine Safe.condK rfl hc3153 ?_
              repeat (first | refine Safe.seq ?_ | refine Safe.skip ?_ | with_reducible refine thenQ.n ?_ | with_reducible refine blockQ.n ?_)
              refine Safe.block ?_
              repeat (first | refine Safe.seq ?_ | refine Safe.skip ?_ | with_reducible refine thenQ.n ?_ | with_reducible refine blockQ.n ?_)
              refine Safe.region ?_
              refine okG h (fun hb3154 h => ?_)
              refine SafeOps.quiet0 E_good rfl rfl rfl (v := V.spt 3 (rws api_Instr.cells (gt a0_2317.Progs v88_3132)) (Int.toNat v94_3151) 0) (.idxSlM (f := api_Instr.cells) rfl rfl rfl rfl rfl hb3154) ?_
              refine SafeOps.quiet0 E_good rfl rfl rfl (v := V.agg [V.int .i64 ((gt (gt a0_2317.Progs v88_3132) v94_3151).Op), V.int .i64 ((gt (gt a0_2317.Progs v88_3132) v94_3151).A), V.int .i64 ((gt (gt a0_2317.Progs v88_3132) v94_3151).B)]) (.load rfl rfl (.sptM (f := api_Instr.cells) hb3154 rfl) rfl) ?_
              refine SafeOps.quiet1 E_good rfl rfl rfl (.alloc rfl rfl) rfl ?_
              refine SafeOps.store (z := Obj.box [V.int .i64 ((gt (gt a0_2317.Progs v88_3132) v94_3151).Op), V.int .i64 ((gt (gt a0_2317.Progs v88_3132) v94_3151).A), V.int .i64 ((gt (gt a0_2317.Progs v88_3132) v94_3151).B)]) E_good rfl rfl rfl rfl rfl rfl rfl (.boxM (c := 3) rfl rfl (Nat.le_of_ble_eq_true rfl) rfl) ?_
              refine SafeOps.nil ?_
              repeat (first | refine Safe.seq ?_ | refine Safe.skip ?_ | with_reducible refine thenQ.n ?_ | with_reducible refine blockQ.n ?_)
              refine Safe.region ?_
              refine SafeOps.quiet0 E_good rfl rfl rfl (v := V.ptr [12] 0 0) (.fn rfl) ?_
              refine SafeOps.quiet0 E_good rfl rfl rfl (v := V.int .i64 ((gt (gt a0_2317.Progs v88_3132) v94_3151).Op)) (.load rfl rfl (.box rfl rfl) rfl) ?_
              refine SafeOps.quiet0 E_good rfl rfl rfl (v := V.bool (((gt (gt a0_2317.Progs v88_3132) v94_3151).Op) == 5)) (.fn rfl) ?_
              refine SafeOps.quiet0 E_good rfl rfl rfl (v := V.bool (((gt (gt a0_2317.Progs v88_3132) v94_3151).Op) == 5)) (.fn rfl) ?_
              refine SafeOps.bjoin 6 107 (b := ((((gt (gt a0_2317.Progs v88_3132) v94_3151).Op) == 5) && (decide (((gt (gt a0_2317.Progs v88_3132) v94_3151).A) ≥ a0_2317.Fds)))) (b1 := decide (((gt (gt a0_2317.Progs v88_3132) v94_3151).A) ≥ a0_2317.Fds)) (b0 := false) (fun hc3155 K => ?_) (fun hc3155 K => ?_) bj_and ?_
              · skip
                refine SafeOps.quiet0 E_good (congrArg some hc3155) rfl rfl (v := V.ptr [12] 0 1) (.fn rfl) ?_
                refine SafeOps.quiet0 E_good (congrArg some hc3155) rfl rfl (v := V.int .i64 ((gt (gt a0_2317.Progs v88_3132) v94_3151).A)) (.load rfl rfl (.box rfl rfl) rfl) ?_
                refine SafeOps.quiet0 E_good (congrArg some hc3155) rfl rfl (v := V.ptr [1] 0 7) (.fn rfl) ?_
                refine SafeOps.quiet0 E_good (congrArg some hc3155) rfl rfl (v := V.int .i64 a0_2317.Fds) (.load rfl rfl (.box rfl rfl) rfl) ?_
                refine SafeOps.quiet0 E_good (congrArg some hc3155) rfl rfl (v := V.bool (decide (((gt (gt a0_2317.Progs v88_3132) v94_3151).A) ≥ a0_2317.Fds))) (.fn rfl) ?_
                refine SafeOps.quiet0 E_good rfl rfl rfl (v := V.bool (decide (((gt (gt a0_2317.Progs v88_3132) v94_3151).A) ≥ a0_2317.Fds))) (.pickK rfl hc3155 rfl) ?_
                exact SafeOps.drop' 6 rfl rfl rfl K
              · skip
                refine SafeOps.skip (congrArg some hc3155) rfl rfl ?_
                refine SafeOps.skip (congrArg some hc3155) rfl rfl ?_
                refine SafeOps.skip (congrArg some hc3155) rfl rfl ?_
                refine SafeOps.skip (congrArg some hc3155) rfl rfl ?_
                refine SafeOps.skip (congrArg some hc3155) rfl rfl ?_
                refine SafeOps.quiet0 E_good rfl rfl rfl (v := V.bool false) (.pickK rfl hc3155 rfl) ?_
                exact SafeOps.drop' 6 rfl rfl rfl K
              refine SafeOps.quiet0 E_good rfl rfl rfl (v := V.bool ((((gt (gt a0_2317.Progs v88_3132) v94_3151).Op) == 5) && (decide (((gt (gt a0_2317.Progs v88_3132) v94_3151).A) ≥ a0_2317.Fds)))) (.fn rfl) ?_
              refine SafeOps.bjoin 17 125 (b := (((((gt (gt a0_2317.Progs v88_3132) v94_3151).Op) == 5) && (decide (((gt (gt a0_2317.Progs v88_3132) v94_3151).A) ≥ a0_2317.Fds))) || (((((gt (gt a0_2317.Progs v88_3132) v94_3151).Op) == 7) || (((gt (gt a0_2317.Progs v88_3132) v94_3151).Op) == 8)) && (decide (((gt (gt a0_2317.Progs v88_3132) v94_3151).A) ≥ (a0_2317.Sems.length : Int)))))) (b1 := true) (b0 := (((((gt (gt a0_2317.Progs v88_3132) v94_3151).Op) == 7) || (((gt (gt a0_2317.Progs v88_3132) v94_3151).Op) == 8)) && (decide (((gt (gt a0_2317.Progs v88_3132) v94_3151).A) ≥ (a0_2317.Sems.length : Int))))) (fun hc3156 K => ?_) (fun hc3156 K => ?_) bj_or ?_
              · skip
                refine SafeOps.skip (congrArg (fun b => some (!b)) hc3156) rfl rfl ?_
                refine SafeOps.skip (congrArg (fun b => some (!b)) hc3156) rfl rfl ?_
                refine SafeOps.skip (congrArg (fun b => some (!b)) hc3156) rfl rfl ?_
                refine SafeOps.skip (congrArg (fun b => some (!b)) hc3156) rfl rfl ?_
                refine SafeOps.skip rfl rfl rfl ?_
                refine SafeOps.skip rfl rfl rfl ?_
                refine SafeOps.skip rfl rfl rfl ?_
                refine SafeOps.skip (congrArg (fun b => some (!b)) hc3156) rfl rfl ?_
                refine SafeOps.skip (congrArg (fun b => some (!b)) hc3156) rfl rfl ?_
                refine SafeOps.skip rfl rfl rfl ?_
                refine SafeOps.skip rfl rfl rfl ?_
                refine SafeOps.skip rfl rfl rfl ?_
                refine SafeOps.skip rfl rfl rfl ?_
                refine SafeOps.skip rfl rfl rfl ?_
                refine SafeOps.skip rfl rfl rfl ?_
                refine SafeOps.skip (congrArg (fun b => some (!b)) hc3156) rfl rfl ?_
                refine SafeOps.quiet0 E_good rfl rfl rfl (v := V.bool true) (.pickK rfl hc3156 rfl) ?_
                exact SafeOps.drop' 17 rfl rfl rfl K
              · skip
                refine SafeOps.quiet0 E_good (congrArg (fun b => some (!b)) hc3156) rfl rfl (v := V.ptr [12] 0 0) (.fn rfl) ?_
                refine SafeOps.quiet0 E_good (congrArg (fun b => some (!b)) hc3156) rfl rfl (v := V.int .i64 ((gt (gt a0_2317.Progs v88_3132) v94_3151).Op)) (.load rfl rfl (.box rfl rfl) rfl) ?_
                refine SafeOps.quiet0 E_good (congrArg (fun b => some (!b)) hc3156) rfl rfl (v := V.bool (((gt (gt a0_2317.Progs v88_3132) v94_3151).Op) == 7)) (.fn rfl) ?_
                refine SafeOps.quiet0 E_good (congrArg (fun b => some (!b)) hc3156) rfl rfl (v := V.bool (((gt (gt a0_2317.Progs v88_3132) v94_3151).Op) == 7)) (.fn rfl) ?_
                refine SafeOps.bjoin 4 116 (b := ((((gt (gt a0_2317.Progs v88_3132) v94_3151).Op) == 7) || (((gt (gt a0_2317.Progs v88_3132) v94_3151).Op) == 8))) (b1 := true) (b0 := (((gt (gt a0_2317.Progs v88_3132) v94_3151).Op) == 8)) (fun hc3157 K => ?_) (fun hc3157 K => ?_) bj_or ?_
                · skip
                  refine SafeOps.skip (congrArg (fun b => some (!b)) hc3157) rfl rfl ?_
                  refine SafeOps.skip (congrArg (fun b => some (!b)) hc3157) rfl rfl ?_
                  refine SafeOps.skip (congrArg (fun b => some (!b)) hc3157) rfl rfl ?_
                  refine SafeOps.quiet0 E_good (congrArg (fun b => some (!b)) hc3156) rfl rfl (v := V.bool true) (.pickK rfl hc3157 rfl) ?_
                  exact SafeOps.drop' 4 rfl rfl rfl K
                · skip
                  refine SafeOps.quiet0 E_good (congrArg (fun b => some (!b)) hc3157) rfl rfl (v := V.ptr [12] 0 0) (.fn rfl) ?_
                  refine SafeOps.quiet0 E_good (congrArg (fun b => some (!b)) hc3157) rfl rfl (v := V.int .i64 ((gt (gt a0_2317.Progs v88_3132) v94_3151).Op)) (.load rfl rfl (.box rfl rfl) rfl) ?_
                  refine SafeOps.quiet0 E_good (congrArg (fun b => some (!b)) hc3157) rfl rfl (v := V.bool (((gt (gt a0_2317.Progs v88_3132) v94_3151).Op) == 8)) (.fn rfl) ?_
                  refine SafeOps.quiet0 E_good (congrArg (fun b => some (!b)) hc3156) rfl rfl (v := V.bool (((gt (gt a0_2317.Progs v88_3132) v94_3151).Op) == 8)) (.pickK rfl hc3157 rfl) ?_
                  exact SafeOps.drop' 4 rfl rfl rfl K
                refine SafeOps.quiet0 E_good (congrArg (fun b => some (!b)) hc3156) rfl rfl (v := V.bool ((((gt (gt a0_2317.Progs v88_3132) v94_3151).Op) == 7) || (((gt (gt a0_2317.Progs v88_3132) v94_3151).Op) == 8))) (.fn rfl) ?_
                refine SafeOps.bjoin 7 124 (b := (((((gt (gt a0_2317.Progs v88_3132) v94_3151).Op) == 7) || (((gt (gt a0_2317.Progs v88_3132) v94_3151).Op) == 8)) && (decide (((gt (gt a0_2317.Progs v88_3132) v94_3151).A) ≥ (a0_2317.Sems.length : Int))))) (b1 := decide (((gt (gt a0_2317.Progs v88_3132) v94_3151).A) ≥ (a0_2317.Sems.length : Int))) (b0 := false) (fun hc3158 K => ?_) (fun hc3158 K => ?_) bj_and ?_
                · skip
                  refine SafeOps.quiet0 E_good (congrArg some hc3158) rfl rfl (v := V.ptr [12] 0 1) (.fn rfl) ?_
                  refine SafeOps.quiet0 E_good (congrArg some hc3158) rfl rfl (v := V.int .i64 ((gt (gt a0_2317.Progs v88_3132) v94_3151).A)) (.load rfl rfl (.box rfl rfl) rfl) ?_
                  refine SafeOps.quiet0 E_good (congrArg some hc3158) rfl rfl (v := V.ptr [1] 0 8) (.fn rfl) ?_
                  refine SafeOps.quiet0 E_good (congrArg some hc3158) rfl rfl (v := V.sl 1 (rws (fun n => [V.int .i64 n]) a0_2317.Sems)) (.load rfl rfl (.box rfl rfl) rfl) ?_
                  refine SafeOps.quiet0 E_good (congrArg some hc3158) rfl rfl (v := V.int .i64 (a0_2317.Sems.length : Int)) (.fnE rfl lenE) ?_
                  refine SafeOps.quiet0 E_good (congrArg some hc3158) rfl rfl (v := V.bool (decide (((gt (gt a0_2317.Progs v88_3132) v94_3151).A) ≥ (a0_2317.Sems.length : Int)))) (.fn rfl) ?_
                  refine SafeOps.quiet0 E_good (congrArg (fun b => some (!b)) hc3156) rfl rfl (v := V.bool (decide (((gt (gt a0_2317.Progs v88_3132) v94_3151).A) ≥ (a0_2317.Sems.length : Int)))) (.pickK rfl hc3158 rfl) ?_
                  exact SafeOps.drop' 7 rfl rfl rfl K
                · skip
                  refine SafeOps.skip (congrArg some hc3158) rfl rfl ?_
                  refine SafeOps.skip (congrArg some hc3158) rfl rfl ?_
                  refine SafeOps.skip (congrArg some hc3158) rfl rfl ?_
                  refine SafeOps.skip (congrArg some hc3158) rfl rfl ?_
                  refine SafeOps.skip (congrArg some hc3158) rfl rfl ?_
                  refine SafeOps.skip (congrArg some hc3158) rfl rfl ?_
                  refine SafeOps.quiet0 E_good (congrArg (fun b => some (!b)) hc3156) rfl rfl (v := V.bool false) (.pickK rfl hc3158 rfl) ?_
                  exact SafeOps.drop' 7 rfl rfl rfl K
                refine SafeOps.quiet0 E_good rfl rfl rfl (v := V.bool (((((gt (gt a0_2317.Progs v88_3132) v94_3151).Op) == 7) || (((gt (gt a0_2317.Progs v88_3132) v94_3151).Op) == 8)) && (decide (((gt (gt a0_2317.Progs v88_3132) v94_3151).A) ≥ (a0_2317.Sems.length : Int))))) (.pickK rfl hc3156 rfl) ?_
                exact SafeOps.drop' 8 rfl rfl rfl K
              refine SafeOps.nil ?_
              repeat (first | refine Safe.seq ?_ | refine Safe.skip ?_ | with_reducible refine thenQ.n ?_ | with_reducible refine blockQ.n ?_)
              refine ifG h (fun hc3159 h => ?_) (fun hc3159 h => ?_)
              · skip
                refine Safe.condK rfl hc3159 ?_
                repeat (first | refine Safe.seq ?_ | refine Safe.skip ?_ | with_reducible refine thenQ.n ?_ | with_reducible refine blockQ.n ?_)
                refine Safe.region ?_
                refine SafeOps.quiet0 E_good rfl rfl rfl (v := V.int .i64 1) (.fn rfl) ?_
                refine SafeOps.nil ?_
                repeat (first | refine Safe.seq ?_ | refine Safe.skip ?_ | with_reducible refine thenQ.n ?_ | with_reducible refine blockQ.n ?_)
                refine Safe.ret ?_
                repeat (first | with_reducible refine thenQ.r ?_ | with_reducible refine blockQ.r ?_)
                replace h := inr_out h hr3152
                replace h := inr_out h hr3133
                obtain rfl := Option.some.inj h
                exact retQ.gen (vs := [V.int .i64 1]) rfl (.tmp (v := V.int .i64 1) rfl .nil) (.free rfl) (by simp) (.inr rfl)
              · skip
                refine Safe.condN rfl hc3159 ?_
                repeat (first | refine Safe.seq ?_ | refine Safe.skip ?_ | with_reducible refine thenQ.n ?_ | with_reducible refine blockQ.n ?_)
                refine Safe.region ?_
                refine SafeOps.quiet0 E_good rfl rfl rfl (v := V.int .i64 (IntKind.i64.wrap (v94_3151 + 1))) (.fn rfl) ?_
                refine SafeOps.quiet0 E_good rfl rfl rfl (v := V.int .i64 (IntKind.i64.wrap (v94_3151 + 1))) (.fn rfl) ?_
                refine SafeOps.nil ?_
                repeat (first | refine Safe.seq ?_ | refine Safe.skip ?_ | with_reducible refine thenQ.n ?_ | with_reducible refine blockQ.n ?_)
                exact ⟨_, next_out h, (.cov ⟨rfl, rfl, (upT_cons (.refl _) (upT_cons (.refl _) (upT_cons (.refl _) (upT_cons (.refl _) (upT_cons (.refl _) (upT_cons (.refl _) (upT_cons (.refl _) upT_nil))))))), (upOb_cons rfl (.refl _) upOb_nil), upOut_nil, rfl⟩)⟩
            · skip
              refine Safe.condN rfl hc3153 ?_
              repeat (first | refine Safe.seq ?_ | refine Safe.skip ?_ | with_reducible refine thenQ.n ?_ | with_reducible refine blockQ.n ?_)
              refine Safe.exit ?_
              repeat (first | with_reducible refine thenQ.e ?_ | with_reducible refine blockQ.x rfl ?_ | with_reducible refine blockQ.y rfl ?_)
              replace h := inr_out h hr3152
              repeat (first | refine Safe.seq ?_ | refine Safe.skip ?_ | with_reducible refine thenQ.n ?_ | with_reducible refine blockQ.n ?_)
              refine Safe.region ?_
              refine SafeOps.quiet0 E_good rfl rfl rfl (v := V.int .i64 (IntKind.i64.wrap (v88_3132 + 1))) (.fn rfl) ?_
              refine SafeOps.quiet0 E_good rfl rfl rfl (v := V.int .i64 (IntKind.i64.wrap (v88_3132 + 1))) (.fn rfl) ?_
              refine SafeOps.nil ?_
              repeat (first | refine Safe.seq ?_ | refine Safe.skip ?_ | with_reducible refine thenQ.n ?_ | with_reducible refine blockQ.n ?_)
              exact ⟨_, next_out h, (.cov ⟨rfl, rfl, (upT_cons (.refl _) (upT_cons (.refl _) (upT_cons (.refl _) (upT_cons (.refl _) upT_nil)))), (upOb_cons rfl (.refl _) upOb_nil), upOut_nil, rfl⟩)⟩
          · skip
            refine Safe.condN rfl hc3134 ?_
            repeat (first | refine Safe.seq ?_ | refine Safe.skip ?_ | with_reducible refine thenQ.n ?_ | with_reducible refine blockQ.n ?_)
            refine Safe.exit ?_
            repeat (first | with_reducible refine thenQ.e ?_ | with_reducible refine blockQ.x rfl ?_ | with_reducible refine blockQ.y rfl ?_)
            replace h := inr_out h hr3133
            repeat (first | refine Safe.seq ?_ | refine Safe.skip ?_ | with_reducible refine thenQ.n ?_ | with_reducible refine blockQ.n ?_)
            refine Safe.region ?_
            refine SafeOps.quiet0 E_good rfl rfl rfl (v := V.int .i64 0) (.fn rfl) ?_
            refine SafeOps.nil ?_
            repeat (first | refine Safe.seq ?_ | refine Safe.skip ?_ | with_reducible refine thenQ.n ?_ | with_reducible refine blockQ.n ?_)
            refine Safe.ret ?_
            repeat (first | with_reducible refine thenQ.r ?_ | with_reducible refine blockQ.r ?_)
            obtain rfl := Option.some.inj h
            exact retQ.gen (vs := [V.int .i64 0]) rfl (.tmp (v := V.int .i64 0) rfl .nil) (.free rfl) (by simp) (.inr rfl)

noncomputable def go_slices_Equal_int_int_s1 (a0_3168 : List Int) (a1_3169 : List Int) : (Int) → Option ((Int) ⊕ (Bool))
  | v13_3198 =>
    if (decide (v13_3198 < (a0_3168.length : Int))) = true then
      if 0 ≤ v13_3198 ∧ v13_3198 < (a0_3168.length : Int) then
        if 0 ≤ v13_3198 ∧ v13_3198 < (a1_3169.length : Int) then
          if ((gt a0_3168 v13_3198) != (gt a1_3169 v13_3198)) = true then
            inrO (
              some false)
          else
            nextO (IntKind.i64.wrap (v13_3198 + 1))
        else none
      else none
    else
      inrO (
        some true)

noncomputable def go_slices_Equal_int_int (a0_3168 : List Int) (a1_3169 : List Int) : Option Bool :=
  if ((a0_3168.length : Int) != (a1_3169.length : Int)) = true then
    some false
  else
    whileO (go_slices_Equal_int_int_s1 a0_3168 a1_3169) 0

theorem go_slices_Equal_int_int_sc (a0_3168 : List Int) (a1_3169 : List Int) (r : Bool) (h : go_slices_Equal_int_int a0_3168 a1_3169 = some r) : SC Try.prog gl 45 [V.sl 1 (rws (fun n => [V.int .i64 n]) a0_3168), V.sl 1 (rws (fun n => [V.int .i64 n]) a1_3169)] (V.bool r) := by
  rw [go_slices_Equal_int_int] at h
  refine SC.of E_good Try.func45 rfl (fun _ _ => Try.call45 _ _) rfl ?_
  repeat (first | refine Safe.seq ?_ | refine Safe.skip ?_ | with_reducible refine thenQ.n ?_ | with_reducible refine blockQ.n ?_)
  refine Safe.region ?_
  refine SafeOps.quiet0 E_good rfl rfl rfl (v := V.bool false) (.fn rfl) ?_
  refine SafeOps.nil ?_
  repeat (first | refine Safe.seq ?_ | refine Safe.skip ?_ | with_reducible refine thenQ.n ?_ | with_reducible refine blockQ.n ?_)
  refine Safe.region ?_
  refine SafeOps.quiet0 E_good rfl rfl rfl (v := V.sl 1 (rws (fun n => [V.int .i64 n]) a0_3168)) (.fn rfl) ?_
  refine SafeOps.quiet0 E_good rfl rfl rfl (v := V.int .i64 (a0_3168.length : Int)) (.fnE rfl lenE) ?_
  refine SafeOps.quiet0 E_good rfl rfl rfl (v := V.sl 1 (rws (fun n => [V.int .i64 n]) a1_3169)) (.fn rfl) ?_
  refine SafeOps.quiet0 E_good rfl rfl rfl (v := V.int .i64 (a1_3169.length : Int)) (.fnE rfl lenE) ?_
  refine SafeOps.quiet0 E_good rfl rfl rfl (v := V.bool ((a0_3168.length : Int) != (a1_3169.length : Int))) (.fn rfl) ?_
  refine SafeOps.nil ?_
  repeat (first | refine Safe.seq ?_ | refine Safe.skip ?_ | with_reducible refine thenQ.n ?_ | with_reducible refine blockQ.n ?_)
  refine ifG h (fun hc3188 h => ?_) (fun hc3188 h => ?_)
  · skip
    refine Safe.condK rfl hc3188 ?_
    repeat (first | refine Safe.seq ?_ | refine Safe.skip ?_ | with_reducible refine thenQ.n ?_ | with_reducible refine blockQ.n ?_)
    refine Safe.region ?_
    refine SafeOps.quiet0 E_good rfl rfl rfl (v := V.bool false) (.fn rfl) ?_
    refine SafeOps.nil ?_
    repeat (first | refine Safe.seq ?_ | refine Safe.skip ?_ | with_reducible refine thenQ.n ?_ | with_reducible refine blockQ.n ?_)
    refine Safe.ret ?_
    repeat (first | with_reducible refine thenQ.r ?_ | with_reducible refine blockQ.r ?_)
    obtain rfl := Option.some.inj h
    exact retQ.gen (vs := [V.bool false]) rfl (.tmp (v := V.bool false) rfl .nil) (.free rfl) (by simp) (.inr rfl)
  · skip
    refine Safe.condN rfl hc3188 ?_
    repeat (first | refine Safe.seq ?_ | refine Safe.skip ?_ | with_reducible refine thenQ.n ?_ | with_reducible refine blockQ.n ?_)
    refine Safe.region ?_
    refine SafeOps.quiet0 E_good rfl rfl rfl (v := V.sl 1 (rws (fun n => [V.int .i64 n]) a0_3168)) (.fn rfl) ?_
    refine SafeOps.quiet0 E_good rfl rfl rfl (v := V.int .i64 (a0_3168.length : Int)) (.fnE rfl lenE) ?_
    refine SafeOps.quiet0 E_good rfl rfl rfl (v := V.int .i64 0) (.fn rfl) ?_
    refine SafeOps.nil ?_
    repeat (first | refine Safe.seq ?_ | refine Safe.skip ?_ | with_reducible refine thenQ.n ?_ | with_reducible refine blockQ.n ?_)
    refine Safe.block ?_
    repeat (first | refine Safe.seq ?_ | refine Safe.skip ?_ | with_reducible refine thenQ.n ?_ | with_reducible refine blockQ.n ?_)
    refine Safe.loopW (fun (v13_3198 : Int) => ⟨Try.f45.ntmps, [(0, V.sl 1 (rws (fun n => [V.int .i64 n]) a0_3168)), (1, V.sl 1 (rws (fun n => [V.int .i64 n]) a1_3169)), (12, V.int .i64 (a0_3168.length : Int)), (13, V.int .i64 v13_3198)], [], [], []⟩) h (.cov ⟨rfl, rfl, (upT_cons (.refl _) (upT_cons (.refl _) (upT_cons (.refl _) (upT_cons (.refl _) upT_nil)))), upOb_nil, upOut_nil, rfl⟩) ?_
    intro v13_3198 ohr3199 h hr3199
    replace h : go_slices_Equal_int_int_s1 a0_3168 a1_3169 v13_3198 = some ohr3199 := h
    rw [go_slices_Equal_int_int_s1] at h
    repeat (first | refine Safe.seq ?_ | refine Safe.skip ?_ | with_reducible refine thenQ.n ?_ | with_reducible refine blockQ.n ?_)
    refine Safe.region ?_
    refine SafeOps.quiet0 E_good rfl rfl rfl (v := V.bool (decide (v13_3198 < (a0_3168.length : Int)))) (.fn rfl) ?_
    refine SafeOps.nil ?_
    repeat (first | refine Safe.seq ?_ | refine Safe.skip ?_ | with_reducible refine thenQ.n ?_ | with_reducible refine blockQ.n ?_)
    refine ifG h (fun hc3200 h => ?_) (fun hc3200 h => ?_)
    · skip
      refine Safe.condK rfl hc3200 ?_
      repeat (first | refine Safe.seq ?_ | refine Safe.skip ?_ | with_reducible refine thenQ.n ?_ | with_reducible refine blockQ.n ?_)
      refine Safe.block ?_
      repeat (first | refine Safe.seq ?_ | refine Safe.skip ?_ | with_reducible refine thenQ.n ?_ | with_reducible refine blockQ.n ?_)
      refine Safe.region ?_
      refine SafeOps.quiet0 E_good rfl rfl rfl (v := V.int .i64 v13_3198) (.fn rfl) ?_
      refine SafeOps.quiet0 E_good rfl rfl rfl (v := V.int .i64 v13_3198) (.fn rfl) ?_
      refine SafeOps.nil ?_
      repeat (first | refine Safe.seq ?_ | refine Safe.skip ?_ | with_reducible refine thenQ.n ?_ | with_reducible refine blockQ.n ?_)
      refine Safe.regionD (n := 9) [] [] E_good mixed rfl ?_
      refine DAny.take (i := 0) rfl (by kernel_rfl) [] (by kernel_rfl) (by kernel_rfl) (by kernel_rfl) rfl rfl rfl (v := V.sl 1 (rws (fun n => [V.int .i64 n]) a0_3168)) (fun _ hz => (.fn rfl)) ?_
      refine DAny.take (i := 1) rfl (by kernel_rfl) [] (by kernel_rfl) (by kernel_rfl) (by kernel_rfl) rfl rfl rfl (v := V.int .i64 v13_3198) (fun _ hz => (.fn rfl)) ?_
      refine okG h (fun hb3201 h => ?_)
      refine DAny.take (i := 2) rfl (by kernel_rfl) [] (by kernel_rfl) (by kernel_rfl) (by kernel_rfl) rfl rfl rfl (v := V.spt 1 (rws (fun n => [V.int .i64 n]) a0_3168) (Int.toNat v13_3198) 0) (fun _ hz => (.idxSlM (f := (fun n => [V.int .i64 n])) rfl rfl rfl rfl rfl hb3201)) ?_
      refine DAny.take (i := 3) rfl (by kernel_rfl) [] (by kernel_rfl) (by kernel_rfl) (by kernel_rfl) rfl rfl rfl (v := V.int .i64 (gt a0_3168 v13_3198)) (fun _ hz => (.load rfl rfl (.sptM (f := (fun n => [V.int .i64 n])) hb3201 rfl) rfl)) ?_
      refine DAny.take (i := 4) rfl (by kernel_rfl) [] (by kernel_rfl) (by kernel_rfl) (by kernel_rfl) rfl rfl rfl (v := V.sl 1 (rws (fun n => [V.int .i64 n]) a1_3169)) (fun _ hz => (.fn rfl)) ?_
      refine DAny.take (i := 5) rfl (by kernel_rfl) [] (by kernel_rfl) (by kernel_rfl) (by kernel_rfl) rfl rfl rfl (v := V.int .i64 v13_3198) (fun _ hz => (.fn rfl)) ?_
      refine okG h (fun hb3202 h => ?_)
      refine DAny.take (i := 6) rfl (by kernel_rfl) [] (by kernel_rfl) (by kernel_rfl) (by kernel_rfl) rfl rfl rfl (v := V.spt 1 (rws (fun n => [V.int .i64 n]) a1_3169) (Int.toNat v13_3198) 0) (fun _ hz => (.idxSlM (f := (fun n => [V.int .i64 n])) rfl rfl rfl rfl rfl hb3202)) ?_
      refine DAny.take (i := 7) rfl (by kernel_rfl) [] (by kernel_rfl) (by kernel_rfl) (by kernel_rfl) rfl rfl rfl (v := V.int .i64 (gt a1_3169 v13_3198)) (fun _ hz => (.load rfl rfl (.sptM (f := (fun n => [V.int .i64 n])) hb3202 rfl) rfl)) ?_
      refine DAny.take (i := 8) rfl (by kernel_rfl) [] (by kernel_rfl) (by kernel_rfl) (by kernel_rfl) rfl rfl rfl (v := V.bool ((gt a0_3168 v13_3198) != (gt a1_3169 v13_3198))) (fun _ hz => (.fn rfl)) ?_
      refine DAny.nil (by kernel_rfl) ?_
      repeat (first | refine Safe.seq ?_ | refine Safe.skip ?_ | with_reducible refine thenQ.n ?_ | with_reducible refine blockQ.n ?_)
      refine ifG h (fun hc3203 h => ?_) (fun hc3203 h => ?_)
      · skip
        refine Safe.condK rfl hc3203 ?_
        repeat (first | refine Safe.seq ?_ | refine Safe.skip ?_ | with_reducible refine thenQ.n ?_ | with_reducible refine blockQ.n ?_)
        refine Safe.region ?_
        refine SafeOps.quiet0 E_good rfl rfl rfl (v := V.bool false) (.fn rfl) ?_
        refine SafeOps.nil ?_
        repeat (first | refine Safe.seq ?_ | refine Safe.skip ?_ | with_reducible refine thenQ.n ?_ | with_reducible refine blockQ.n ?_)
        refine Safe.ret ?_
        repeat (first | with_reducible refine thenQ.r ?_ | with_reducible refine blockQ.r ?_)
        replace h := inr_out h hr3199
        obtain rfl := Option.some.inj h
        exact retQ.gen (vs := [V.bool false]) rfl (.tmp (v := V.bool false) rfl .nil) (.free rfl) (by simp) (.inr rfl)
      · skip
        refine Safe.condN rfl hc3203 ?_
        repeat (first | refine Safe.seq ?_ | refine Safe.skip ?_ | with_reducible refine thenQ.n ?_ | with_reducible refine blockQ.n ?_)
        refine Safe.region ?_
        refine SafeOps.quiet0 E_good rfl rfl rfl (v := V.int .i64 (IntKind.i64.wrap (v13_3198 + 1))) (.fn rfl) ?_
        refine SafeOps.quiet0 E_good rfl rfl rfl (v := V.int .i64 (IntKind.i64.wrap (v13_3198 + 1))) (.fn rfl) ?_
        refine SafeOps.nil ?_
        repeat (first | refine Safe.seq ?_ | refine Safe.skip ?_ | with_reducible refine thenQ.n ?_ | with_reducible refine blockQ.n ?_)
        exact ⟨_, next_out h, (.cov ⟨rfl, rfl, (upT_cons (.refl _) (upT_cons (.refl _) (upT_cons (.refl _) (upT_cons (.refl _) upT_nil)))), upOb_nil, upOut_nil, rfl⟩)⟩
    · skip
      refine Safe.condN rfl hc3200 ?_
      repeat (first | refine Safe.seq ?_ | refine Safe.skip ?_ | with_reducible refine thenQ.n ?_ | with_reducible refine blockQ.n ?_)
      refine Safe.exit ?_
      repeat (first | with_reducible refine thenQ.e ?_ | with_reducible refine blockQ.x rfl ?_ | with_reducible refine blockQ.y rfl ?_)
      replace h := inr_out h hr3199
      repeat (first | refine Safe.seq ?_ | refine Safe.skip ?_ | with_reducible refine thenQ.n ?_ | with_reducible refine blockQ.n ?_)
      refine Safe.region ?_
      refine SafeOps.quiet0 E_good rfl rfl rfl (v := V.bool true) (.fn rfl) ?_
      refine SafeOps.nil ?_
      repeat (first | refine Safe.seq ?_ | refine Safe.skip ?_ | with_reducible refine thenQ.n ?_ | with_reducible refine blockQ.n ?_)
      refine Safe.ret ?_
      repeat (first | with_reducible refine thenQ.r ?_ | with_reducible refine blockQ.r ?_)
      obtain rfl := Option.some.inj h
      exact retQ.gen (vs := [V.bool true]) rfl (.tmp (v := V.bool true) rfl .nil) (.free rfl) (by simp) (.inr rfl)

theorem okT67 : (eqOk Try.prog E 20 67 && !Try.prog.eqGuardType Try.prog.depth 67) = true := by kernel_rfl

noncomputable def go_slices_Equal_api_Instr_api_Instr_s1 (a0_3220 : List api_Instr) (a1_3221 : List api_Instr) : (Int) → Option ((Int) ⊕ (Bool))
  | v13_3250 =>
    if (decide (v13_3250 < (a0_3220.length : Int))) = true then
      if 0 ≤ v13_3250 ∧ v13_3250 < (a0_3220.length : Int) then
        if 0 ≤ v13_3250 ∧ v13_3250 < (a1_3221.length : Int) then
          if (!(api_Instr.beq (gt a0_3220 v13_3250) (gt a1_3221 v13_3250))) = true then
            inrO (
              some false)
          else
            nextO (IntKind.i64.wrap (v13_3250 + 1))
        else none
      else none
    else
      inrO (
        some true)

noncomputable def go_slices_Equal_api_Instr_api_Instr (a0_3220 : List api_Instr) (a1_3221 : List api_Instr) : Option Bool :=
  if ((a0_3220.length : Int) != (a1_3221.length : Int)) = true then
    some false
  else
    whileO (go_slices_Equal_api_Instr_api_Instr_s1 a0_3220 a1_3221) 0

theorem go_slices_Equal_api_Instr_api_Instr_sc (a0_3220 : List api_Instr) (a1_3221 : List api_Instr) (r : Bool) (h : go_slices_Equal_api_Instr_api_Instr a0_3220 a1_3221 = some r) : SC Try.prog gl 60 [V.sl 3 (rws api_Instr.cells a0_3220), V.sl 3 (rws api_Instr.cells a1_3221)] (V.bool r) := by
  rw [go_slices_Equal_api_Instr_api_Instr] at h
  refine SC.of E_good Try.func60 rfl (fun _ _ => Try.call60 _ _) rfl ?_
  repeat (first | refine Safe.seq ?_ | refine Safe.skip ?_ | with_reducible refine thenQ.n ?_ | with_reducible refine blockQ.n ?_)
  refine Safe.region ?_
  refine SafeOps.quiet0 E_good rfl rfl rfl (v := V.bool false) (.fn rfl) ?_
  refine SafeOps.nil ?_
  repeat (first | refine Safe.seq ?_ | refine Safe.skip ?_ | with_reducible refine thenQ.n ?_ | with_reducible refine blockQ.n ?_)
  refine Safe.region ?_
  refine SafeOps.quiet0 E_good rfl rfl rfl (v := V.sl 3 (rws api_Instr.cells a0_3220)) (.fn rfl) ?_
  refine SafeOps.quiet0 E_good rfl rfl rfl (v := V.int .i64 (a0_3220.length : Int)) (.fnE rfl lenE) ?_
  refine SafeOps.quiet0 E_good rfl rfl rfl (v := V.sl 3 (rws api_Instr.cells a1_3221)) (.fn rfl) ?_
  refine SafeOps.quiet0 E_good rfl rfl rfl (v := V.int .i64 (a1_3221.length : Int)) (.fnE rfl lenE) ?_
  refine SafeOps.quiet0 E_good rfl rfl rfl (v := V.bool ((a0_3220.length : Int) != (a1_3221.length : Int))) (.fn rfl) ?_
  refine SafeOps.nil ?_
  repeat (first | refine Safe.seq ?_ | refine Safe.skip ?_ | with_reducible refine thenQ.n ?_ | with_reducible refine blockQ.n ?_)
  refine ifG h (fun hc3240 h => ?_) (fun hc3240 h => ?_)
  · skip
    refine Safe.condK rfl hc3240 ?_
    repeat (first | refine Safe.seq ?_ | refine Safe.skip ?_ | with_reducible refine thenQ.n ?_ | with_reducible refine blockQ.n ?_)
    refine Safe.region ?_
    refine SafeOps.quiet0 E_good rfl rfl rfl (v := V.bool false) (.fn rfl) ?_
    refine SafeOps.nil ?_
    repeat (first | refine Safe.seq ?_ | refine Safe.skip ?_ | with_reducible refine thenQ.n ?_ | with_reducible refine blockQ.n ?_)
    refine Safe.ret ?_
    repeat (first | with_reducible refine thenQ.r ?_ | with_reducible refine blockQ.r ?_)
    obtain rfl := Option.some.inj h
    exact retQ.gen (vs := [V.bool false]) rfl (.tmp (v := V.bool false) rfl .nil) (.free rfl) (by simp) (.inr rfl)
  · skip
    refine Safe.condN rfl hc3240 ?_
    repeat (first | refine Safe.seq ?_ | refine Safe.skip ?_ | with_reducible refine thenQ.n ?_ | with_reducible refine blockQ.n ?_)
    refine Safe.region ?_
    refine SafeOps.quiet0 E_good rfl rfl rfl (v := V.sl 3 (rws api_Instr.cells a0_3220)) (.fn rfl) ?_
    refine SafeOps.quiet0 E_good rfl rfl rfl (v := V.int .i64 (a0_3220.length : Int)) (.fnE rfl lenE) ?_
    refine SafeOps.quiet0 E_good rfl rfl rfl (v := V.int .i64 0) (.fn rfl) ?_
    refine SafeOps.nil ?_
    repeat (first | refine Safe.seq ?_ | refine Safe.skip ?_ | with_reducible refine thenQ.n ?_ | with_reducible refine blockQ.n ?_)
    refine Safe.block ?_
    repeat (first | refine Safe.seq ?_ | refine Safe.skip ?_ | with_reducible refine thenQ.n ?_ | with_reducible refine blockQ.n ?_)
    refine Safe.loopW (fun (v13_3250 : Int) => ⟨Try.f60.ntmps, [(0, V.sl 3 (rws api_Instr.cells a0_3220)), (1, V.sl 3 (rws api_Instr.cells a1_3221)), (12, V.int .i64 (a0_3220.length : Int)), (13, V.int .i64 v13_3250)], [], [], []⟩) h (.cov ⟨rfl, rfl, (upT_cons (.refl _) (upT_cons (.refl _) (upT_cons (.refl _) (upT_cons (.refl _) upT_nil)))), upOb_nil, upOut_nil, rfl⟩) ?_
    intro v13_3250 ohr3251 h hr3251
    replace h : go_slices_Equal_api_Instr_api_Instr_s1 a0_3220 a1_3221 v13_3250 = some ohr3251 := h
    rw [go_slices_Equal_api_Instr_api_Instr_s1] at h
    repeat (first | refine Safe.seq ?_ | refine Safe.skip ?_ | with_reducible refine thenQ.n ?_ | with_reducible refine blockQ.n ?_)
    refine Safe.region ?_
    refine SafeOps.quiet0 E_good rfl rfl rfl (v := V.bool (decide (v13_3250 < (a0_3220.length : Int)))) (.fn rfl) ?_
    refine SafeOps.nil ?_
    repeat (first | refine Safe.seq ?_ | refine Safe.skip ?_ | with_reducible refine thenQ.n ?_ | with_reducible refine blockQ.n ?_)
    refine ifG h (fun hc3252 h => ?_) (fun hc3252 h => ?_)
    · skip
      refine Safe.condK rfl hc3252 ?_
      repeat (first | refine Safe.seq ?_ | refine Safe.skip ?_ | with_reducible refine thenQ.n ?_ | with_reducible refine blockQ.n ?_)
      refine Safe.block ?_
      repeat (first | refine Safe.seq ?_ | refine Safe.skip ?_ | with_reducible refine thenQ.n ?_ | with_reducible refine blockQ.n ?_)
      refine Safe.region ?_
      refine SafeOps.quiet0 E_good rfl rfl rfl (v := V.int .i64 v13_3250) (.fn rfl) ?_
      refine SafeOps.quiet0 E_good rfl rfl rfl (v := V.int .i64 v13_3250) (.fn rfl) ?_
      refine SafeOps.nil ?_
      repeat (first | refine Safe.seq ?_ | refine Safe.skip ?_ | with_reducible refine thenQ.n ?_ | with_reducible refine blockQ.n ?_)
      refine Safe.regionD (n := 9) [] [] E_good mixed rfl ?_
      refine DAny.take (i := 0) rfl (by kernel_rfl) [] (by kernel_rfl) (by kernel_rfl) (by kernel_rfl) rfl rfl rfl (v := V.sl 3 (rws api_Instr.cells a0_3220)) (fun _ hz => (.fn rfl)) ?_
      refine DAny.take (i := 1) rfl (by kernel_rfl) [] (by kernel_rfl) (by kernel_rfl) (by kernel_rfl) rfl rfl rfl (v := V.int .i64 v13_3250) (fun _ hz => (.fn rfl)) ?_
      refine okG h (fun hb3253 h => ?_)
      refine DAny.take (i := 2) rfl (by kernel_rfl) [] (by kernel_rfl) (by kernel_rfl) (by kernel_rfl) rfl rfl rfl (v := V.spt 3 (rws api_Instr.cells a0_3220) (Int.toNat v13_3250) 0) (fun _ hz => (.idxSlM (f := api_Instr.cells) rfl rfl rfl rfl rfl hb3253)) ?_
      refine DAny.take (i := 3) rfl (by kernel_rfl) [] (by kernel_rfl) (by kernel_rfl) (by kernel_rfl) rfl rfl rfl (v := V.agg [V.int .i64 ((gt a0_3220 v13_3250).Op), V.int .i64 ((gt a0_3220 v13_3250).A), V.int .i64 ((gt a0_3220 v13_3250).B)]) (fun _ hz => (.load rfl rfl (.sptM (f := api_Instr.cells) hb3253 rfl) rfl)) ?_
      refine DAny.take (i := 4) rfl (by kernel_rfl) [] (by kernel_rfl) (by kernel_rfl) (by kernel_rfl) rfl rfl rfl (v := V.sl 3 (rws api_Instr.cells a1_3221)) (fun _ hz => (.fn rfl)) ?_
      refine DAny.take (i := 5) rfl (by kernel_rfl) [] (by kernel_rfl) (by kernel_rfl) (by kernel_rfl) rfl rfl rfl (v := V.int .i64 v13_3250) (fun _ hz => (.fn rfl)) ?_
      refine okG h (fun hb3254 h => ?_)
      refine DAny.take (i := 6) rfl (by kernel_rfl) [] (by kernel_rfl) (by kernel_rfl) (by kernel_rfl) rfl rfl rfl (v := V.spt 3 (rws api_Instr.cells a1_3221) (Int.toNat v13_3250) 0) (fun _ hz => (.idxSlM (f := api_Instr.cells) rfl rfl rfl rfl rfl hb3254)) ?_
      refine DAny.take (i := 7) rfl (by kernel_rfl) [] (by kernel_rfl) (by kernel_rfl) (by kernel_rfl) rfl rfl rfl (v := V.agg [V.int .i64 ((gt a1_3221 v13_3250).Op), V.int .i64 ((gt a1_3221 v13_3250).A), V.int .i64 ((gt a1_3221 v13_3250).B)]) (fun _ hz => (.load rfl rfl (.sptM (f := api_Instr.cells) hb3254 rfl) rfl)) ?_
      refine DAny.take (i := 8) rfl (by kernel_rfl) [] (by kernel_rfl) (by kernel_rfl) (by kernel_rfl) rfl rfl rfl (v := V.bool (!(api_Instr.beq (gt a0_3220 v13_3250) (gt a1_3221 v13_3250)))) (fun _ hz => (.neA rfl rfl rfl rfl okT67 rfl)) ?_
      refine DAny.nil (by kernel_rfl) ?_
      repeat (first | refine Safe.seq ?_ | refine Safe.skip ?_ | with_reducible refine thenQ.n ?_ | with_reducible refine blockQ.n ?_)
      refine ifG h (fun hc3255 h => ?_) (fun hc3255 h => ?_)
      · skip
        refine Safe.condK rfl hc3255 ?_
        repeat (first | refine Safe.seq ?_ | refine Safe.skip ?_ | with_reducible refine thenQ.n ?_ | with_reducible refine blockQ.n ?_)
        refine Safe.region ?_
        refine SafeOps.quiet0 E_good rfl rfl rfl (v := V.bool false) (.fn rfl) ?_
        refine SafeOps.nil ?_
        repeat (first | refine Safe.seq ?_ | refine Safe.skip ?_ | with_reducible refine thenQ.n ?_ | with_reducible refine blockQ.n ?_)
        refine Safe.ret ?_
        repeat (first | with_reducible refine thenQ.r ?_ | with_reducible refine blockQ.r ?_)
        replace h := inr_out h hr3251
        obtain rfl := Option.some.inj h
        exact retQ.gen (vs := [V.bool false]) rfl (.tmp (v := V.bool false) rfl .nil) (.free rfl) (by simp) (.inr rfl)
      · skip
        refine Safe.condN rfl hc3255 ?_
        repeat (first | refine Safe.seq ?_ | refine Safe.skip ?_ | with_reducible refine thenQ.n ?_ | with_reducible refine blockQ.n ?_)
        refine Safe.region ?_
        refine SafeOps.quiet0 E_good rfl rfl rfl (v := V.int .i64 (IntKind.i64.wrap (v13_3250 + 1))) (.fn rfl) ?_
        refine SafeOps.quiet0 E_good rfl rfl rfl (v := V.int .i64 (IntKind.i64.wrap (v13_3250 + 1))) (.fn rfl) ?_
        refine SafeOps.nil ?_
        repeat (first | refine Safe.seq ?_ | refine Safe.skip ?_ | with_reducible refine thenQ.n ?_ | with_reducible refine blockQ.n ?_)
        exact ⟨_, next_out h, (.cov ⟨rfl, rfl, (upT_cons (.refl _) (upT_cons (.refl _) (upT_cons (.refl _) (upT_cons (.refl _) upT_nil)))), upOb_nil, upOut_nil, rfl⟩)⟩
    · skip
      refine Safe.condN rfl hc3252 ?_
      repeat (first | refine Safe.seq ?_ | refine Safe.skip ?_ | with_reducible refine thenQ.n ?_ | with_reducible refine blockQ.n ?_)
      refine Safe.exit ?_
      repeat (first | with_reducible refine thenQ.e ?_ | with_reducible refine blockQ.x rfl ?_ | with_reducible refine blockQ.y rfl ?_)
      replace h := inr_out h hr3251
      repeat (first | refine Safe.seq ?_ | refine Safe.skip ?_ | with_reducible refine thenQ.n ?_ | with_reducible refine blockQ.n ?_)
      refine Safe.region ?_
      refine SafeOps.quiet0 E_good rfl rfl rfl (v := V.bool true) (.fn rfl) ?_
      refine SafeOps.nil ?_
      repeat (first | refine Safe.seq ?_ | refine Safe.skip ?_ | with_reducible refine thenQ.n ?_ | with_reducible refine blockQ.n ?_)
      refine Safe.ret ?_
      repeat (first | with_reducible refine thenQ.r ?_ | with_reducible refine blockQ.r ?_)
      obtain rfl := Option.some.inj h
      exact retQ.gen (vs := [V.bool true]) rfl (.tmp (v := V.bool true) rfl .nil) (.free rfl) (by simp) (.inr rfl)

noncomputable def go_slices_EqualFunc_api_Instr_api_Instr_api_Instr_api_Instr_Instr60_s1 (a0_3212 : List (List api_Instr)) (a1_3213 : List (List api_Instr)) : (Int) → Option ((Int) ⊕ (Bool))
  | v17_3288 =>
    if (decide (v17_3288 < (a0_3212.length : Int))) = true then
      if 0 ≤ v17_3288 ∧ v17_3288 < (a0_3212.length : Int) then
        if 0 ≤ v17_3288 ∧ v17_3288 < (a1_3213.length : Int) then
          (go_slices_Equal_api_Instr_api_Instr (gt a0_3212 v17_3288) (gt a1_3213 v17_3288)).bind fun x_3293 =>
          if (!x_3293) = true then
            inrO (
              some false)
          else
            nextO (IntKind.i64.wrap (v17_3288 + 1))
        else none
      else none
    else
      inrO (
        some true)

noncomputable def go_slices_EqualFunc_api_Instr_api_Instr_api_Instr_api_Instr_Instr60 (a0_3212 : List (List api_Instr)) (a1_3213 : List (List api_Instr)) : Option Bool :=
  if ((a0_3212.length : Int) != (a1_3213.length : Int)) = true then
    some false
  else
    whileO (go_slices_EqualFunc_api_Instr_api_Instr_api_Instr_api_Instr_Instr60_s1 a0_3212 a1_3213) 0

theorem go_slices_EqualFunc_api_Instr_api_Instr_api_Instr_api_Instr_Instr60_sc (a0_3212 : List (List api_Instr)) (a1_3213 : List (List api_Instr)) (r : Bool) (h : go_slices_EqualFunc_api_Instr_api_Instr_api_Instr_api_Instr_Instr60 a0_3212 a1_3213 = some r) : SC Try.prog gl 59 [V.sl 1 (rws (fun l => [V.sl 3 (rws api_Instr.cells l)]) a0_3212), V.sl 1 (rws (fun l => [V.sl 3 (rws api_Instr.cells l)]) a1_3213), V.fn 60 []] (V.bool r) := by
  rw [go_slices_EqualFunc_api_Instr_api_Instr_api_Instr_api_Instr_Instr60] at h
  refine SC.of E_good Try.func59 rfl (fun _ _ => Try.call59 _ _) rfl ?_
  repeat (first | refine Safe.seq ?_ | refine Safe.skip ?_ | with_reducible refine thenQ.n ?_ | with_reducible refine blockQ.n ?_)
  refine Safe.region ?_
  refine SafeOps.quiet0 E_good rfl rfl rfl (v := V.bool false) (.fn rfl) ?_
  refine SafeOps.nil ?_
  repeat (first | refine Safe.seq ?_ | refine Safe.skip ?_ | with_reducible refine thenQ.n ?_ | with_reducible refine blockQ.n ?_)
  refine Safe.region ?_
  refine SafeOps.quiet0 E_good rfl rfl rfl (v := V.sl 1 (rws (fun l => [V.sl 3 (rws api_Instr.cells l)]) a0_3212)) (.fn rfl) ?_
  refine SafeOps.quiet0 E_good rfl rfl rfl (v := V.int .i64 (a0_3212.length : Int)) (.fnE rfl lenE) ?_
  refine SafeOps.quiet0 E_good rfl rfl rfl (v := V.sl 1 (rws (fun l => [V.sl 3 (rws api_Instr.cells l)]) a1_3213)) (.fn rfl) ?_
  refine SafeOps.quiet0 E_good rfl rfl rfl (v := V.int .i64 (a1_3213.length : Int)) (.fnE rfl lenE) ?_
  refine SafeOps.quiet0 E_good rfl rfl rfl (v := V.bool ((a0_3212.length : Int) != (a1_3213.length : Int))) (.fn rfl) ?_
  refine SafeOps.nil ?_
  repeat (first | refine Safe.seq ?_ | refine Safe.skip ?_ | with_reducible refine thenQ.n ?_ | with_reducible refine blockQ.n ?_)
  refine ifG h (fun hc3274 h => ?_) (fun hc3274 h => ?_)
  · skip
    refine Safe.condK rfl hc3274 ?_
    repeat (first | refine Safe.seq ?_ | refine Safe.skip ?_ | with_reducible refine thenQ.n ?_ | with_reducible refine blockQ.n ?_)
    refine Safe.region ?_
    refine SafeOps.quiet0 E_good rfl rfl rfl (v := V.bool false) (.fn rfl) ?_
    refine SafeOps.nil ?_
    repeat (first | refine Safe.seq ?_ | refine Safe.skip ?_ | with_reducible refine thenQ.n ?_ | with_reducible refine blockQ.n ?_)
    refine Safe.ret ?_
    repeat (first | with_reducible refine thenQ.r ?_ | with_reducible refine blockQ.r ?_)
    obtain rfl := Option.some.inj h
    exact retQ.gen (vs := [V.bool false]) rfl (.tmp (v := V.bool false) rfl .nil) (.free rfl) (by simp) (.inr rfl)
  · skip
    refine Safe.condN rfl hc3274 ?_
    repeat (first | refine Safe.seq ?_ | refine Safe.skip ?_ | with_reducible refine thenQ.n ?_ | with_reducible refine blockQ.n ?_)
    refine Safe.region ?_
    refine SafeOps.quiet0 E_good rfl rfl rfl (v := V.sl 1 (rws (fun l => [V.sl 3 (rws api_Instr.cells l)]) a0_3212)) (.fn rfl) ?_
    refine SafeOps.quiet0 E_good rfl rfl rfl (v := V.int .i64 (a0_3212.length : Int)) (.fnE rfl lenE) ?_
    refine SafeOps.quiet0 E_good rfl rfl rfl (v := V.int .i64 0) (.fn rfl) ?_
    refine SafeOps.nil ?_
    repeat (first | refine Safe.seq ?_ | refine Safe.skip ?_ | with_reducible refine thenQ.n ?_ | with_reducible refine blockQ.n ?_)
    refine Safe.block ?_
    repeat (first | refine Safe.seq ?_ | refine Safe.skip ?_ | with_reducible refine thenQ.n ?_ | with_reducible refine blockQ.n ?_)
    refine Safe.loopW (fun (v17_3288 : Int) => ⟨Try.f59.ntmps, [(1, V.sl 1 (rws (fun l => [V.sl 3 (rws api_Instr.cells l)]) a1_3213)), (2, V.fn 60 []), (15, V.sl 1 (rws (fun l => [V.sl 3 (rws api_Instr.cells l)]) a0_3212)), (16, V.int .i64 (a0_3212.length : Int)), (17, V.int .i64 v17_3288)], [], [], []⟩) h (.cov ⟨rfl, rfl, (upT_cons (.refl _) (upT_cons (.refl _) (upT_cons (.refl _) (upT_cons (.refl _) (upT_cons (.refl _) upT_nil))))), upOb_nil, upOut_nil, rfl⟩) ?_
    intro v17_3288 ohr3289 h hr3289
    replace h : go_slices_EqualFunc_api_Instr_api_Instr_api_Instr_api_Instr_Instr60_s1 a0_3212 a1_3213 v17_3288 = some ohr3289 := h
    rw [go_slices_EqualFunc_api_Instr_api_Instr_api_Instr_api_Instr_Instr60_s1] at h
    repeat (first | refine Safe.seq ?_ | refine Safe.skip ?_ | with_reducible refine thenQ.n ?_ | with_reducible refine blockQ.n ?_)
    refine Safe.region ?_
    refine SafeOps.quiet0 E_good rfl rfl rfl (v := V.bool (decide (v17_3288 < (a0_3212.length : Int)))) (.fn rfl) ?_
    refine SafeOps.nil ?_
    repeat (first | refine Safe.seq ?_ | refine Safe.skip ?_ | with_reducible refine thenQ.n ?_ | with_reducible refine blockQ.n ?_)
    refine ifG h (fun hc3290 h => ?_) (fun hc3290 h => ?_)
    · skip
      refine Safe.condK rfl hc3290 ?_
      repeat (first | refine Safe.seq ?_ | refine Safe.skip ?_ | with_reducible refine thenQ.n ?_ | with_reducible refine blockQ.n ?_)
      refine Safe.block ?_
      repeat (first | refine Safe.seq ?_ | refine Safe.skip ?_ | with_reducible refine thenQ.n ?_ | with_reducible refine blockQ.n ?_)
      refine Safe.region ?_
      refine SafeOps.quiet0 E_good rfl rfl rfl (v := V.int .i64 v17_3288) (.fn rfl) ?_
      refine okG h (fun hb3291 h => ?_)
      refine SafeOps.quiet0 E_good rfl rfl rfl (v := V.spt 1 (rws (fun l => [V.sl 3 (rws api_Instr.cells l)]) a0_3212) (Int.toNat v17_3288) 0) (.idxSlM (f := (fun l => [V.sl 3 (rws api_Instr.cells l)])) rfl rfl rfl rfl rfl hb3291) ?_
      refine SafeOps.quiet0 E_good rfl rfl rfl (v := V.sl 3 (rws api_Instr.cells (gt a0_3212 v17_3288))) (.load rfl rfl (.sptM (f := (fun l => [V.sl 3 (rws api_Instr.cells l)])) hb3291 rfl) rfl) ?_
      refine SafeOps.quiet0 E_good rfl rfl rfl (v := V.int .i64 v17_3288) (.fn rfl) ?_
      refine SafeOps.quiet0 E_good rfl rfl rfl (v := V.sl 3 (rws api_Instr.cells (gt a0_3212 v17_3288))) (.fn rfl) ?_
      refine SafeOps.nil ?_
      repeat (first | refine Safe.seq ?_ | refine Safe.skip ?_ | with_reducible refine thenQ.n ?_ | with_reducible refine blockQ.n ?_)
      refine Safe.region ?_
      refine SafeOps.quiet0 E_good rfl rfl rfl (v := V.sl 1 (rws (fun l => [V.sl 3 (rws api_Instr.cells l)]) a1_3213)) (.fn rfl) ?_
      refine SafeOps.quiet0 E_good rfl rfl rfl (v := V.int .i64 v17_3288) (.fn rfl) ?_
      refine okG h (fun hb3292 h => ?_)
      refine SafeOps.quiet0 E_good rfl rfl rfl (v := V.spt 1 (rws (fun l => [V.sl 3 (rws api_Instr.cells l)]) a1_3213) (Int.toNat v17_3288) 0) (.idxSlM (f := (fun l => [V.sl 3 (rws api_Instr.cells l)])) rfl rfl rfl rfl rfl hb3292) ?_
      refine SafeOps.quiet0 E_good rfl rfl rfl (v := V.sl 3 (rws api_Instr.cells (gt a1_3213 v17_3288))) (.load rfl rfl (.sptM (f := (fun l => [V.sl 3 (rws api_Instr.cells l)])) hb3292 rfl) rfl) ?_
      refine SafeOps.quiet0 E_good rfl rfl rfl (v := V.sl 3 (rws api_Instr.cells (gt a1_3213 v17_3288))) (.fn rfl) ?_
      refine SafeOps.nil ?_
      repeat (first | refine Safe.seq ?_ | refine Safe.skip ?_ | with_reducible refine thenQ.n ?_ | with_reducible refine blockQ.n ?_)
      refine Safe.region ?_
      refine SafeOps.quiet0 E_good rfl rfl rfl (v := V.fn 60 []) (.fn rfl) ?_
      refine SafeOps.quiet0 E_good rfl rfl rfl (v := V.sl 3 (rws api_Instr.cells (gt a0_3212 v17_3288))) (.fn rfl) ?_
      refine SafeOps.quiet0 E_good rfl rfl rfl (v := V.sl 3 (rws api_Instr.cells (gt a1_3213 v17_3288))) (.fn rfl) ?_
      refine bindG h ?_
      intro x_3293 he3294 h
      refine SafeOps.quiet0 E_good rfl rfl rfl (v := V.bool x_3293) (.callP rfl rfl (go_slices_Equal_api_Instr_api_Instr_sc (gt a0_3212 v17_3288) (gt a1_3213 v17_3288) _ he3294) rfl) ?_
      refine SafeOps.quiet0 E_good rfl rfl rfl (v := V.bool (!x_3293)) (.fn rfl) ?_
      refine SafeOps.nil ?_
      repeat (first | refine Safe.seq ?_ | refine Safe.skip ?_ | with_reducible refine thenQ.n ?_ | with_reducible refine blockQ.n ?_)
      refine ifG h (fun hc3295 h => ?_) (fun hc3295 h => ?_)
      · skip
        refine Safe.condK rfl hc3295 ?_
        repeat (first | refine Safe.seq ?_ | refine Safe.skip ?_ | with_reducible refine thenQ.n ?_ | with_reducible refine blockQ.n ?_)
        refine Safe.region ?_
        refine SafeOps.quiet0 E_good rfl rfl rfl (v := V.bool false) (.fn rfl) ?_
        refine SafeOps.nil ?_
        repeat (first | refine Safe.seq ?_ | refine Safe.skip ?_ | with_reducible refine thenQ.n ?_ | with_reducible refine blockQ.n ?_)
        refine Safe.ret ?_
        repeat (first | with_reducible refine thenQ.r ?_ | with_reducible refine blockQ.r ?_)
        replace h := inr_out h hr3289
        obtain rfl := Option.some.inj h
        exact retQ.gen (vs := [V.bool false]) rfl (.tmp (v := V.bool false) rfl .nil) (.free rfl) (by simp) (.inr rfl)
      · skip
        refine Safe.condN rfl hc3295 ?_
        repeat (first | refine Safe.seq ?_ | refine Safe.skip ?_ | with_reducible refine thenQ.n ?_ | with_reducible refine blockQ.n ?_)
        refine Safe.region ?_
        refine SafeOps.quiet0 E_good rfl rfl rfl (v := V.int .i64 (IntKind.i64.wrap (v17_3288 + 1))) (.fn rfl) ?_
        refine SafeOps.quiet0 E_good rfl rfl rfl (v := V.int .i64 (IntKind.i64.wrap (v17_3288 + 1))) (.fn rfl) ?_
        refine SafeOps.nil ?_
        repeat (first | refine Safe.seq ?_ | refine Safe.skip ?_ | with_reducible refine thenQ.n ?_ | with_reducible refine blockQ.n ?_)
        exact ⟨_, next_out h, (.cov ⟨rfl, rfl, (upT_cons (.refl _) (upT_cons (.refl _) (upT_cons (.refl _) (upT_cons (.refl _) (upT_cons (.refl _) upT_nil))))), upOb_nil, upOut_nil, rfl⟩)⟩
    · skip
      refine Safe.condN rfl hc3290 ?_
      repeat (first | refine Safe.seq ?_ | refine Safe.skip ?_ | with_reducible refine thenQ.n ?_ | with_reducible refine blockQ.n ?_)
      refine Safe.exit ?_
      repeat (first | with_reducible refine thenQ.e ?_ | with_reducible refine blockQ.x rfl ?_ | with_reducible refine blockQ.y rfl ?_)
      replace h := inr_out h hr3289
      repeat (first | refine Safe.seq ?_ | refine Safe.skip ?_ | with_reducible refine thenQ.n ?_ | with_reducible refine blockQ.n ?_)
      refine Safe.region ?_
      refine SafeOps.quiet0 E_good rfl rfl rfl (v := V.bool true) (.fn rfl) ?_
      refine SafeOps.nil ?_
      repeat (first | refine Safe.seq ?_ | refine Safe.skip ?_ | with_reducible refine thenQ.n ?_ | with_reducible refine blockQ.n ?_)
      refine Safe.ret ?_
      repeat (first | with_reducible refine thenQ.r ?_ | with_reducible refine blockQ.r ?_)
      obtain rfl := Option.some.inj h
      exact retQ.gen (vs := [V.bool true]) rfl (.tmp (v := V.bool true) rfl .nil) (.free rfl) (by simp) (.inr rfl)

noncomputable def go_code_Same (a0_3210 : List (List api_Instr)) (a1_3211 : List (List api_Instr)) : Option Bool :=
  (go_slices_EqualFunc_api_Instr_api_Instr_api_Instr_api_Instr_Instr60 a0_3210 a1_3211).bind fun x_3298 =>
  some x_3298

theorem go_code_Same_sc (a0_3210 : List (List api_Instr)) (a1_3211 : List (List api_Instr)) (r : Bool) (h : go_code_Same a0_3210 a1_3211 = some r) : SC Try.prog gl 46 [V.sl 1 (rws (fun l => [V.sl 3 (rws api_Instr.cells l)]) a0_3210), V.sl 1 (rws (fun l => [V.sl 3 (rws api_Instr.cells l)]) a1_3211)] (V.bool r) := by
  rw [go_code_Same] at h
  refine SC.of E_good Try.func46 rfl (fun _ _ => Try.call46 _ _) rfl ?_
  repeat (first | refine Safe.seq ?_ | refine Safe.skip ?_ | with_reducible refine thenQ.n ?_ | with_reducible refine blockQ.n ?_)
  refine Safe.region ?_
  refine SafeOps.quiet0 E_good rfl rfl rfl (v := V.bool false) (.fn rfl) ?_
  refine SafeOps.nil ?_
  repeat (first | refine Safe.seq ?_ | refine Safe.skip ?_ | with_reducible refine thenQ.n ?_ | with_reducible refine blockQ.n ?_)
  refine Safe.region ?_
  refine SafeOps.quiet0 E_good rfl rfl rfl (v := V.sl 1 (rws (fun l => [V.sl 3 (rws api_Instr.cells l)]) a0_3210)) (.fn rfl) ?_
  refine SafeOps.quiet0 E_good rfl rfl rfl (v := V.sl 1 (rws (fun l => [V.sl 3 (rws api_Instr.cells l)]) a1_3211)) (.fn rfl) ?_
  refine bindG h ?_
  intro x_3298 he3299 h
  refine SafeOps.quiet0 E_good rfl rfl rfl (v := V.bool x_3298) (.callP rfl rfl (go_slices_EqualFunc_api_Instr_api_Instr_api_Instr_api_Instr_Instr60_sc a0_3210 a1_3211 _ he3299) rfl) ?_
  refine SafeOps.quiet0 E_good rfl rfl rfl (v := V.bool x_3298) (.fn rfl) ?_
  refine SafeOps.nil ?_
  repeat (first | refine Safe.seq ?_ | refine Safe.skip ?_ | with_reducible refine thenQ.n ?_ | with_reducible refine blockQ.n ?_)
  refine Safe.ret ?_
  repeat (first | with_reducible refine thenQ.r ?_ | with_reducible refine blockQ.r ?_)
  obtain rfl := Option.some.inj h
  exact retQ.gen (vs := [V.bool x_3298]) rfl (.tmp (v := V.bool x_3298) rfl .nil) (.free rfl) (by simp) (.inr rfl)

noncomputable def go_entry_Same_j3 (a0_3163 : api_Config) (a1_3164 : api_Config) (b_3433 : Bool) : Option Bool :=
  if ((b_3433 && (a0_3163.Tasks == a1_3164.Tasks)) && (a0_3163.Fds == a1_3164.Fds)) = true then
    (go_slices_Equal_int_int a0_3163.Sems a1_3164.Sems).bind fun x_3440 =>
    some x_3440
  else
    some false

noncomputable def go_entry_Same_j2 (a0_3163 : api_Config) (a1_3164 : api_Config) (b_3428 : Bool) : Option Bool :=
  if b_3428 = true then
    (go_code_Same a0_3163.Progs a1_3164.Progs).bind fun x_3442 =>
    go_entry_Same_j3 a0_3163 a1_3164 x_3442
  else
    go_entry_Same_j3 a0_3163 a1_3164 false

noncomputable def go_entry_Same_j1 (a0_3163 : api_Config) (a1_3164 : api_Config) (b_3423 : Bool) : Option Bool :=
  if b_3423 = true then
    (go_slices_Equal_int_int a0_3163.Quotas a1_3164.Quotas).bind fun x_3444 =>
    go_entry_Same_j2 a0_3163 a1_3164 x_3444
  else
    go_entry_Same_j2 a0_3163 a1_3164 false

noncomputable def go_entry_Same (a0_3163 : api_Config) (a1_3164 : api_Config) : Option Bool :=
  if (((a0_3163.Workers == a1_3164.Workers) && (a0_3163.Cap == a1_3164.Cap)) && (a0_3163.Budget == a1_3164.Budget)) = true then
    (go_slices_Equal_int_int a0_3163.Weights a1_3164.Weights).bind fun x_3446 =>
    go_entry_Same_j1 a0_3163 a1_3164 x_3446
  else
    go_entry_Same_j1 a0_3163 a1_3164 false

theorem go_entry_Same_sc (a0_3163 : api_Config) (a1_3164 : api_Config) (r : Bool) (h : go_entry_Same a0_3163 a1_3164 = some r) : SC Try.prog gl 23 [V.agg [V.int .i64 a0_3163.Workers, V.int .i64 a0_3163.Cap, V.int .i64 a0_3163.Budget, V.sl 1 (rws (fun n => [V.int .i64 n]) a0_3163.Weights), V.sl 1 (rws (fun n => [V.int .i64 n]) a0_3163.Quotas), V.sl 1 (rws (fun l => [V.sl 3 (rws api_Instr.cells l)]) a0_3163.Progs), V.int .i64 a0_3163.Tasks, V.int .i64 a0_3163.Fds, V.sl 1 (rws (fun n => [V.int .i64 n]) a0_3163.Sems)], V.agg [V.int .i64 a1_3164.Workers, V.int .i64 a1_3164.Cap, V.int .i64 a1_3164.Budget, V.sl 1 (rws (fun n => [V.int .i64 n]) a1_3164.Weights), V.sl 1 (rws (fun n => [V.int .i64 n]) a1_3164.Quotas), V.sl 1 (rws (fun l => [V.sl 3 (rws api_Instr.cells l)]) a1_3164.Progs), V.int .i64 a1_3164.Tasks, V.int .i64 a1_3164.Fds, V.sl 1 (rws (fun n => [V.int .i64 n]) a1_3164.Sems)]] (V.bool r) := by
  rw [go_entry_Same] at h
  refine SC.of E_good Try.func23 rfl (fun _ _ => Try.call23 _ _) rfl ?_
  repeat (first | refine Safe.seq ?_ | refine Safe.skip ?_ | with_reducible refine thenQ.n ?_ | with_reducible refine blockQ.n ?_)
  refine Safe.region ?_
  refine SafeOps.quiet1 E_good rfl rfl rfl (.box rfl rfl) rfl ?_
  refine SafeOps.quiet1 E_good rfl rfl rfl (.box rfl rfl) rfl ?_
  refine SafeOps.quiet0 E_good rfl rfl rfl (v := V.bool false) (.fn rfl) ?_
  refine SafeOps.nil ?_
  repeat (first | refine Safe.seq ?_ | refine Safe.skip ?_ | with_reducible refine thenQ.n ?_ | with_reducible refine blockQ.n ?_)
  refine Safe.region ?_
  refine SafeOps.quiet0 E_good rfl rfl rfl (v := V.ptr [2] 0 0) (.fn rfl) ?_
  refine SafeOps.quiet0 E_good rfl rfl rfl (v := V.int .i64 a0_3163.Workers) (.load rfl rfl (.box rfl rfl) rfl) ?_
  refine SafeOps.quiet0 E_good rfl rfl rfl (v := V.ptr [3] 0 0) (.fn rfl) ?_
  refine SafeOps.quiet0 E_good rfl rfl rfl (v := V.int .i64 a1_3164.Workers) (.load rfl rfl (.box rfl rfl) rfl) ?_
  refine SafeOps.quiet0 E_good rfl rfl rfl (v := V.bool (a0_3163.Workers == a1_3164.Workers)) (.fn rfl) ?_
  refine SafeOps.quiet0 E_good rfl rfl rfl (v := V.bool (a0_3163.Workers == a1_3164.Workers)) (.fn rfl) ?_
  refine SafeOps.bjoin 6 16 (b := ((a0_3163.Workers == a1_3164.Workers) && (a0_3163.Cap == a1_3164.Cap))) (b1 := (a0_3163.Cap == a1_3164.Cap)) (b0 := false) (fun hc3418 K => ?_) (fun hc3418 K => ?_) bj_and ?_
  · skip
    refine SafeOps.quiet0 E_good (congrArg some hc3418) rfl rfl (v := V.ptr [2] 0 1) (.fn rfl) ?_
    refine SafeOps.quiet0 E_good (congrArg some hc3418) rfl rfl (v := V.int .i64 a0_3163.Cap) (.load rfl rfl (.box rfl rfl) rfl) ?_
    refine SafeOps.quiet0 E_good (congrArg some hc3418) rfl rfl (v := V.ptr [3] 0 1) (.fn rfl) ?_
    refine SafeOps.quiet0 E_good (congrArg some hc3418) rfl rfl (v := V.int .i64 a1_3164.Cap) (.load rfl rfl (.box rfl rfl) rfl) ?_
    refine SafeOps.quiet0 E_good (congrArg some hc3418) rfl rfl (v := V.bool (a0_3163.Cap == a1_3164.Cap)) (.fn rfl) ?_
    refine SafeOps.quiet0 E_good rfl rfl rfl (v := V.bool (a0_3163.Cap == a1_3164.Cap)) (.pickK rfl hc3418 rfl) ?_
    exact SafeOps.drop' 6 rfl rfl rfl K
  · skip
    refine SafeOps.skip (congrArg some hc3418) rfl rfl ?_
    refine SafeOps.skip (congrArg some hc3418) rfl rfl ?_
    refine SafeOps.skip (congrArg some hc3418) rfl rfl ?_
    refine SafeOps.skip (congrArg some hc3418) rfl rfl ?_
    refine SafeOps.skip (congrArg some hc3418) rfl rfl ?_
    refine SafeOps.quiet0 E_good rfl rfl rfl (v := V.bool false) (.pickK rfl hc3418 rfl) ?_
    exact SafeOps.drop' 6 rfl rfl rfl K
  refine SafeOps.quiet0 E_good rfl rfl rfl (v := V.bool ((a0_3163.Workers == a1_3164.Workers) && (a0_3163.Cap == a1_3164.Cap))) (.fn rfl) ?_
  refine SafeOps.bjoin 6 23 (b := (((a0_3163.Workers == a1_3164.Workers) && (a0_3163.Cap == a1_3164.Cap)) && (a0_3163.Budget == a1_3164.Budget))) (b1 := (a0_3163.Budget == a1_3164.Budget)) (b0 := false) (fun hc3419 K => ?_) (fun hc3419 K => ?_) bj_and ?_
  · skip
    refine SafeOps.quiet0 E_good (congrArg some hc3419) rfl rfl (v := V.ptr [2] 0 2) (.fn rfl) ?_
    refine SafeOps.quiet0 E_good (congrArg some hc3419) rfl rfl (v := V.int .i64 a0_3163.Budget) (.load rfl rfl (.box rfl rfl) rfl) ?_
    refine SafeOps.quiet0 E_good (congrArg some hc3419) rfl rfl (v := V.ptr [3] 0 2) (.fn rfl) ?_
    refine SafeOps.quiet0 E_good (congrArg some hc3419) rfl rfl (v := V.int .i64 a1_3164.Budget) (.load rfl rfl (.box rfl rfl) rfl) ?_
    refine SafeOps.quiet0 E_good (congrArg some hc3419) rfl rfl (v := V.bool (a0_3163.Budget == a1_3164.Budget)) (.fn rfl) ?_
    refine SafeOps.quiet0 E_good rfl rfl rfl (v := V.bool (a0_3163.Budget == a1_3164.Budget)) (.pickK rfl hc3419 rfl) ?_
    exact SafeOps.drop' 6 rfl rfl rfl K
  · skip
    refine SafeOps.skip (congrArg some hc3419) rfl rfl ?_
    refine SafeOps.skip (congrArg some hc3419) rfl rfl ?_
    refine SafeOps.skip (congrArg some hc3419) rfl rfl ?_
    refine SafeOps.skip (congrArg some hc3419) rfl rfl ?_
    refine SafeOps.skip (congrArg some hc3419) rfl rfl ?_
    refine SafeOps.quiet0 E_good rfl rfl rfl (v := V.bool false) (.pickK rfl hc3419 rfl) ?_
    exact SafeOps.drop' 6 rfl rfl rfl K
  refine SafeOps.quiet0 E_good rfl rfl rfl (v := V.bool (((a0_3163.Workers == a1_3164.Workers) && (a0_3163.Cap == a1_3164.Cap)) && (a0_3163.Budget == a1_3164.Budget))) (.fn rfl) ?_
  refine SafeOps.bsplit 6 30 (fun b_3423 => go_entry_Same_j1 a0_3163 a1_3164 b_3423 = some r) (fun HJ3424 => ?_) (fun b_3423 h => ?_)
  · refine ifG h (fun hc3420 h => ?_) (fun hc3420 h => ?_)
    · skip
      refine SafeOps.quiet0 E_good (congrArg some hc3420) rfl rfl (v := V.ptr [2] 0 3) (.fn rfl) ?_
      refine SafeOps.quiet0 E_good (congrArg some hc3420) rfl rfl (v := V.sl 1 (rws (fun n => [V.int .i64 n]) a0_3163.Weights)) (.load rfl rfl (.box rfl rfl) rfl) ?_
      refine SafeOps.quiet0 E_good (congrArg some hc3420) rfl rfl (v := V.ptr [3] 0 3) (.fn rfl) ?_
      refine SafeOps.quiet0 E_good (congrArg some hc3420) rfl rfl (v := V.sl 1 (rws (fun n => [V.int .i64 n]) a1_3164.Weights)) (.load rfl rfl (.box rfl rfl) rfl) ?_
      refine bindG h ?_
      intro x_3446 he3447 h
      refine SafeOps.quiet0 E_good (congrArg some hc3420) rfl rfl (v := V.bool x_3446) (.callP rfl rfl (go_slices_Equal_int_int_sc a0_3163.Weights a1_3164.Weights _ he3447) rfl) ?_
      refine SafeOps.quiet0 E_good rfl rfl rfl (v := V.bool x_3446) (.pickK rfl hc3420 rfl) ?_
      exact SafeOps.drop' 6 rfl rfl rfl (HJ3424 _ h)
    · skip
      refine SafeOps.skip (congrArg some hc3420) rfl rfl ?_
      refine SafeOps.skip (congrArg some hc3420) rfl rfl ?_
      refine SafeOps.skip (congrArg some hc3420) rfl rfl ?_
      refine SafeOps.skip (congrArg some hc3420) rfl rfl ?_
      refine SafeOps.skip (congrArg some hc3420) rfl rfl ?_
      refine SafeOps.quiet0 E_good rfl rfl rfl (v := V.bool false) (.pickK rfl hc3420 rfl) ?_
      exact SafeOps.drop' 6 rfl rfl rfl (HJ3424 _ h)
  · replace h : go_entry_Same_j1 a0_3163 a1_3164 b_3423 = some r := h
    rw [go_entry_Same_j1] at h
    refine SafeOps.quiet0 E_good rfl rfl rfl (v := V.bool b_3423) (.fn rfl) ?_
    refine SafeOps.bsplit 6 37 (fun b_3428 => go_entry_Same_j2 a0_3163 a1_3164 b_3428 = some r) (fun HJ3429 => ?_) (fun b_3428 h => ?_)
    · refine ifG h (fun hc3425 h => ?_) (fun hc3425 h => ?_)
      · skip
        refine SafeOps.quiet0 E_good (congrArg some hc3425) rfl rfl (v := V.ptr [2] 0 4) (.fn rfl) ?_
        refine SafeOps.quiet0 E_good (congrArg some hc3425) rfl rfl (v := V.sl 1 (rws (fun n => [V.int .i64 n]) a0_3163.Quotas)) (.load rfl rfl (.box rfl rfl) rfl) ?_
        refine SafeOps.quiet0 E_good (congrArg some hc3425) rfl rfl (v := V.ptr [3] 0 4) (.fn rfl) ?_
        refine SafeOps.quiet0 E_good (congrArg some hc3425) rfl rfl (v := V.sl 1 (rws (fun n => [V.int .i64 n]) a1_3164.Quotas)) (.load rfl rfl (.box rfl rfl) rfl) ?_
        refine bindG h ?_
        intro x_3444 he3445 h
        refine SafeOps.quiet0 E_good (congrArg some hc3425) rfl rfl (v := V.bool x_3444) (.callP rfl rfl (go_slices_Equal_int_int_sc a0_3163.Quotas a1_3164.Quotas _ he3445) rfl) ?_
        refine SafeOps.quiet0 E_good rfl rfl rfl (v := V.bool x_3444) (.pickK rfl hc3425 rfl) ?_
        exact SafeOps.drop' 6 rfl rfl rfl (HJ3429 _ h)
      · skip
        refine SafeOps.skip (congrArg some hc3425) rfl rfl ?_
        refine SafeOps.skip (congrArg some hc3425) rfl rfl ?_
        refine SafeOps.skip (congrArg some hc3425) rfl rfl ?_
        refine SafeOps.skip (congrArg some hc3425) rfl rfl ?_
        refine SafeOps.skip (congrArg some hc3425) rfl rfl ?_
        refine SafeOps.quiet0 E_good rfl rfl rfl (v := V.bool false) (.pickK rfl hc3425 rfl) ?_
        exact SafeOps.drop' 6 rfl rfl rfl (HJ3429 _ h)
    · replace h : go_entry_Same_j2 a0_3163 a1_3164 b_3428 = some r := h
      rw [go_entry_Same_j2] at h
      refine SafeOps.quiet0 E_good rfl rfl rfl (v := V.bool b_3428) (.fn rfl) ?_
      refine SafeOps.bsplit 6 44 (fun b_3433 => go_entry_Same_j3 a0_3163 a1_3164 b_3433 = some r) (fun HJ3434 => ?_) (fun b_3433 h => ?_)
      · refine ifG h (fun hc3430 h => ?_) (fun hc3430 h => ?_)
        · skip
          refine SafeOps.quiet0 E_good (congrArg some hc3430) rfl rfl (v := V.ptr [2] 0 5) (.fn rfl) ?_
          refine SafeOps.quiet0 E_good (congrArg some hc3430) rfl rfl (v := V.sl 1 (rws (fun l => [V.sl 3 (rws api_Instr.cells l)]) a0_3163.Progs)) (.load rfl rfl (.box rfl rfl) rfl) ?_
          refine SafeOps.quiet0 E_good (congrArg some hc3430) rfl rfl (v := V.ptr [3] 0 5) (.fn rfl) ?_
          refine SafeOps.quiet0 E_good (congrArg some hc3430) rfl rfl (v := V.sl 1 (rws (fun l => [V.sl 3 (rws api_Instr.cells l)]) a1_3164.Progs)) (.load rfl rfl (.box rfl rfl) rfl) ?_
          refine bindG h ?_
          intro x_3442 he3443 h
          refine SafeOps.quiet0 E_good (congrArg some hc3430) rfl rfl (v := V.bool x_3442) (.callP rfl rfl (go_code_Same_sc a0_3163.Progs a1_3164.Progs _ he3443) rfl) ?_
          refine SafeOps.quiet0 E_good rfl rfl rfl (v := V.bool x_3442) (.pickK rfl hc3430 rfl) ?_
          exact SafeOps.drop' 6 rfl rfl rfl (HJ3434 _ h)
        · skip
          refine SafeOps.skip (congrArg some hc3430) rfl rfl ?_
          refine SafeOps.skip (congrArg some hc3430) rfl rfl ?_
          refine SafeOps.skip (congrArg some hc3430) rfl rfl ?_
          refine SafeOps.skip (congrArg some hc3430) rfl rfl ?_
          refine SafeOps.skip (congrArg some hc3430) rfl rfl ?_
          refine SafeOps.quiet0 E_good rfl rfl rfl (v := V.bool false) (.pickK rfl hc3430 rfl) ?_
          exact SafeOps.drop' 6 rfl rfl rfl (HJ3434 _ h)
      · replace h : go_entry_Same_j3 a0_3163 a1_3164 b_3433 = some r := h
        rw [go_entry_Same_j3] at h
        refine SafeOps.quiet0 E_good rfl rfl rfl (v := V.bool b_3433) (.fn rfl) ?_
        refine SafeOps.bjoin 6 51 (b := (b_3433 && (a0_3163.Tasks == a1_3164.Tasks))) (b1 := (a0_3163.Tasks == a1_3164.Tasks)) (b0 := false) (fun hc3435 K => ?_) (fun hc3435 K => ?_) bj_and ?_
        · skip
          refine SafeOps.quiet0 E_good (congrArg some hc3435) rfl rfl (v := V.ptr [2] 0 6) (.fn rfl) ?_
          refine SafeOps.quiet0 E_good (congrArg some hc3435) rfl rfl (v := V.int .i64 a0_3163.Tasks) (.load rfl rfl (.box rfl rfl) rfl) ?_
          refine SafeOps.quiet0 E_good (congrArg some hc3435) rfl rfl (v := V.ptr [3] 0 6) (.fn rfl) ?_
          refine SafeOps.quiet0 E_good (congrArg some hc3435) rfl rfl (v := V.int .i64 a1_3164.Tasks) (.load rfl rfl (.box rfl rfl) rfl) ?_
          refine SafeOps.quiet0 E_good (congrArg some hc3435) rfl rfl (v := V.bool (a0_3163.Tasks == a1_3164.Tasks)) (.fn rfl) ?_
          refine SafeOps.quiet0 E_good rfl rfl rfl (v := V.bool (a0_3163.Tasks == a1_3164.Tasks)) (.pickK rfl hc3435 rfl) ?_
          exact SafeOps.drop' 6 rfl rfl rfl K
        · skip
          refine SafeOps.skip (congrArg some hc3435) rfl rfl ?_
          refine SafeOps.skip (congrArg some hc3435) rfl rfl ?_
          refine SafeOps.skip (congrArg some hc3435) rfl rfl ?_
          refine SafeOps.skip (congrArg some hc3435) rfl rfl ?_
          refine SafeOps.skip (congrArg some hc3435) rfl rfl ?_
          refine SafeOps.quiet0 E_good rfl rfl rfl (v := V.bool false) (.pickK rfl hc3435 rfl) ?_
          exact SafeOps.drop' 6 rfl rfl rfl K
        refine SafeOps.quiet0 E_good rfl rfl rfl (v := V.bool (b_3433 && (a0_3163.Tasks == a1_3164.Tasks))) (.fn rfl) ?_
        refine SafeOps.bjoin 6 58 (b := ((b_3433 && (a0_3163.Tasks == a1_3164.Tasks)) && (a0_3163.Fds == a1_3164.Fds))) (b1 := (a0_3163.Fds == a1_3164.Fds)) (b0 := false) (fun hc3436 K => ?_) (fun hc3436 K => ?_) bj_and ?_
        · skip
          refine SafeOps.quiet0 E_good (congrArg some hc3436) rfl rfl (v := V.ptr [2] 0 7) (.fn rfl) ?_
          refine SafeOps.quiet0 E_good (congrArg some hc3436) rfl rfl (v := V.int .i64 a0_3163.Fds) (.load rfl rfl (.box rfl rfl) rfl) ?_
          refine SafeOps.quiet0 E_good (congrArg some hc3436) rfl rfl (v := V.ptr [3] 0 7) (.fn rfl) ?_
          refine SafeOps.quiet0 E_good (congrArg some hc3436) rfl rfl (v := V.int .i64 a1_3164.Fds) (.load rfl rfl (.box rfl rfl) rfl) ?_
          refine SafeOps.quiet0 E_good (congrArg some hc3436) rfl rfl (v := V.bool (a0_3163.Fds == a1_3164.Fds)) (.fn rfl) ?_
          refine SafeOps.quiet0 E_good rfl rfl rfl (v := V.bool (a0_3163.Fds == a1_3164.Fds)) (.pickK rfl hc3436 rfl) ?_
          exact SafeOps.drop' 6 rfl rfl rfl K
        · skip
          refine SafeOps.skip (congrArg some hc3436) rfl rfl ?_
          refine SafeOps.skip (congrArg some hc3436) rfl rfl ?_
          refine SafeOps.skip (congrArg some hc3436) rfl rfl ?_
          refine SafeOps.skip (congrArg some hc3436) rfl rfl ?_
          refine SafeOps.skip (congrArg some hc3436) rfl rfl ?_
          refine SafeOps.quiet0 E_good rfl rfl rfl (v := V.bool false) (.pickK rfl hc3436 rfl) ?_
          exact SafeOps.drop' 6 rfl rfl rfl K
        refine SafeOps.quiet0 E_good rfl rfl rfl (v := V.bool ((b_3433 && (a0_3163.Tasks == a1_3164.Tasks)) && (a0_3163.Fds == a1_3164.Fds))) (.fn rfl) ?_
        refine ifG h (fun hc3437 h => ?_) (fun hc3437 h => ?_)
        · skip
          refine SafeOps.quiet0 E_good (congrArg some hc3437) rfl rfl (v := V.ptr [2] 0 8) (.fn rfl) ?_
          refine SafeOps.quiet0 E_good (congrArg some hc3437) rfl rfl (v := V.sl 1 (rws (fun n => [V.int .i64 n]) a0_3163.Sems)) (.load rfl rfl (.box rfl rfl) rfl) ?_
          refine SafeOps.quiet0 E_good (congrArg some hc3437) rfl rfl (v := V.ptr [3] 0 8) (.fn rfl) ?_
          refine SafeOps.quiet0 E_good (congrArg some hc3437) rfl rfl (v := V.sl 1 (rws (fun n => [V.int .i64 n]) a1_3164.Sems)) (.load rfl rfl (.box rfl rfl) rfl) ?_
          refine bindG h ?_
          intro x_3440 he3441 h
          refine SafeOps.quiet0 E_good (congrArg some hc3437) rfl rfl (v := V.bool x_3440) (.callP rfl rfl (go_slices_Equal_int_int_sc a0_3163.Sems a1_3164.Sems _ he3441) rfl) ?_
          refine SafeOps.quiet0 E_good rfl rfl rfl (v := V.bool x_3440) (.pickK rfl hc3437 rfl) ?_
          refine SafeOps.quiet0 E_good rfl rfl rfl (v := V.bool x_3440) (.fn rfl) ?_
          refine SafeOps.nil ?_
          repeat (first | refine Safe.seq ?_ | refine Safe.skip ?_ | with_reducible refine thenQ.n ?_ | with_reducible refine blockQ.n ?_)
          refine Safe.ret ?_
          repeat (first | with_reducible refine thenQ.r ?_ | with_reducible refine blockQ.r ?_)
          obtain rfl := Option.some.inj h
          exact retQ.gen (vs := [V.bool x_3440]) rfl (.tmp (v := V.bool x_3440) rfl .nil) (.free rfl) (by simp) (.inr rfl)
        · skip
          refine SafeOps.skip (congrArg some hc3437) rfl rfl ?_
          refine SafeOps.skip (congrArg some hc3437) rfl rfl ?_
          refine SafeOps.skip (congrArg some hc3437) rfl rfl ?_
          refine SafeOps.skip (congrArg some hc3437) rfl rfl ?_
          refine SafeOps.skip (congrArg some hc3437) rfl rfl ?_
          refine SafeOps.quiet0 E_good rfl rfl rfl (v := V.bool false) (.pickK rfl hc3437 rfl) ?_
          refine SafeOps.quiet0 E_good rfl rfl rfl (v := V.bool false) (.fn rfl) ?_
          refine SafeOps.nil ?_
          repeat (first | refine Safe.seq ?_ | refine Safe.skip ?_ | with_reducible refine thenQ.n ?_ | with_reducible refine blockQ.n ?_)
          refine Safe.ret ?_
          repeat (first | with_reducible refine thenQ.r ?_ | with_reducible refine blockQ.r ?_)
          obtain rfl := Option.some.inj h
          exact retQ.gen (vs := [V.bool false]) rfl (.tmp (v := V.bool false) rfl .nil) (.free rfl) (by simp) (.inr rfl)

noncomputable def go_ravelref06_SameInts_s1 (a0_3455 : List Int) (a1_3456 : List Int) : (Int) → Option ((Int) ⊕ (Bool))
  | v13_3485 =>
    if (decide (v13_3485 < (a0_3455.length : Int))) = true then
      if 0 ≤ v13_3485 ∧ v13_3485 < (a0_3455.length : Int) then
        if 0 ≤ v13_3485 ∧ v13_3485 < (a1_3456.length : Int) then
          if ((gt a0_3455 v13_3485) != (gt a1_3456 v13_3485)) = true then
            inrO (
              some false)
          else
            nextO (IntKind.i64.wrap (v13_3485 + 1))
        else none
      else none
    else
      inrO (
        some true)

noncomputable def go_ravelref06_SameInts (a0_3455 : List Int) (a1_3456 : List Int) : Option Bool :=
  if ((a0_3455.length : Int) != (a1_3456.length : Int)) = true then
    some false
  else
    whileO (go_ravelref06_SameInts_s1 a0_3455 a1_3456) 0

theorem go_ravelref06_SameInts_sc (a0_3455 : List Int) (a1_3456 : List Int) (r : Bool) (h : go_ravelref06_SameInts a0_3455 a1_3456 = some r) : SC Try.prog gl 47 [V.sl 1 (rws (fun n => [V.int .i64 n]) a0_3455), V.sl 1 (rws (fun n => [V.int .i64 n]) a1_3456)] (V.bool r) := by
  rw [go_ravelref06_SameInts] at h
  refine SC.of E_good Try.func47 rfl (fun _ _ => Try.call47 _ _) rfl ?_
  repeat (first | refine Safe.seq ?_ | refine Safe.skip ?_ | with_reducible refine thenQ.n ?_ | with_reducible refine blockQ.n ?_)
  refine Safe.region ?_
  refine SafeOps.quiet0 E_good rfl rfl rfl (v := V.bool false) (.fn rfl) ?_
  refine SafeOps.nil ?_
  repeat (first | refine Safe.seq ?_ | refine Safe.skip ?_ | with_reducible refine thenQ.n ?_ | with_reducible refine blockQ.n ?_)
  refine Safe.region ?_
  refine SafeOps.quiet0 E_good rfl rfl rfl (v := V.sl 1 (rws (fun n => [V.int .i64 n]) a0_3455)) (.fn rfl) ?_
  refine SafeOps.quiet0 E_good rfl rfl rfl (v := V.int .i64 (a0_3455.length : Int)) (.fnE rfl lenE) ?_
  refine SafeOps.quiet0 E_good rfl rfl rfl (v := V.sl 1 (rws (fun n => [V.int .i64 n]) a1_3456)) (.fn rfl) ?_
  refine SafeOps.quiet0 E_good rfl rfl rfl (v := V.int .i64 (a1_3456.length : Int)) (.fnE rfl lenE) ?_
  refine SafeOps.quiet0 E_good rfl rfl rfl (v := V.bool ((a0_3455.length : Int) != (a1_3456.length : Int))) (.fn rfl) ?_
  refine SafeOps.nil ?_
  repeat (first | refine Safe.seq ?_ | refine Safe.skip ?_ | with_reducible refine thenQ.n ?_ | with_reducible refine blockQ.n ?_)
  refine ifG h (fun hc3475 h => ?_) (fun hc3475 h => ?_)
  · skip
    refine Safe.condK rfl hc3475 ?_
    repeat (first | refine Safe.seq ?_ | refine Safe.skip ?_ | with_reducible refine thenQ.n ?_ | with_reducible refine blockQ.n ?_)
    refine Safe.region ?_
    refine SafeOps.quiet0 E_good rfl rfl rfl (v := V.bool false) (.fn rfl) ?_
    refine SafeOps.nil ?_
    repeat (first | refine Safe.seq ?_ | refine Safe.skip ?_ | with_reducible refine thenQ.n ?_ | with_reducible refine blockQ.n ?_)
    refine Safe.ret ?_
    repeat (first | with_reducible refine thenQ.r ?_ | with_reducible refine blockQ.r ?_)
    obtain rfl := Option.some.inj h
    exact retQ.gen (vs := [V.bool false]) rfl (.tmp (v := V.bool false) rfl .nil) (.free rfl) (by simp) (.inr rfl)
  · skip
    refine Safe.condN rfl hc3475 ?_
    repeat (first | refine Safe.seq ?_ | refine Safe.skip ?_ | with_reducible refine thenQ.n ?_ | with_reducible refine blockQ.n ?_)
    refine Safe.region ?_
    refine SafeOps.quiet0 E_good rfl rfl rfl (v := V.sl 1 (rws (fun n => [V.int .i64 n]) a0_3455)) (.fn rfl) ?_
    refine SafeOps.quiet0 E_good rfl rfl rfl (v := V.int .i64 (a0_3455.length : Int)) (.fnE rfl lenE) ?_
    refine SafeOps.quiet0 E_good rfl rfl rfl (v := V.int .i64 0) (.fn rfl) ?_
    refine SafeOps.nil ?_
    repeat (first | refine Safe.seq ?_ | refine Safe.skip ?_ | with_reducible refine thenQ.n ?_ | with_reducible refine blockQ.n ?_)
    refine Safe.block ?_
    repeat (first | refine Safe.seq ?_ | refine Safe.skip ?_ | with_reducible refine thenQ.n ?_ | with_reducible refine blockQ.n ?_)
    refine Safe.loopW (fun (v13_3485 : Int) => ⟨Try.f47.ntmps, [(0, V.sl 1 (rws (fun n => [V.int .i64 n]) a0_3455)), (1, V.sl 1 (rws (fun n => [V.int .i64 n]) a1_3456)), (12, V.int .i64 (a0_3455.length : Int)), (13, V.int .i64 v13_3485)], [], [], []⟩) h (.cov ⟨rfl, rfl, (upT_cons (.refl _) (upT_cons (.refl _) (upT_cons (.refl _) (upT_cons (.refl _) upT_nil)))), upOb_nil, upOut_nil, rfl⟩) ?_
    intro v13_3485 ohr3486 h hr3486
    replace h : go_ravelref06_SameInts_s1 a0_3455 a1_3456 v13_3485 = some ohr3486 := h
    rw [go_ravelref06_SameInts_s1] at h
    repeat (first | refine Safe.seq ?_ | refine Safe.skip ?_ | with_reducible refine thenQ.n ?_ | with_reducible refine blockQ.n ?_)
    refine Safe.region ?_
    refine SafeOps.quiet0 E_good rfl rfl rfl (v := V.bool (decide (v13_3485 < (a0_3455.length : Int)))) (.fn rfl) ?_
    refine SafeOps.nil ?_
    repeat (first | refine Safe.seq ?_ | refine Safe.skip ?_ | with_reducible refine thenQ.n ?_ | with_reducible refine blockQ.n ?_)
    refine ifG h (fun hc3487 h => ?_) (fun hc3487 h => ?_)
    · skip
      refine Safe.condK rfl hc3487 ?_
      repeat (first | refine Safe.seq ?_ | refine Safe.skip ?_ | with_reducible refine thenQ.n ?_ | with_reducible refine blockQ.n ?_)
      refine Safe.block ?_
      repeat (first | refine Safe.seq ?_ | refine Safe.skip ?_ | with_reducible refine thenQ.n ?_ | with_reducible refine blockQ.n ?_)
      refine Safe.region ?_
      refine SafeOps.quiet0 E_good rfl rfl rfl (v := V.int .i64 v13_3485) (.fn rfl) ?_
      refine SafeOps.quiet0 E_good rfl rfl rfl (v := V.int .i64 v13_3485) (.fn rfl) ?_
      refine SafeOps.nil ?_
      repeat (first | refine Safe.seq ?_ | refine Safe.skip ?_ | with_reducible refine thenQ.n ?_ | with_reducible refine blockQ.n ?_)
      refine Safe.regionD (n := 9) [] [] E_good mixed rfl ?_
      refine DAny.take (i := 0) rfl (by kernel_rfl) [] (by kernel_rfl) (by kernel_rfl) (by kernel_rfl) rfl rfl rfl (v := V.sl 1 (rws (fun n => [V.int .i64 n]) a0_3455)) (fun _ hz => (.fn rfl)) ?_
      refine DAny.take (i := 1) rfl (by kernel_rfl) [] (by kernel_rfl) (by kernel_rfl) (by kernel_rfl) rfl rfl rfl (v := V.int .i64 v13_3485) (fun _ hz => (.fn rfl)) ?_
      refine okG h (fun hb3488 h => ?_)
      refine DAny.take (i := 2) rfl (by kernel_rfl) [] (by kernel_rfl) (by kernel_rfl) (by kernel_rfl) rfl rfl rfl (v := V.spt 1 (rws (fun n => [V.int .i64 n]) a0_3455) (Int.toNat v13_3485) 0) (fun _ hz => (.idxSlM (f := (fun n => [V.int .i64 n])) rfl rfl rfl rfl rfl hb3488)) ?_
      refine DAny.take (i := 3) rfl (by kernel_rfl) [] (by kernel_rfl) (by kernel_rfl) (by kernel_rfl) rfl rfl rfl (v := V.int .i64 (gt a0_3455 v13_3485)) (fun _ hz => (.load rfl rfl (.sptM (f := (fun n => [V.int .i64 n])) hb3488 rfl) rfl)) ?_
      refine DAny.take (i := 4) rfl (by kernel_rfl) [] (by kernel_rfl) (by kernel_rfl) (by kernel_rfl) rfl rfl rfl (v := V.sl 1 (rws (fun n => [V.int .i64 n]) a1_3456)) (fun _ hz => (.fn rfl)) ?_
      refine DAny.take (i := 5) rfl (by kernel_rfl) [] (by kernel_rfl) (by kernel_rfl) (by kernel_rfl) rfl rfl rfl (v := V.int .i64 v13_3485) (fun _ hz => (.fn rfl)) ?_
      refine okG h (fun hb3489 h => ?_)
      refine DAny.take (i := 6) rfl (by kernel_rfl) [] (by kernel_rfl) (by kernel_rfl) (by kernel_rfl) rfl rfl rfl (v := V.spt 1 (rws (fun n => [V.int .i64 n]) a1_3456) (Int.toNat v13_3485) 0) (fun _ hz => (.idxSlM (f := (fun n => [V.int .i64 n])) rfl rfl rfl rfl rfl hb3489)) ?_
      refine DAny.take (i := 7) rfl (by kernel_rfl) [] (by kernel_rfl) (by kernel_rfl) (by kernel_rfl) rfl rfl rfl (v := V.int .i64 (gt a1_3456 v13_3485)) (fun _ hz => (.load rfl rfl (.sptM (f := (fun n => [V.int .i64 n])) hb3489 rfl) rfl)) ?_
      refine DAny.take (i := 8) rfl (by kernel_rfl) [] (by kernel_rfl) (by kernel_rfl) (by kernel_rfl) rfl rfl rfl (v := V.bool ((gt a0_3455 v13_3485) != (gt a1_3456 v13_3485))) (fun _ hz => (.fn rfl)) ?_
      refine DAny.nil (by kernel_rfl) ?_
      repeat (first | refine Safe.seq ?_ | refine Safe.skip ?_ | with_reducible refine thenQ.n ?_ | with_reducible refine blockQ.n ?_)
      refine ifG h (fun hc3490 h => ?_) (fun hc3490 h => ?_)
      · skip
        refine Safe.condK rfl hc3490 ?_
        repeat (first | refine Safe.seq ?_ | refine Safe.skip ?_ | with_reducible refine thenQ.n ?_ | with_reducible refine blockQ.n ?_)
        refine Safe.region ?_
        refine SafeOps.quiet0 E_good rfl rfl rfl (v := V.bool false) (.fn rfl) ?_
        refine SafeOps.nil ?_
        repeat (first | refine Safe.seq ?_ | refine Safe.skip ?_ | with_reducible refine thenQ.n ?_ | with_reducible refine blockQ.n ?_)
        refine Safe.ret ?_
        repeat (first | with_reducible refine thenQ.r ?_ | with_reducible refine blockQ.r ?_)
        replace h := inr_out h hr3486
        obtain rfl := Option.some.inj h
        exact retQ.gen (vs := [V.bool false]) rfl (.tmp (v := V.bool false) rfl .nil) (.free rfl) (by simp) (.inr rfl)
      · skip
        refine Safe.condN rfl hc3490 ?_
        repeat (first | refine Safe.seq ?_ | refine Safe.skip ?_ | with_reducible refine thenQ.n ?_ | with_reducible refine blockQ.n ?_)
        refine Safe.region ?_
        refine SafeOps.quiet0 E_good rfl rfl rfl (v := V.int .i64 (IntKind.i64.wrap (v13_3485 + 1))) (.fn rfl) ?_
        refine SafeOps.quiet0 E_good rfl rfl rfl (v := V.int .i64 (IntKind.i64.wrap (v13_3485 + 1))) (.fn rfl) ?_
        refine SafeOps.nil ?_
        repeat (first | refine Safe.seq ?_ | refine Safe.skip ?_ | with_reducible refine thenQ.n ?_ | with_reducible refine blockQ.n ?_)
        exact ⟨_, next_out h, (.cov ⟨rfl, rfl, (upT_cons (.refl _) (upT_cons (.refl _) (upT_cons (.refl _) (upT_cons (.refl _) upT_nil)))), upOb_nil, upOut_nil, rfl⟩)⟩
    · skip
      refine Safe.condN rfl hc3487 ?_
      repeat (first | refine Safe.seq ?_ | refine Safe.skip ?_ | with_reducible refine thenQ.n ?_ | with_reducible refine blockQ.n ?_)
      refine Safe.exit ?_
      repeat (first | with_reducible refine thenQ.e ?_ | with_reducible refine blockQ.x rfl ?_ | with_reducible refine blockQ.y rfl ?_)
      replace h := inr_out h hr3486
      repeat (first | refine Safe.seq ?_ | refine Safe.skip ?_ | with_reducible refine thenQ.n ?_ | with_reducible refine blockQ.n ?_)
      refine Safe.region ?_
      refine SafeOps.quiet0 E_good rfl rfl rfl (v := V.bool true) (.fn rfl) ?_
      refine SafeOps.nil ?_
      repeat (first | refine Safe.seq ?_ | refine Safe.skip ?_ | with_reducible refine thenQ.n ?_ | with_reducible refine blockQ.n ?_)
      refine Safe.ret ?_
      repeat (first | with_reducible refine thenQ.r ?_ | with_reducible refine blockQ.r ?_)
      obtain rfl := Option.some.inj h
      exact retQ.gen (vs := [V.bool true]) rfl (.tmp (v := V.bool true) rfl .nil) (.free rfl) (by simp) (.inr rfl)
end Go.Proofs.Ythhpnmfcmgdghaa
