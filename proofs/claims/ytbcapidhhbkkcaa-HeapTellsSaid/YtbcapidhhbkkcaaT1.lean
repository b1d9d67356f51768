/- Helper lemmas for the claim's theorem: an abstract machine over the model, proved sound; no condition beyond each lemma's own. -/
import Derived.Test.YtbcapidhhbkkcaaT0
set_option linter.unusedVariables false
set_option linter.unusedSimpArgs false
set_option linter.unnecessarySimpa false
set_option linter.unusedSectionVars false
namespace Go.Proofs.Ytbcapidhhbkkcaa
open Go Go.AM
set_option maxRecDepth 100000
set_option maxHeartbeats 1000000
set_option linter.unusedVariables false
set_option linter.unusedSimpArgs false
variable {gl : List (Nat × List V)}
theorem okT24 : (eqOk Try.prog E 20 24 && !Try.prog.eqGuardType Try.prog.depth 24) = true := by kernel_rfl

noncomputable def go_ravelref08_SameList_s1 (a0_1735 : List api_Timer) (a1_1736 : List api_Timer) : (Int) → Option ((Int) ⊕ (Bool))
  | v13_1765 =>
    if (decide (v13_1765 < (a0_1735.length : Int))) = true then
      if 0 ≤ v13_1765 ∧ v13_1765 < (a0_1735.length : Int) then
        if 0 ≤ v13_1765 ∧ v13_1765 < (a1_1736.length : Int) then
          if (!(api_Timer.beq (gt a0_1735 v13_1765) (gt a1_1736 v13_1765))) = true then
            inrO (
              some false)
          else
            nextO (IntKind.i64.wrap (v13_1765 + 1))
        else none
      else none
    else
      inrO (
        some true)

noncomputable def go_ravelref08_SameList (a0_1735 : List api_Timer) (a1_1736 : List api_Timer) : Option Bool :=
  if ((a0_1735.length : Int) != (a1_1736.length : Int)) = true then
    some false
  else
    whileO (go_ravelref08_SameList_s1 a0_1735 a1_1736) 0

theorem go_ravelref08_SameList_sc (a0_1735 : List api_Timer) (a1_1736 : List api_Timer) (r : Bool) (h : go_ravelref08_SameList a0_1735 a1_1736 = some r) : SC Try.prog gl 18 [V.sl 2 (rws api_Timer.cells a0_1735), V.sl 2 (rws api_Timer.cells a1_1736)] (V.bool r) := by
  rw [go_ravelref08_SameList] at h
  refine SC.of E_good Try.func18 rfl (fun _ _ => Try.call18 _ _) rfl ?_
  repeat (first | refine Safe.seq ?_ | refine Safe.skip ?_ | with_reducible refine thenQ.n ?_ | with_reducible refine blockQ.n ?_)
  refine Safe.region ?_
  refine SafeOps.quiet0 E_good rfl rfl rfl (v := V.bool false) (.fn rfl) ?_
  refine SafeOps.nil ?_
  repeat (first | refine Safe.seq ?_ | refine Safe.skip ?_ | with_reducible refine thenQ.n ?_ | with_reducible refine blockQ.n ?_)
  refine Safe.region ?_
  refine SafeOps.quiet0 E_good rfl rfl rfl (v := V.sl 2 (rws api_Timer.cells a0_1735)) (.fn rfl) ?_
  refine SafeOps.quiet0 E_good rfl rfl rfl (v := V.int .i64 (a0_1735.length : Int)) (.fnE rfl lenE) ?_
  refine SafeOps.quiet0 E_good rfl rfl rfl (v := V.sl 2 (rws api_Timer.cells a1_1736)) (.fn rfl) ?_
  refine SafeOps.quiet0 E_good rfl rfl rfl (v := V.int .i64 (a1_1736.length : Int)) (.fnE rfl lenE) ?_
  refine SafeOps.quiet0 E_good rfl rfl rfl (v := V.bool ((a0_1735.length : Int) != (a1_1736.length : Int))) (.fn rfl) ?_
  refine SafeOps.nil ?_
  repeat (first | refine Safe.seq ?_ | refine Safe.skip ?_ | with_reducible refine thenQ.n ?_ | with_reducible refine blockQ.n ?_)
  refine ifG h (fun hc1755 h => ?_) (fun hc1755 h => ?_)
  · skip
    refine Safe.condK rfl hc1755 ?_
    repeat (first | refine Safe.seq ?_ | refine Safe.skip ?_ | with_reducible refine thenQ.n ?_ | with_reducible refine blockQ.n ?_)
    refine Safe.region ?_
    refine SafeOps.quiet0 E_good rfl rfl rfl (v := V.bool false) (.fn rfl) ?_
    refine SafeOps.nil ?_
    repeat (first | refine Safe.seq ?_ | refine Safe.skip ?_ | with_reducible refine thenQ.n ?_ | with_reducible refine blockQ.n ?_)
    refine Safe.ret ?_
    repeat (first | with_reducible refine thenQ.r ?_ | with_reducible refine blockQ.r ?_)
    obtain rfl := Option.some.inj h
    exact retQ.gen (vs := [V.bool false]) rfl (.tmp (v := V.bool false) rfl .nil) (.free rfl) (by simp) (.inr rfl)
  · skip
    refine Safe.condN rfl hc1755 ?_
    repeat (first | refine Safe.seq ?_ | refine Safe.skip ?_ | with_reducible refine thenQ.n ?_ | with_reducible refine blockQ.n ?_)
    refine Safe.region ?_
    refine SafeOps.quiet0 E_good rfl rfl rfl (v := V.sl 2 (rws api_Timer.cells a0_1735)) (.fn rfl) ?_
    refine SafeOps.quiet0 E_good rfl rfl rfl (v := V.int .i64 (a0_1735.length : Int)) (.fnE rfl lenE) ?_
    refine SafeOps.quiet0 E_good rfl rfl rfl (v := V.int .i64 0) (.fn rfl) ?_
    refine SafeOps.nil ?_
    repeat (first | refine Safe.seq ?_ | refine Safe.skip ?_ | with_reducible refine thenQ.n ?_ | with_reducible refine blockQ.n ?_)
    refine Safe.block ?_
    repeat (first | refine Safe.seq ?_ | refine Safe.skip ?_ | with_reducible refine thenQ.n ?_ | with_reducible refine blockQ.n ?_)
    refine Safe.loopW (fun (v13_1765 : Int) => ⟨Try.f18.ntmps, [(0, V.sl 2 (rws api_Timer.cells a0_1735)), (1, V.sl 2 (rws api_Timer.cells a1_1736)), (12, V.int .i64 (a0_1735.length : Int)), (13, V.int .i64 v13_1765)], [], [], []⟩) h (.cov ⟨rfl, rfl, (upT_cons (.refl _) (upT_cons (.refl _) (upT_cons (.refl _) (upT_cons (.refl _) upT_nil)))), upOb_nil, upOut_nil, rfl⟩) ?_
    intro v13_1765 ohr1766 h hr1766
    replace h : go_ravelref08_SameList_s1 a0_1735 a1_1736 v13_1765 = some ohr1766 := h
    rw [go_ravelref08_SameList_s1] at h
    repeat (first | refine Safe.seq ?_ | refine Safe.skip ?_ | with_reducible refine thenQ.n ?_ | with_reducible refine blockQ.n ?_)
    refine Safe.region ?_
    refine SafeOps.quiet0 E_good rfl rfl rfl (v := V.bool (decide (v13_1765 < (a0_1735.length : Int)))) (.fn rfl) ?_
    refine SafeOps.nil ?_
    repeat (first | refine Safe.seq ?_ | refine Safe.skip ?_ | with_reducible refine thenQ.n ?_ | with_reducible refine blockQ.n ?_)
    refine ifG h (fun hc1767 h => ?_) (fun hc1767 h => ?_)
    · skip
      refine Safe.condK rfl hc1767 ?_
      repeat (first | refine Safe.seq ?_ | refine Safe.skip ?_ | with_reducible refine thenQ.n ?_ | with_reducible refine blockQ.n ?_)
      refine Safe.block ?_
      repeat (first | refine Safe.seq ?_ | refine Safe.skip ?_ | with_reducible refine thenQ.n ?_ | with_reducible refine blockQ.n ?_)
      refine Safe.region ?_
      refine SafeOps.quiet0 E_good rfl rfl rfl (v := V.int .i64 v13_1765) (.fn rfl) ?_
      refine SafeOps.quiet0 E_good rfl rfl rfl (v := V.int .i64 v13_1765) (.fn rfl) ?_
      refine SafeOps.nil ?_
      repeat (first | refine Safe.seq ?_ | refine Safe.skip ?_ | with_reducible refine thenQ.n ?_ | with_reducible refine blockQ.n ?_)
      refine Safe.regionD (n := 9) [] [] E_good mixed rfl ?_
      refine DAny.take (i := 0) rfl (by kernel_rfl) [] (by kernel_rfl) (by kernel_rfl) (by kernel_rfl) rfl rfl rfl (v := V.sl 2 (rws api_Timer.cells a0_1735)) (fun _ hz => (.fn rfl)) ?_
      refine DAny.take (i := 1) rfl (by kernel_rfl) [] (by kernel_rfl) (by kernel_rfl) (by kernel_rfl) rfl rfl rfl (v := V.int .i64 v13_1765) (fun _ hz => (.fn rfl)) ?_
      refine okG h (fun hb1768 h => ?_)
      refine DAny.take (i := 2) rfl (by kernel_rfl) [] (by kernel_rfl) (by kernel_rfl) (by kernel_rfl) rfl rfl rfl (v := V.spt 2 (rws api_Timer.cells a0_1735) (Int.toNat v13_1765) 0) (fun _ hz => (.idxSlM (f := api_Timer.cells) rfl rfl rfl rfl rfl hb1768)) ?_
      refine DAny.take (i := 3) rfl (by kernel_rfl) [] (by kernel_rfl) (by kernel_rfl) (by kernel_rfl) rfl rfl rfl (v := V.agg [V.int .i64 ((gt a0_1735 v13_1765).At), V.int .i64 ((gt a0_1735 v13_1765).Id)]) (fun _ hz => (.load rfl rfl (.sptM (f := api_Timer.cells) hb1768 rfl) rfl)) ?_
      refine DAny.take (i := 4) rfl (by kernel_rfl) [] (by kernel_rfl) (by kernel_rfl) (by kernel_rfl) rfl rfl rfl (v := V.sl 2 (rws api_Timer.cells a1_1736)) (fun _ hz => (.fn rfl)) ?_
      refine DAny.take (i := 5) rfl (by kernel_rfl) [] (by kernel_rfl) (by kernel_rfl) (by kernel_rfl) rfl rfl rfl (v := V.int .i64 v13_1765) (fun _ hz => (.fn rfl)) ?_
      refine okG h (fun hb1769 h => ?_)
      refine DAny.take (i := 6) rfl (by kernel_rfl) [] (by kernel_rfl) (by kernel_rfl) (by kernel_rfl) rfl rfl rfl (v := V.spt 2 (rws api_Timer.cells a1_1736) (Int.toNat v13_1765) 0) (fun _ hz => (.idxSlM (f := api_Timer.cells) rfl rfl rfl rfl rfl hb1769)) ?_
      refine DAny.take (i := 7) rfl (by kernel_rfl) [] (by kernel_rfl) (by kernel_rfl) (by kernel_rfl) rfl rfl rfl (v := V.agg [V.int .i64 ((gt a1_1736 v13_1765).At), V.int .i64 ((gt a1_1736 v13_1765).Id)]) (fun _ hz => (.load rfl rfl (.sptM (f := api_Timer.cells) hb1769 rfl) rfl)) ?_
      refine DAny.take (i := 8) rfl (by kernel_rfl) [] (by kernel_rfl) (by kernel_rfl) (by kernel_rfl) rfl rfl rfl (v := V.bool (!(api_Timer.beq (gt a0_1735 v13_1765) (gt a1_1736 v13_1765)))) (fun _ hz => (.neA rfl rfl rfl rfl okT24 rfl)) ?_
      refine DAny.nil (by kernel_rfl) ?_
      repeat (first | refine Safe.seq ?_ | refine Safe.skip ?_ | with_reducible refine thenQ.n ?_ | with_reducible refine blockQ.n ?_)
      refine ifG h (fun hc1770 h => ?_) (fun hc1770 h => ?_)
      · skip
        refine Safe.condK rfl hc1770 ?_
        repeat (first | refine Safe.seq ?_ | refine Safe.skip ?_ | with_reducible refine thenQ.n ?_ | with_reducible refine blockQ.n ?_)
        refine Safe.region ?_
        refine SafeOps.quiet0 E_good rfl rfl rfl (v := V.bool false) (.fn rfl) ?_
        refine SafeOps.nil ?_
        repeat (first | refine Safe.seq ?_ | refine Safe.skip ?_ | with_reducible refine thenQ.n ?_ | with_reducible refine blockQ.n ?_)
        refine Safe.ret ?_
        repeat (first | with_reducible refine thenQ.r ?_ | with_reducible refine blockQ.r ?_)
        replace h := inr_out h hr1766
        obtain rfl := Option.some.inj h
        exact retQ.gen (vs := [V.bool false]) rfl (.tmp (v := V.bool false) rfl .nil) (.free rfl) (by simp) (.inr rfl)
      · skip
        refine Safe.condN rfl hc1770 ?_
        repeat (first | refine Safe.seq ?_ | refine Safe.skip ?_ | with_reducible refine thenQ.n ?_ | with_reducible refine blockQ.n ?_)
        refine Safe.region ?_
        refine SafeOps.quiet0 E_good rfl rfl rfl (v := V.int .i64 (IntKind.i64.wrap (v13_1765 + 1))) (.fn rfl) ?_
        refine SafeOps.quiet0 E_good rfl rfl rfl (v := V.int .i64 (IntKind.i64.wrap (v13_1765 + 1))) (.fn rfl) ?_
        refine SafeOps.nil ?_
        repeat (first | refine Safe.seq ?_ | refine Safe.skip ?_ | with_reducible refine thenQ.n ?_ | with_reducible refine blockQ.n ?_)
        exact ⟨_, next_out h, (.cov ⟨rfl, rfl, (upT_cons (.refl _) (upT_cons (.refl _) (upT_cons (.refl _) (upT_cons (.refl _) upT_nil)))), upOb_nil, upOut_nil, rfl⟩)⟩
    · skip
      refine Safe.condN rfl hc1767 ?_
      repeat (first | refine Safe.seq ?_ | refine Safe.skip ?_ | with_reducible refine thenQ.n ?_ | with_reducible refine blockQ.n ?_)
      refine Safe.exit ?_
      repeat (first | with_reducible refine thenQ.e ?_ | with_reducible refine blockQ.x rfl ?_ | with_reducible refine blockQ.y rfl ?_)
      replace h := inr_out h hr1766
      repeat (first | refine Safe.seq ?_ | refine Safe.skip ?_ | with_reducible refine thenQ.n ?_ | with_reducible refine blockQ.n ?_)
      refine Safe.region ?_
      refine SafeOps.quiet0 E_good rfl rfl rfl (v := V.bool true) (.fn rfl) ?_
      refine SafeOps.nil ?_
      repeat (first | refine Safe.seq ?_ | refine Safe.skip ?_ | with_reducible refine thenQ.n ?_ | with_reducible refine blockQ.n ?_)
      refine Safe.ret ?_
      repeat (first | with_reducible refine thenQ.r ?_ | with_reducible refine blockQ.r ?_)
      obtain rfl := Option.some.inj h
      exact retQ.gen (vs := [V.bool true]) rfl (.tmp (v := V.bool true) rfl .nil) (.free rfl) (by simp) (.inr rfl)

noncomputable def go_ravelref08_Same (a0_1729 : List api_Timer) (a1_1730 : List api_Timer) : Option Bool :=
  (go_ravelref08_Order a0_1729).bind fun x_1773 =>
  (go_ravelref08_Order a1_1730).bind fun x_1775 =>
  (go_ravelref08_SameList x_1773 x_1775).bind fun x_1777 =>
  some x_1777

theorem go_ravelref08_Same_sc (a0_1729 : List api_Timer) (a1_1730 : List api_Timer) (r : Bool) (h : go_ravelref08_Same a0_1729 a1_1730 = some r) : SC Try.prog gl 30 [V.sl 2 (rws api_Timer.cells a0_1729), V.sl 2 (rws api_Timer.cells a1_1730)] (V.bool r) := by
  rw [go_ravelref08_Same] at h
  refine SC.of E_good Try.func30 rfl (fun _ _ => Try.call30 _ _) rfl ?_
  repeat (first | refine Safe.seq ?_ | refine Safe.skip ?_ | with_reducible refine thenQ.n ?_ | with_reducible refine blockQ.n ?_)
  refine Safe.region ?_
  refine SafeOps.quiet0 E_good rfl rfl rfl (v := V.bool false) (.fn rfl) ?_
  refine SafeOps.nil ?_
  repeat (first | refine Safe.seq ?_ | refine Safe.skip ?_ | with_reducible refine thenQ.n ?_ | with_reducible refine blockQ.n ?_)
  refine Safe.region ?_
  refine SafeOps.quiet0 E_good rfl rfl rfl (v := V.sl 2 (rws api_Timer.cells a0_1729)) (.fn rfl) ?_
  refine bindG h ?_
  intro x_1773 he1774 h
  refine SafeOps.quiet E_good rfl rfl rfl (v := V.ref [6, 0] 0 (rws api_Timer.cells x_1773).length) (.callP rfl rfl (go_ravelref08_Order_sc a0_1729 _ he1774) rfl) rfl ?_
  refine SafeOps.quiet0 E_good rfl rfl rfl (v := V.sl 2 (rws api_Timer.cells a1_1730)) (.fn rfl) ?_
  refine bindG h ?_
  intro x_1775 he1776 h
  refine SafeOps.quiet E_good rfl rfl rfl (v := V.ref [8, 0] 0 (rws api_Timer.cells x_1775).length) (.callP rfl rfl (go_ravelref08_Order_sc a1_1730 _ he1776) rfl) rfl ?_
  refine bindG h ?_
  intro x_1777 he1778 h
  refine SafeOps.quiet0 E_good rfl rfl rfl (v := V.bool x_1777) (.callS rfl (.cons (.full rfl rfl) (.cons (.full rfl rfl) .nil)) (go_ravelref08_SameList_sc x_1773 x_1775 _ he1778) (.plain rfl) rfl) ?_
  refine SafeOps.quiet0 E_good rfl rfl rfl (v := V.bool x_1777) (.fn rfl) ?_
  refine SafeOps.nil ?_
  repeat (first | refine Safe.seq ?_ | refine Safe.skip ?_ | with_reducible refine thenQ.n ?_ | with_reducible refine blockQ.n ?_)
  refine Safe.ret ?_
  repeat (first | with_reducible refine thenQ.r ?_ | with_reducible refine blockQ.r ?_)
  obtain rfl := Option.some.inj h
  exact retQ.gen (vs := [V.bool x_1777]) rfl (.tmp (v := V.bool x_1777) rfl .nil) (.free rfl) (by simp) (.inr rfl)

noncomputable def go_ravellaw08_fits (a0_1709 : List api_Timer) (a1_1710 : Int) (a2_1711 : List api_Timer) (a3_1712 : Int) : Option Bool :=
  if ((a1_1710 != 0) || (a3_1712 != 0)) = true then
    some ((a1_1710 == a3_1712) && ((a0_1709.length : Int) == 0))
  else
    (go_ravelref08_Check a0_1709).bind fun x_1787 =>
    if (x_1787 == 0) = true then
      (go_ravelref08_Same a0_1709 a2_1711).bind fun x_1792 =>
      some x_1792
    else
      some false

theorem go_ravellaw08_fits_sc (a0_1709 : List api_Timer) (a1_1710 : Int) (a2_1711 : List api_Timer) (a3_1712 : Int) (r : Bool) (h : go_ravellaw08_fits a0_1709 a1_1710 a2_1711 a3_1712 = some r) : SC Try.prog gl 17 [V.sl 2 (rws api_Timer.cells a0_1709), V.int .i64 a1_1710, V.sl 2 (rws api_Timer.cells a2_1711), V.int .i64 a3_1712] (V.bool r) := by
  rw [go_ravellaw08_fits] at h
  refine SC.of E_good Try.func17 rfl (fun _ _ => Try.call17 _ _) rfl ?_
  repeat (first | refine Safe.seq ?_ | refine Safe.skip ?_ | with_reducible refine thenQ.n ?_ | with_reducible refine blockQ.n ?_)
  refine Safe.region ?_
  refine SafeOps.quiet0 E_good rfl rfl rfl (v := V.bool false) (.fn rfl) ?_
  refine SafeOps.nil ?_
  repeat (first | refine Safe.seq ?_ | refine Safe.skip ?_ | with_reducible refine thenQ.n ?_ | with_reducible refine blockQ.n ?_)
  refine Safe.region ?_
  refine SafeOps.quiet0 E_good rfl rfl rfl (v := V.int .i64 a1_1710) (.fn rfl) ?_
  refine SafeOps.quiet0 E_good rfl rfl rfl (v := V.bool (a1_1710 != 0)) (.fn rfl) ?_
  refine SafeOps.quiet0 E_good rfl rfl rfl (v := V.bool (a1_1710 != 0)) (.fn rfl) ?_
  refine SafeOps.bjoin 3 14 (b := ((a1_1710 != 0) || (a3_1712 != 0))) (b1 := true) (b0 := (a3_1712 != 0)) (fun hc1783 K => ?_) (fun hc1783 K => ?_) bj_or ?_
  · skip
    refine SafeOps.skip (congrArg (fun b => some (!b)) hc1783) rfl rfl ?_
    refine SafeOps.skip (congrArg (fun b => some (!b)) hc1783) rfl rfl ?_
    refine SafeOps.quiet0 E_good rfl rfl rfl (v := V.bool true) (.pickK rfl hc1783 rfl) ?_
    exact SafeOps.drop' 3 rfl rfl rfl K
  · skip
    refine SafeOps.quiet0 E_good (congrArg (fun b => some (!b)) hc1783) rfl rfl (v := V.int .i64 a3_1712) (.fn rfl) ?_
    refine SafeOps.quiet0 E_good (congrArg (fun b => some (!b)) hc1783) rfl rfl (v := V.bool (a3_1712 != 0)) (.fn rfl) ?_
    refine SafeOps.quiet0 E_good rfl rfl rfl (v := V.bool (a3_1712 != 0)) (.pickK rfl hc1783 rfl) ?_
    exact SafeOps.drop' 3 rfl rfl rfl K
  refine SafeOps.nil ?_
  repeat (first | refine Safe.seq ?_ | refine Safe.skip ?_ | with_reducible refine thenQ.n ?_ | with_reducible refine blockQ.n ?_)
  refine ifG h (fun hc1785 h => ?_) (fun hc1785 h => ?_)
  · skip
    refine Safe.condK rfl hc1785 ?_
    repeat (first | refine Safe.seq ?_ | refine Safe.skip ?_ | with_reducible refine thenQ.n ?_ | with_reducible refine blockQ.n ?_)
    refine Safe.region ?_
    refine SafeOps.quiet0 E_good rfl rfl rfl (v := V.int .i64 a1_1710) (.fn rfl) ?_
    refine SafeOps.quiet0 E_good rfl rfl rfl (v := V.int .i64 a3_1712) (.fn rfl) ?_
    refine SafeOps.quiet0 E_good rfl rfl rfl (v := V.bool (a1_1710 == a3_1712)) (.fn rfl) ?_
    refine SafeOps.quiet0 E_good rfl rfl rfl (v := V.bool (a1_1710 == a3_1712)) (.fn rfl) ?_
    refine SafeOps.bjoin 4 22 (b := ((a1_1710 == a3_1712) && ((a0_1709.length : Int) == 0))) (b1 := ((a0_1709.length : Int) == 0)) (b0 := false) (fun hc1786 K => ?_) (fun hc1786 K => ?_) bj_and ?_
    · skip
      refine SafeOps.quiet0 E_good (congrArg some hc1786) rfl rfl (v := V.sl 2 (rws api_Timer.cells a0_1709)) (.fn rfl) ?_
      refine SafeOps.quiet0 E_good (congrArg some hc1786) rfl rfl (v := V.int .i64 (a0_1709.length : Int)) (.fnE rfl lenE) ?_
      refine SafeOps.quiet0 E_good (congrArg some hc1786) rfl rfl (v := V.bool ((a0_1709.length : Int) == 0)) (.fn rfl) ?_
      refine SafeOps.quiet0 E_good rfl rfl rfl (v := V.bool ((a0_1709.length : Int) == 0)) (.pickK rfl hc1786 rfl) ?_
      exact SafeOps.drop' 4 rfl rfl rfl K
    · skip
      refine SafeOps.skip (congrArg some hc1786) rfl rfl ?_
      refine SafeOps.skip (congrArg some hc1786) rfl rfl ?_
      refine SafeOps.skip (congrArg some hc1786) rfl rfl ?_
      refine SafeOps.quiet0 E_good rfl rfl rfl (v := V.bool false) (.pickK rfl hc1786 rfl) ?_
      exact SafeOps.drop' 4 rfl rfl rfl K
    refine SafeOps.quiet0 E_good rfl rfl rfl (v := V.bool ((a1_1710 == a3_1712) && ((a0_1709.length : Int) == 0))) (.fn rfl) ?_
    refine SafeOps.nil ?_
    repeat (first | refine Safe.seq ?_ | refine Safe.skip ?_ | with_reducible refine thenQ.n ?_ | with_reducible refine blockQ.n ?_)
    refine Safe.ret ?_
    repeat (first | with_reducible refine thenQ.r ?_ | with_reducible refine blockQ.r ?_)
    obtain rfl := Option.some.inj h
    exact retQ.gen (vs := [V.bool ((a1_1710 == a3_1712) && ((a0_1709.length : Int) == 0))]) rfl (.tmp (v := V.bool ((a1_1710 == a3_1712) && ((a0_1709.length : Int) == 0))) rfl .nil) (.free rfl) (by simp) (.inr rfl)
  · skip
    refine Safe.condN rfl hc1785 ?_
    repeat (first | refine Safe.seq ?_ | refine Safe.skip ?_ | with_reducible refine thenQ.n ?_ | with_reducible refine blockQ.n ?_)
    refine Safe.region ?_
    refine SafeOps.quiet0 E_good rfl rfl rfl (v := V.sl 2 (rws api_Timer.cells a0_1709)) (.fn rfl) ?_
    refine bindG h ?_
    intro x_1787 he1788 h
    refine SafeOps.quiet0 E_good rfl rfl rfl (v := V.int .i64 x_1787) (.callP rfl rfl (go_ravelref08_Check_sc a0_1709 _ he1788) rfl) ?_
    refine SafeOps.quiet0 E_good rfl rfl rfl (v := V.bool (x_1787 == 0)) (.fn rfl) ?_
    refine SafeOps.quiet0 E_good rfl rfl rfl (v := V.bool (x_1787 == 0)) (.fn rfl) ?_
    refine ifG h (fun hc1789 h => ?_) (fun hc1789 h => ?_)
    · skip
      refine SafeOps.quiet0 E_good (congrArg some hc1789) rfl rfl (v := V.sl 2 (rws api_Timer.cells a0_1709)) (.fn rfl) ?_
      refine SafeOps.quiet0 E_good (congrArg some hc1789) rfl rfl (v := V.sl 2 (rws api_Timer.cells a2_1711)) (.fn rfl) ?_
      refine bindG h ?_
      intro x_1792 he1793 h
      refine SafeOps.quiet0 E_good (congrArg some hc1789) rfl rfl (v := V.bool x_1792) (.callP rfl rfl (go_ravelref08_Same_sc a0_1709 a2_1711 _ he1793) rfl) ?_
      refine SafeOps.quiet0 E_good rfl rfl rfl (v := V.bool x_1792) (.pickK rfl hc1789 rfl) ?_
      refine SafeOps.quiet0 E_good rfl rfl rfl (v := V.bool x_1792) (.fn rfl) ?_
      refine SafeOps.nil ?_
      repeat (first | refine Safe.seq ?_ | refine Safe.skip ?_ | with_reducible refine thenQ.n ?_ | with_reducible refine blockQ.n ?_)
      refine Safe.ret ?_
      repeat (first | with_reducible refine thenQ.r ?_ | with_reducible refine blockQ.r ?_)
      obtain rfl := Option.some.inj h
      exact retQ.gen (vs := [V.bool x_1792]) rfl (.tmp (v := V.bool x_1792) rfl .nil) (.free rfl) (by simp) (.inr rfl)
    · skip
      refine SafeOps.skip (congrArg some hc1789) rfl rfl ?_
      refine SafeOps.skip (congrArg some hc1789) rfl rfl ?_
      refine SafeOps.skip (congrArg some hc1789) rfl rfl ?_
      refine SafeOps.quiet0 E_good rfl rfl rfl (v := V.bool false) (.pickK rfl hc1789 rfl) ?_
      refine SafeOps.quiet0 E_good rfl rfl rfl (v := V.bool false) (.fn rfl) ?_
      refine SafeOps.nil ?_
      repeat (first | refine Safe.seq ?_ | refine Safe.skip ?_ | with_reducible refine thenQ.n ?_ | with_reducible refine blockQ.n ?_)
      refine Safe.ret ?_
      repeat (first | with_reducible refine thenQ.r ?_ | with_reducible refine blockQ.r ?_)
      obtain rfl := Option.some.inj h
      exact retQ.gen (vs := [V.bool false]) rfl (.tmp (v := V.bool false) rfl .nil) (.free rfl) (by simp) (.inr rfl)

noncomputable def go_heap_Sorted_s1 (a0_1922 : List api_Timer) : (Int × (List api_Timer)) → Option ((Int × (List api_Timer)) ⊕ ((List api_Timer) × Int))
  | (v7_1953, v12_7_4_20_1954) =>
    if (decide (v7_1953 < (a0_1922.length : Int))) = true then
      if 0 ≤ v7_1953 ∧ v7_1953 < (a0_1922.length : Int) then
        if few (v12_7_4_20_1954 ++ [(gt a0_1922 v7_1953)]).length then
          nextO (IntKind.i64.wrap (v7_1953 + 1), v12_7_4_20_1954 ++ [(gt a0_1922 v7_1953)])
        else none
      else none
    else
      inrO (
        (sortO go_heap_order v12_7_4_20_1954).bind fun s_1959 =>
        some (s_1959, 0))

noncomputable def go_heap_Sorted (a0_1922 : List api_Timer) : Option ((List api_Timer) × Int) :=
  (go_heap_Check a0_1922).bind fun x_1942 =>
  if (x_1942 != 0) = true then
    some ([], x_1942)
  else
    whileO (go_heap_Sorted_s1 a0_1922) (0, [])

theorem go_heap_Sorted_sc (a0_1922 : List api_Timer) (r : (List api_Timer) × Int) (h : go_heap_Sorted a0_1922 = some r) : SC Try.prog gl 22 [V.sl 2 (rws api_Timer.cells a0_1922)] (V.tup [V.own 2 (rws api_Timer.cells r.1), V.int .i64 r.2]) := by
  rw [go_heap_Sorted] at h
  refine SC.of E_good Try.func22 rfl (fun _ _ => Try.call22 _ _) rfl ?_
  repeat (first | refine Safe.seq ?_ | refine Safe.skip ?_ | with_reducible refine thenQ.n ?_ | with_reducible refine blockQ.n ?_)
  refine Safe.region ?_
  refine SafeOps.quiet0 E_good rfl rfl rfl (v := V.nils) (.fn rfl) ?_
  refine SafeOps.quiet0 E_good rfl rfl rfl (v := V.int .i64 0) (.fn rfl) ?_
  refine SafeOps.nil ?_
  repeat (first | refine Safe.seq ?_ | refine Safe.skip ?_ | with_reducible refine thenQ.n ?_ | with_reducible refine blockQ.n ?_)
  refine Safe.region ?_
  refine SafeOps.quiet0 E_good rfl rfl rfl (v := V.sl 2 (rws api_Timer.cells a0_1922)) (.fn rfl) ?_
  refine bindG h ?_
  intro x_1942 he1943 h
  refine SafeOps.quiet0 E_good rfl rfl rfl (v := V.int .i64 x_1942) (.callP rfl rfl (go_heap_Check_sc a0_1922 _ he1943) rfl) ?_
  refine SafeOps.quiet0 E_good rfl rfl rfl (v := V.int .i64 x_1942) (.fn rfl) ?_
  refine SafeOps.nil ?_
  repeat (first | refine Safe.seq ?_ | refine Safe.skip ?_ | with_reducible refine thenQ.n ?_ | with_reducible refine blockQ.n ?_)
  refine Safe.region ?_
  refine SafeOps.quiet0 E_good rfl rfl rfl (v := V.int .i64 x_1942) (.fn rfl) ?_
  refine SafeOps.quiet0 E_good rfl rfl rfl (v := V.bool (x_1942 != 0)) (.fn rfl) ?_
  refine SafeOps.nil ?_
  repeat (first | refine Safe.seq ?_ | refine Safe.skip ?_ | with_reducible refine thenQ.n ?_ | with_reducible refine blockQ.n ?_)
  refine ifG h (fun hc1944 h => ?_) (fun hc1944 h => ?_)
  · skip
    refine Safe.condK rfl hc1944 ?_
    repeat (first | refine Safe.seq ?_ | refine Safe.skip ?_ | with_reducible refine thenQ.n ?_ | with_reducible refine blockQ.n ?_)
    refine Safe.region ?_
    refine SafeOps.quiet0 E_good rfl rfl rfl (v := V.int .i64 x_1942) (.fn rfl) ?_
    refine SafeOps.quiet0 E_good rfl rfl rfl (v := V.nils) (.fn rfl) ?_
    refine SafeOps.quiet0 E_good rfl rfl rfl (v := V.int .i64 x_1942) (.fn rfl) ?_
    refine SafeOps.nil ?_
    repeat (first | refine Safe.seq ?_ | refine Safe.skip ?_ | with_reducible refine thenQ.n ?_ | with_reducible refine blockQ.n ?_)
    refine Safe.ret ?_
    repeat (first | with_reducible refine thenQ.r ?_ | with_reducible refine blockQ.r ?_)
    obtain rfl := Option.some.inj h
    exact retQ.gen (vs := [V.nils, V.int .i64 x_1942]) rfl (.tmp (v := V.nils) rfl (.tmp (v := V.int .i64 x_1942) rfl .nil)) (by exact (.tup (.cons (.nils _) (.cons (.free rfl) .nil)))) (by simp) (.inr rfl)
  · skip
    refine Safe.condN rfl hc1944 ?_
    repeat (first | refine Safe.seq ?_ | refine Safe.skip ?_ | with_reducible refine thenQ.n ?_ | with_reducible refine blockQ.n ?_)
    refine Safe.region ?_
    refine SafeOps.quiet0 E_good rfl rfl rfl (v := V.sl 2 (rws api_Timer.cells a0_1922)) (.fn rfl) ?_
    refine SafeOps.inline E_good rfl rfl rfl rfl rfl Try.func43 rfl (fun _ _ => Try.call43 _ _) rfl ?_
    repeat (first | refine Safe.seq ?_ | refine Safe.skip ?_ | with_reducible refine thenQ.n ?_ | with_reducible refine blockQ.n ?_)
    refine Safe.region ?_
    refine SafeOps.quiet1 E_good rfl rfl rfl (.box rfl rfl) rfl ?_
    refine SafeOps.quiet0 E_good rfl rfl rfl (v := V.nilf) (.fn rfl) ?_
    refine SafeOps.nil ?_
    repeat (first | refine Safe.seq ?_ | refine Safe.skip ?_ | with_reducible refine thenQ.n ?_ | with_reducible refine blockQ.n ?_)
    refine Safe.region ?_
    refine SafeOps.quiet0 E_good rfl rfl rfl (v := V.fn 51 [V.ptr [11, 1] 0 0]) (.fn rfl) ?_
    refine SafeOps.quiet0 E_good rfl rfl rfl (v := V.fn 51 [V.ptr [11, 1] 0 0]) (.fn rfl) ?_
    refine SafeOps.nil ?_
    repeat (first | refine Safe.seq ?_ | refine Safe.skip ?_ | with_reducible refine thenQ.n ?_ | with_reducible refine blockQ.n ?_)
    refine Safe.ret ?_
    repeat (first | with_reducible refine thenQ.r ?_ | with_reducible refine blockQ.r ?_)
    refine inQ.gen (vs := [V.fn 51 [V.ptr [11, 1] 0 0]]) (v := V.fn 51 [V.ptr [11, 1] 0 0]) (.inr rfl) rfl (.tmp (v := V.fn 51 [V.ptr [11, 1] 0 0]) rfl .nil) rfl ?_
    refine SafeOps.inline E_good rfl rfl rfl rfl rfl Try.func42 rfl (fun _ _ => Try.call42 _ _) rfl ?_
    repeat (first | refine Safe.seq ?_ | refine Safe.skip ?_ | with_reducible refine thenQ.n ?_ | with_reducible refine blockQ.n ?_)
    refine Safe.region ?_
    refine SafeOps.quiet0 E_good rfl rfl rfl (v := V.nils) (.fn rfl) ?_
    refine SafeOps.nil ?_
    repeat (first | refine Safe.seq ?_ | refine Safe.skip ?_ | with_reducible refine thenQ.n ?_ | with_reducible refine blockQ.n ?_)
    refine Safe.region ?_
    refine SafeOps.quiet0 E_good rfl rfl rfl (v := V.fn 51 [V.ptr [11, 1] 0 0]) (.fn rfl) ?_
    refine SafeOps.inline E_good rfl rfl rfl rfl rfl Try.func49 rfl (fun _ _ => Try.call49 _ _) rfl ?_
    repeat (first | refine Safe.seq ?_ | refine Safe.skip ?_ | with_reducible refine thenQ.n ?_ | with_reducible refine blockQ.n ?_)
    refine Safe.region ?_
    refine SafeOps.quiet0 E_good rfl rfl rfl (v := V.nils) (.fn rfl) ?_
    refine SafeOps.nil ?_
    repeat (first | refine Safe.seq ?_ | refine Safe.skip ?_ | with_reducible refine thenQ.n ?_ | with_reducible refine blockQ.n ?_)
    refine Safe.region ?_
    refine SafeOps.quiet0 E_good rfl rfl rfl (v := V.fn 51 [V.ptr [11, 1] 0 0]) (.fn rfl) ?_
    refine SafeOps.inline E_good rfl rfl rfl rfl rfl Try.func53 rfl (fun _ _ => Try.call53 _ _) rfl ?_
    repeat (first | refine Safe.seq ?_ | refine Safe.skip ?_ | with_reducible refine thenQ.n ?_ | with_reducible refine blockQ.n ?_)
    refine Safe.region ?_
    refine SafeOps.quiet1 E_good rfl rfl rfl (.box rfl rfl) rfl ?_
    refine SafeOps.quiet0 E_good rfl rfl rfl (v := V.nils) (.fn rfl) ?_
    refine SafeOps.nil ?_
    repeat (first | refine Safe.seq ?_ | refine Safe.skip ?_ | with_reducible refine thenQ.n ?_ | with_reducible refine blockQ.n ?_)
    refine Safe.region ?_
    refine SafeOps.quiet0 E_good rfl rfl rfl (v := V.fn 51 [V.ptr [11, 1] 0 0]) (.fn rfl) ?_
    refine SafeOps.nil ?_
    repeat (first | refine Safe.seq ?_ | refine Safe.skip ?_ | with_reducible refine thenQ.n ?_ | with_reducible refine blockQ.n ?_)
    refine Safe.block ?_
    repeat (first | refine Safe.seq ?_ | refine Safe.skip ?_ | with_reducible refine thenQ.n ?_ | with_reducible refine blockQ.n ?_)
    refine Safe.rangeFunc (k := 9007) rfl rfl Try.func51 rfl (fun _ _ => Try.call51 _ _) rfl rfl rfl ?_
    repeat (first | refine Safe.seq ?_ | refine Safe.skip ?_ | with_reducible refine thenQ.n ?_ | with_reducible refine blockQ.n ?_)
    refine Safe.region ?_
    refine SafeOps.quiet0 E_good rfl rfl rfl (v := V.sl 2 (rws api_Timer.cells a0_1922)) (.load rfl rfl (.box rfl rfl) rfl) ?_
    refine SafeOps.quiet0 E_good rfl rfl rfl (v := V.int .i64 (a0_1922.length : Int)) (.fnE rfl lenE) ?_
    refine SafeOps.quiet0 E_good rfl rfl rfl (v := V.int .i64 0) (.fn rfl) ?_
    refine SafeOps.nil ?_
    repeat (first | refine Safe.seq ?_ | refine Safe.skip ?_ | with_reducible refine thenQ.n ?_ | with_reducible refine blockQ.n ?_)
    refine Safe.block ?_
    repeat (first | refine Safe.seq ?_ | refine Safe.skip ?_ | with_reducible refine thenQ.n ?_ | with_reducible refine blockQ.n ?_)
    refine Safe.loopW (fun ((v7_1953, v12_7_4_20_1954) : Int × (List api_Timer)) => ⟨Try.f51.ntmps, [(0, V.yld [12, 7, 4, 9007]), (5, V.sl 2 (rws api_Timer.cells a0_1922)), (6, V.int .i64 (a0_1922.length : Int)), (7, V.int .i64 v7_1953)], [([12, 7, 4, 2], Obj.box [V.ref [7000, 114, 12, 7, 4, 2, 0] 0 (rws api_Timer.cells v12_7_4_20_1954).length]), ([12, 7, 4, 9007], Go.AM.Obj.loop Try.f53.ntmps [(2, V.ptr [12, 7, 4, 2] 0 0)] [7] (rfA Try.f53 0) (rfB Try.f53 0) .ready none), ([7000, 114, 12, 7, 4, 2, 0], Obj.rows 2 (rws api_Timer.cells v12_7_4_20_1954) false)], [(1, [(0, V.yld [12, 7, 4, 9007])]), (Try.f53.ntmps, [(2, V.ptr [12, 7, 4, 2] 0 0)]), (Try.f49.ntmps, []), (Try.f42.ntmps, [(1, V.fn 41 [])]), (Try.f22.ntmps, [])], [12, 7, 4, 9007, 0]⟩) h (.empty [7000, 114, 12, 7, 4, 2, 0] 2 rfl (.cov ⟨rfl, rfl, (upT_cons (.refl _) (upT_cons (.refl _) (upT_cons (.refl _) (upT_cons (.refl _) upT_nil)))), (upOb_cons rfl (.box (.cons (.nilref _) .nil)) (upOb_cons rfl (by exact .loop (upT_cons (.refl _) upT_nil)) (upOb_cons rfl (.refl _) upOb_nil))), (upOut_cons rfl (upT_cons (.refl _) upT_nil) (upOut_cons rfl (upT_cons (.refl _) upT_nil) (upOut_cons rfl upT_nil (upOut_cons rfl (upT_cons (.refl _) upT_nil) (upOut_cons rfl upT_nil upOut_nil))))), rfl⟩)) ?_
    rintro ⟨v7_1953, v12_7_4_20_1954⟩ ohr1955 h hr1955
    replace h : go_heap_Sorted_s1 a0_1922 (v7_1953, v12_7_4_20_1954) = some ohr1955 := h
    rw [go_heap_Sorted_s1] at h
    repeat (first | refine Safe.seq ?_ | refine Safe.skip ?_ | with_reducible refine thenQ.n ?_ | with_reducible refine blockQ.n ?_)
    refine Safe.region ?_
    refine SafeOps.quiet0 E_good rfl rfl rfl (v := V.bool (decide (v7_1953 < (a0_1922.length : Int)))) (.fn rfl) ?_
    refine SafeOps.nil ?_
    repeat (first | refine Safe.seq ?_ | refine Safe.skip ?_ | with_reducible refine thenQ.n ?_ | with_reducible refine blockQ.n ?_)
    refine ifG h (fun hc1956 h => ?_) (fun hc1956 h => ?_)
    · skip
      refine Safe.condK rfl hc1956 ?_
      repeat (first | refine Safe.seq ?_ | refine Safe.skip ?_ | with_reducible refine thenQ.n ?_ | with_reducible refine blockQ.n ?_)
      refine Safe.block ?_
      repeat (first | refine Safe.seq ?_ | refine Safe.skip ?_ | with_reducible refine thenQ.n ?_ | with_reducible refine blockQ.n ?_)
      refine Safe.region ?_
      refine okG h (fun hb1957 h => ?_)
      refine SafeOps.quiet0 E_good rfl rfl rfl (v := V.spt 2 (rws api_Timer.cells a0_1922) (Int.toNat v7_1953) 0) (.idxSlM (f := api_Timer.cells) rfl rfl rfl rfl rfl hb1957) ?_
      refine SafeOps.quiet0 E_good rfl rfl rfl (v := V.agg [V.int .i64 ((gt a0_1922 v7_1953).At), V.int .i64 ((gt a0_1922 v7_1953).Id)]) (.load rfl rfl (.sptM (f := api_Timer.cells) hb1957 rfl) rfl) ?_
      refine SafeOps.quiet1 E_good rfl rfl rfl (.alloc rfl rfl) rfl ?_
      refine SafeOps.store (z := Obj.box [V.int .i64 ((gt a0_1922 v7_1953).At), V.int .i64 ((gt a0_1922 v7_1953).Id)]) E_good rfl rfl rfl rfl rfl rfl rfl (.boxM (c := 2) rfl rfl (Nat.le_of_ble_eq_true rfl) rfl) ?_
      refine SafeOps.nil ?_
      repeat (first | refine Safe.seq ?_ | refine Safe.skip ?_ | with_reducible refine thenQ.n ?_ | with_reducible refine blockQ.n ?_)
      refine Safe.region ?_
      refine SafeOps.quiet0 E_good rfl rfl rfl (v := V.yld [12, 7, 4, 9007]) (.fn rfl) ?_
      refine SafeOps.quiet0 E_good rfl rfl rfl (v := V.agg [V.int .i64 ((gt a0_1922 v7_1953).At), V.int .i64 ((gt a0_1922 v7_1953).Id)]) (.load rfl rfl (.box rfl rfl) rfl) ?_
      refine SafeOps.yield rfl rfl rfl rfl rfl rfl rfl rfl ?_
      repeat (first | refine Safe.seq ?_ | refine Safe.skip ?_ | with_reducible refine thenQ.n ?_ | with_reducible refine blockQ.n ?_)
      refine Safe.region ?_
      refine SafeOps.quiet1 E_good rfl rfl rfl (.alloc rfl rfl) rfl ?_
      refine SafeOps.store (z := Obj.box [V.int .i64 ((gt a0_1922 v7_1953).At), V.int .i64 ((gt a0_1922 v7_1953).Id)]) E_good rfl rfl rfl rfl rfl rfl rfl (.boxM (c := 2) rfl rfl (Nat.le_of_ble_eq_true rfl) rfl) ?_
      refine SafeOps.nil ?_
      repeat (first | refine Safe.seq ?_ | refine Safe.skip ?_ | with_reducible refine thenQ.n ?_ | with_reducible refine blockQ.n ?_)
      refine asgQ.go rfl rfl ?_
      repeat (first | refine Safe.seq ?_ | refine Safe.skip ?_ | with_reducible refine thenQ.n ?_ | with_reducible refine blockQ.n ?_)
      refine Safe.block ?_
      repeat (first | refine Safe.seq ?_ | refine Safe.skip ?_ | with_reducible refine thenQ.n ?_ | with_reducible refine blockQ.n ?_)
      refine Safe.region ?_
      refine SafeOps.quiet0 E_good rfl rfl rfl (v := V.ref [7000, 114, 12, 7, 4, 2, 0] 0 (rws api_Timer.cells v12_7_4_20_1954).length) (.load rfl rfl (.box rfl rfl) rfl) ?_
      refine SafeOps.quiet0 E_good rfl rfl rfl (v := V.agg [V.int .i64 ((gt a0_1922 v7_1953).At), V.int .i64 ((gt a0_1922 v7_1953).Id)]) (.load rfl rfl (.box rfl rfl) rfl) ?_
      refine SafeOps.quiet1 E_good rfl rfl rfl (.litM (f := api_Timer.cells) (xs := [(gt a0_1922 v7_1953)]) rfl rfl (by decide) rfl rfl rfl rfl rfl) rfl ?_
      refine okG h (fun hb1958 h => ?_)
      refine SafeOps.appendM api_Timer.cells (xs := v12_7_4_20_1954) (ys := [(gt a0_1922 v7_1953)]) E_good rfl rfl rfl rfl rfl rfl rfl rfl rfl (.own rfl) (.own rfl) (fun _ => rfl) hb1958 ?_
      refine SafeOps.store (z := Obj.box [V.ref [12, 7, 4, 9007, 0, 13, 11] 0 (rws api_Timer.cells (v12_7_4_20_1954 ++ [(gt a0_1922 v7_1953)])).length]) E_good rfl rfl rfl rfl rfl rfl rfl (.boxM (c := 1) rfl rfl (Nat.le_of_ble_eq_true rfl) rfl) ?_
      refine SafeOps.nil ?_
      repeat (first | refine Safe.seq ?_ | refine Safe.skip ?_ | with_reducible refine thenQ.n ?_ | with_reducible refine blockQ.n ?_)
      refine roundQ.go rfl rfl rfl rfl rfl ?_
      refine SafeOps.quiet0 E_good rfl rfl rfl (v := V.bool false) (.fn rfl) ?_
      refine SafeOps.nil ?_
      repeat (first | refine Safe.seq ?_ | refine Safe.skip ?_ | with_reducible refine thenQ.n ?_ | with_reducible refine blockQ.n ?_)
      refine Safe.condN rfl rfl ?_
      repeat (first | refine Safe.seq ?_ | refine Safe.skip ?_ | with_reducible refine thenQ.n ?_ | with_reducible refine blockQ.n ?_)
      refine Safe.region ?_
      refine SafeOps.quiet0 E_good rfl rfl rfl (v := V.int .i64 (IntKind.i64.wrap (v7_1953 + 1))) (.fn rfl) ?_
      refine SafeOps.quiet0 E_good rfl rfl rfl (v := V.int .i64 (IntKind.i64.wrap (v7_1953 + 1))) (.fn rfl) ?_
      refine SafeOps.nil ?_
      repeat (first | refine Safe.seq ?_ | refine Safe.skip ?_ | with_reducible refine thenQ.n ?_ | with_reducible refine blockQ.n ?_)
      exact ⟨_, next_out h, (.ren [12, 7, 4, 9007, 0, 13, 11] [7000, 114, 12, 7, 4, 2, 0] (.cov ⟨rfl, rfl, (upT_cons (.refl _) (upT_cons (.refl _) (upT_cons (.refl _) (upT_cons (.refl _) upT_nil)))), (upOb_cons rfl (.refl _) (upOb_cons rfl (by exact .loop (upT_cons (.refl _) upT_nil)) (upOb_cons rfl (.refl _) upOb_nil))), (upOut_cons rfl (upT_cons (.refl _) upT_nil) (upOut_cons rfl (upT_cons (.refl _) upT_nil) (upOut_cons rfl upT_nil (upOut_cons rfl (upT_cons (.refl _) upT_nil) (upOut_cons rfl upT_nil upOut_nil))))), rfl⟩))⟩
    · skip
      refine Safe.condN rfl hc1956 ?_
      repeat (first | refine Safe.seq ?_ | refine Safe.skip ?_ | with_reducible refine thenQ.n ?_ | with_reducible refine blockQ.n ?_)
      refine Safe.exit ?_
      repeat (first | with_reducible refine thenQ.e ?_ | with_reducible refine blockQ.x rfl ?_ | with_reducible refine blockQ.y rfl ?_)
      replace h := inr_out h hr1955
      repeat (first | refine Safe.seq ?_ | refine Safe.skip ?_ | with_reducible refine thenQ.n ?_ | with_reducible refine blockQ.n ?_)
      refine rfQ.n (.inl rfl) rfl rfl (fun hbusy => by cases hbusy) ?_
      repeat (first | refine Safe.seq ?_ | refine Safe.skip ?_ | with_reducible refine thenQ.n ?_ | with_reducible refine blockQ.n ?_)
      refine Safe.region ?_
      refine SafeOps.quiet0 E_good rfl rfl rfl (v := V.ref [7000, 114, 12, 7, 4, 2, 0] 0 (rws api_Timer.cells v12_7_4_20_1954).length) (.load rfl rfl (.box rfl rfl) rfl) ?_
      refine SafeOps.quiet0 E_good rfl rfl rfl (v := V.ref [7000, 114, 12, 7, 4, 2, 0] 0 (rws api_Timer.cells v12_7_4_20_1954).length) (.fn rfl) ?_
      refine SafeOps.nil ?_
      repeat (first | refine Safe.seq ?_ | refine Safe.skip ?_ | with_reducible refine thenQ.n ?_ | with_reducible refine blockQ.n ?_)
      refine Safe.ret ?_
      repeat (first | with_reducible refine thenQ.r ?_ | with_reducible refine blockQ.r ?_)
      refine inQ.gen (vs := [V.ref [7000, 114, 12, 7, 4, 2, 0] 0 (rws api_Timer.cells v12_7_4_20_1954).length]) (v := V.ref [7000, 114, 12, 7, 4, 2, 0] 0 (rws api_Timer.cells v12_7_4_20_1954).length) (.inr rfl) rfl (.tmp (v := V.ref [7000, 114, 12, 7, 4, 2, 0] 0 (rws api_Timer.cells v12_7_4_20_1954).length) rfl .nil) rfl ?_
      refine SafeOps.quiet0 E_good rfl rfl rfl (v := V.ref [7000, 114, 12, 7, 4, 2, 0] 0 (rws api_Timer.cells v12_7_4_20_1954).length) (.fn rfl) ?_
      refine SafeOps.nil ?_
      repeat (first | refine Safe.seq ?_ | refine Safe.skip ?_ | with_reducible refine thenQ.n ?_ | with_reducible refine blockQ.n ?_)
      refine Safe.ret ?_
      repeat (first | with_reducible refine thenQ.r ?_ | with_reducible refine blockQ.r ?_)
      refine inQ.gen (vs := [V.ref [7000, 114, 12, 7, 4, 2, 0] 0 (rws api_Timer.cells v12_7_4_20_1954).length]) (v := V.ref [7000, 114, 12, 7, 4, 2, 0] 0 (rws api_Timer.cells v12_7_4_20_1954).length) (.inr rfl) rfl (.tmp (v := V.ref [7000, 114, 12, 7, 4, 2, 0] 0 (rws api_Timer.cells v12_7_4_20_1954).length) rfl .nil) rfl ?_
      refine SafeOps.quiet0 E_good rfl rfl rfl (v := V.ref [7000, 114, 12, 7, 4, 2, 0] 0 (rws api_Timer.cells v12_7_4_20_1954).length) (.fn rfl) ?_
      refine SafeOps.nil ?_
      repeat (first | refine Safe.seq ?_ | refine Safe.skip ?_ | with_reducible refine thenQ.n ?_ | with_reducible refine blockQ.n ?_)
      refine Safe.region ?_
      refine SafeOps.quiet0 E_good rfl rfl rfl (v := V.ref [7000, 114, 12, 7, 4, 2, 0] 0 (rws api_Timer.cells v12_7_4_20_1954).length) (.fn rfl) ?_
      refine SafeOps.quiet0 E_good rfl rfl rfl (v := V.fn 41 []) (.fn rfl) ?_
      refine bindG h ?_
      intro s_1959 he1960 h
      refine SafeOps.sort api_Timer.cells E_good sortL50 rfl rfl rfl rfl rfl rfl rfl rfl rfl rfl rfl rfl rfl (fun _ => rfl) (fun _ => rfl) (fun _ _ => Try.call41 _ _) (fun a b v hv => go_heap_order_sc a b v hv) he1960 ?_
      refine SafeOps.see 7 (u := V.ref [7000, 114, 12, 7, 4, 2, 0] 0 (rws api_Timer.cells s_1959).length) rfl (.len (by rw [rws_len, rws_len]; first | exact sortO_len he1960 | exact (sortO_len he1960).symm)) ?_
      refine SafeOps.see 5 (u := V.ref [7000, 114, 12, 7, 4, 2, 0] 0 (rws api_Timer.cells s_1959).length) rfl (.len (by rw [rws_len, rws_len]; first | exact sortO_len he1960 | exact (sortO_len he1960).symm)) ?_
      refine SafeOps.see 8 (u := V.ref [7000, 114, 12, 7, 4, 2, 0] 0 (rws api_Timer.cells s_1959).length) rfl (.len (by rw [rws_len, rws_len]; first | exact sortO_len he1960 | exact (sortO_len he1960).symm)) ?_
      refine SafeOps.nil ?_
      repeat (first | refine Safe.seq ?_ | refine Safe.skip ?_ | with_reducible refine thenQ.n ?_ | with_reducible refine blockQ.n ?_)
      refine Safe.region ?_
      refine SafeOps.quiet0 E_good rfl rfl rfl (v := V.ref [7000, 114, 12, 7, 4, 2, 0] 0 (rws api_Timer.cells s_1959).length) (.fn rfl) ?_
      refine SafeOps.quiet0 E_good rfl rfl rfl (v := V.ref [7000, 114, 12, 7, 4, 2, 0] 0 (rws api_Timer.cells s_1959).length) (.fn rfl) ?_
      refine SafeOps.nil ?_
      repeat (first | refine Safe.seq ?_ | refine Safe.skip ?_ | with_reducible refine thenQ.n ?_ | with_reducible refine blockQ.n ?_)
      refine Safe.ret ?_
      repeat (first | with_reducible refine thenQ.r ?_ | with_reducible refine blockQ.r ?_)
      refine inQ.gen (vs := [V.ref [7000, 114, 12, 7, 4, 2, 0] 0 (rws api_Timer.cells s_1959).length]) (v := V.ref [7000, 114, 12, 7, 4, 2, 0] 0 (rws api_Timer.cells s_1959).length) (.inr rfl) rfl (.tmp (v := V.ref [7000, 114, 12, 7, 4, 2, 0] 0 (rws api_Timer.cells s_1959).length) rfl .nil) rfl ?_
      refine SafeOps.quiet0 E_good rfl rfl rfl (v := V.ref [7000, 114, 12, 7, 4, 2, 0] 0 (rws api_Timer.cells s_1959).length) (.fn rfl) ?_
      refine SafeOps.quiet0 E_good rfl rfl rfl (v := V.int .i64 0) (.fn rfl) ?_
      refine SafeOps.nil ?_
      repeat (first | refine Safe.seq ?_ | refine Safe.skip ?_ | with_reducible refine thenQ.n ?_ | with_reducible refine blockQ.n ?_)
      refine Safe.ret ?_
      repeat (first | with_reducible refine thenQ.r ?_ | with_reducible refine blockQ.r ?_)
      obtain rfl := Option.some.inj h
      exact retQ.gen (vs := [V.ref [7000, 114, 12, 7, 4, 2, 0] 0 (rws api_Timer.cells s_1959).length, V.int .i64 0]) rfl (.tmp (v := V.ref [7000, 114, 12, 7, 4, 2, 0] 0 (rws api_Timer.cells s_1959).length) rfl (.tmp (v := V.int .i64 0) rfl .nil)) (by exact (.tup (.cons (.own rfl rfl) (.cons (.free rfl) .nil)))) (by simp) (.inr rfl)
end Go.Proofs.Ytbcapidhhbkkcaa
