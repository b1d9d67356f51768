/- Helper lemmas for the claim's theorem: an abstract machine over the model, proved sound; no condition beyond each lemma's own. -/
import Derived.Test.YtlekpilcgahaoaaDoorT0
set_option linter.unusedVariables false
set_option linter.unusedSimpArgs false
set_option linter.unnecessarySimpa false
set_option linter.unusedSectionVars false
namespace Go.Proofs.YtlekpilcgahaoaaDoor
open Go Go.AM
set_option maxRecDepth 100000
set_option maxHeartbeats 1000000
set_option linter.unusedVariables false
set_option linter.unusedSimpArgs false
noncomputable def go_ravellaw13_StepSlices_s7 (a1_2 : List api_Instr) (v53_1797 : Int) (x_1823 : api_Task) (x_1824 : api_Effect) (x_1825 : Int) : (Int × Int × Int × Int × Int × Int × Int × Int × Int × Int × Int × Int) → Option ((Int × Int × Int × Int × Int × Int × Int × Int × Int × Int × Int × Int) ⊕ ((Int × Int × Int × Int × Int × Int × Int × Int × Int × Int × Int × Int × Int × Int × Int × Int × Int × Int × Int × Int × Int × Int × Int) ⊕ (Bool)))
  | (v92_1920, v100_1921, v101_1922, v102_1923, v103_1924, v104_1925, v105_1926, v106_1927, v107_1928, v108_1929, v109_1930, v1010_1931) =>
    if (decide (v92_1920 < x_1825)) = true then
      (go_step_Do (api_Task.mk v100_1921 v101_1922 v102_1923 v103_1924 v104_1925 (A4_Int.mk v105_1926 v106_1927 v107_1928 v108_1929) v109_1930 v1010_1931) a1_2).bind fun (x_1934, x_1935, x_1936) =>
      if (((x_1936 != 0) || ((x_1935.Kind != 0) && (v92_1920 != (IntKind.i64.wrap (x_1825 - 1))))) || ((v92_1920 == (IntKind.i64.wrap (x_1825 - 1))) && (!(api_Effect.beq x_1935 x_1824)))) = true then
        inrO (
          inrO (
            some false))
      else
        nextO (IntKind.i64.wrap (v92_1920 + 1), x_1934.Id, x_1934.Tenant, x_1934.Prog, x_1934.Pc, x_1934.Unit, x_1934.Keeps.a0, x_1934.Keeps.a1, x_1934.Keeps.a2, x_1934.Keeps.a3, x_1934.State, x_1934.Ran)
    else
      inrO (
        if (!(api_Task.beq x_1823 (api_Task.mk v100_1921 v101_1922 v102_1923 v103_1924 v104_1925 (A4_Int.mk v105_1926 v106_1927 v107_1928 v108_1929) v109_1930 v1010_1931))) = true then
          inrO (
            some false)
        else
          nextO (IntKind.i64.wrap (v53_1797 + 1), x_1823.Id, x_1823.Tenant, x_1823.Prog, x_1823.Pc, x_1823.Unit, x_1823.Keeps.a0, x_1823.Keeps.a1, x_1823.Keeps.a2, x_1823.Keeps.a3, x_1823.State, x_1823.Ran, v100_1921, v101_1922, v102_1923, v103_1924, v104_1925, v105_1926, v106_1927, v107_1928, v108_1929, v109_1930, v1010_1931))

noncomputable def go_ravellaw13_StepSlices_s5 (a1_2 : List api_Instr) (a2_3 : List Int) (x_1513 : Bool) : (Int × Int × Int × Int × Int × Int × Int × Int × Int × Int × Int × Int × Int × Int × Int × Int × Int × Int × Int × Int × Int × Int × Int) → Option ((Int × Int × Int × Int × Int × Int × Int × Int × Int × Int × Int × Int × Int × Int × Int × Int × Int × Int × Int × Int × Int × Int × Int) ⊕ (Bool))
  | (v53_1797, v80_1798, v81_1799, v82_1800, v83_1801, v84_1802, v85_1803, v86_1804, v87_1805, v88_1806, v89_1807, v810_1808, v100_1809, v101_1810, v102_1811, v103_1812, v104_1813, v105_1814, v106_1815, v107_1816, v108_1817, v109_1818, v1010_1819) =>
    if (decide (v53_1797 < (a2_3.length : Int))) = true then
      if 0 ≤ v53_1797 ∧ v53_1797 < (a2_3.length : Int) then
        (go_step_Slice (api_Task.mk v80_1798 v81_1799 v82_1800 v83_1801 v84_1802 (A4_Int.mk v85_1803 v86_1804 v87_1805 v88_1806) v89_1807 v810_1808) a1_2 (IntKind.i64.wrap ((Int.tmod (IntKind.i64.wrap (gt a2_3 v53_1797)) 100) + 1))).bind fun (x_1823, x_1824, x_1825, x_1826) =>
        if ((((x_1826 != 0) || (decide (x_1825 < 1))) || (decide (x_1825 > (IntKind.i64.wrap ((Int.tmod (IntKind.i64.wrap (gt a2_3 v53_1797)) 100) + 1))))) || ((x_1824.Kind == 0) && (x_1825 != (IntKind.i64.wrap ((Int.tmod (IntKind.i64.wrap (gt a2_3 v53_1797)) 100) + 1))))) = true then
          inrO (
            some false)
        else
          whileO (go_ravellaw13_StepSlices_s7 a1_2 v53_1797 x_1823 x_1824 x_1825) (0, v100_1809, v101_1810, v102_1811, v103_1812, v104_1813, v105_1814, v106_1815, v107_1816, v108_1817, v109_1818, v1010_1819)
      else none
    else
      inrO (
        some x_1513)

noncomputable def go_ravellaw13_StepSlices (a0_1 : Int) (a1_2 : List api_Instr) (a2_3 : List Int) : Option Bool :=
  (go_ravellaw13_live).bind fun x_1513 =>
  if (!x_1513) = true then
    some false
  else
    if (((decide ((a1_2.length : Int) > 40)) || (decide (a0_1 < 0))) || (decide ((a2_3.length : Int) > 60))) = true then
      some x_1513
    else
      (go_code_Check a1_2).bind fun x_1521 =>
      if (x_1521 != 0) = true then
        some x_1513
      else
        (go_ravellaw13_fresh a0_1).bind fun (x_1524, x_1525) =>
        if (!x_1525) = true then
          some false
        else
          whileO (go_ravellaw13_StepSlices_s5 a1_2 a2_3 x_1513) (0, x_1524.Id, x_1524.Tenant, x_1524.Prog, x_1524.Pc, x_1524.Unit, x_1524.Keeps.a0, x_1524.Keeps.a1, x_1524.Keeps.a2, x_1524.Keeps.a3, x_1524.State, x_1524.Ran, x_1524.Id, x_1524.Tenant, x_1524.Prog, x_1524.Pc, x_1524.Unit, x_1524.Keeps.a0, x_1524.Keeps.a1, x_1524.Keeps.a2, x_1524.Keeps.a3, x_1524.State, x_1524.Ran)

theorem go_ravellaw13_StepSlices_sc (a0_1 : Int) (a1_2 : List api_Instr) (a2_3 : List Int) (r : Bool) (h : go_ravellaw13_StepSlices a0_1 a1_2 a2_3 = some r) : SC Tryd.prog gl 3 [V.int .i64 a0_1, V.sl 3 (rws api_Instr.cells a1_2), V.sl 1 (rws (fun n => [V.int .u8 n]) a2_3)] (V.bool r) := by
  rw [go_ravellaw13_StepSlices] at h
  refine SC.of E_good Tryd.func3 rfl (fun _ _ => Tryd.call3 _ _) rfl ?_
  repeat (first | refine Safe.seq ?_ | refine Safe.skip ?_ | with_reducible refine thenQ.n ?_ | with_reducible refine blockQ.n ?_)
  refine Safe.region ?_
  refine SafeOps.quiet0 E_good rfl rfl rfl (v := V.bool false) (.fn rfl) ?_
  refine SafeOps.nil ?_
  repeat (first | refine Safe.seq ?_ | refine Safe.skip ?_ | with_reducible refine thenQ.n ?_ | with_reducible refine blockQ.n ?_)
  refine Safe.region ?_
  refine bindG h ?_
  intro x_1513 he1514 h
  refine SafeOps.quiet0 E_good rfl rfl rfl (v := V.bool x_1513) (.callP rfl rfl (go_ravellaw13_live_sc  _ he1514) rfl) ?_
  refine SafeOps.quiet0 E_good rfl rfl rfl (v := V.bool x_1513) (.fn rfl) ?_
  refine SafeOps.nil ?_
  repeat (first | refine Safe.seq ?_ | refine Safe.skip ?_ | with_reducible refine thenQ.n ?_ | with_reducible refine blockQ.n ?_)
  refine Safe.region ?_
  refine SafeOps.quiet0 E_good rfl rfl rfl (v := V.bool x_1513) (.fn rfl) ?_
  refine SafeOps.quiet0 E_good rfl rfl rfl (v := V.bool (!x_1513)) (.fn rfl) ?_
  refine SafeOps.nil ?_
  repeat (first | refine Safe.seq ?_ | refine Safe.skip ?_ | with_reducible refine thenQ.n ?_ | with_reducible refine blockQ.n ?_)
  refine ifG h (fun hc1515 h => ?_) (fun hc1515 h => ?_)
  · skip
    refine Safe.condK rfl hc1515 ?_
    repeat (first | refine Safe.seq ?_ | refine Safe.skip ?_ | with_reducible refine thenQ.n ?_ | with_reducible refine blockQ.n ?_)
    refine Safe.region ?_
    refine SafeOps.quiet0 E_good rfl rfl rfl (v := V.bool false) (.fn rfl) ?_
    refine SafeOps.nil ?_
    repeat (first | refine Safe.seq ?_ | refine Safe.skip ?_ | with_reducible refine thenQ.n ?_ | with_reducible refine blockQ.n ?_)
    refine Safe.ret ?_
    repeat (first | with_reducible refine thenQ.r ?_ | with_reducible refine blockQ.r ?_)
    obtain rfl := Option.some.inj h
    exact retQ.gen (vs := [V.bool false]) rfl (.tmp (v := V.bool false) rfl .nil) (.free rfl) (by simp) (.inr rfl)
  · skip
    refine Safe.condN rfl hc1515 ?_
    repeat (first | refine Safe.seq ?_ | refine Safe.skip ?_ | with_reducible refine thenQ.n ?_ | with_reducible refine blockQ.n ?_)
    refine Safe.region ?_
    refine SafeOps.quiet0 E_good rfl rfl rfl (v := V.sl 3 (rws api_Instr.cells a1_2)) (.fn rfl) ?_
    refine SafeOps.quiet0 E_good rfl rfl rfl (v := V.int .i64 (a1_2.length : Int)) (.fnE rfl lenE) ?_
    refine SafeOps.quiet0 E_good rfl rfl rfl (v := V.bool (decide ((a1_2.length : Int) > 40))) (.fn rfl) ?_
    refine SafeOps.quiet0 E_good rfl rfl rfl (v := V.bool (decide ((a1_2.length : Int) > 40))) (.fn rfl) ?_
    refine SafeOps.bjoin 3 31 (b := ((decide ((a1_2.length : Int) > 40)) || (decide (a0_1 < 0)))) (b1 := true) (b0 := decide (a0_1 < 0)) (fun hc1516 K => ?_) (fun hc1516 K => ?_) bj_or ?_
    · skip
      refine SafeOps.skip (congrArg (fun b => some (!b)) hc1516) rfl rfl ?_
      refine SafeOps.skip (congrArg (fun b => some (!b)) hc1516) rfl rfl ?_
      refine SafeOps.quiet0 E_good rfl rfl rfl (v := V.bool true) (.pickK rfl hc1516 rfl) ?_
      exact SafeOps.drop' 3 rfl rfl rfl K
    · skip
      refine SafeOps.quiet0 E_good (congrArg (fun b => some (!b)) hc1516) rfl rfl (v := V.int .i64 a0_1) (.fn rfl) ?_
      refine SafeOps.quiet0 E_good (congrArg (fun b => some (!b)) hc1516) rfl rfl (v := V.bool (decide (a0_1 < 0))) (.fn rfl) ?_
      refine SafeOps.quiet0 E_good rfl rfl rfl (v := V.bool (decide (a0_1 < 0))) (.pickK rfl hc1516 rfl) ?_
      exact SafeOps.drop' 3 rfl rfl rfl K
    refine SafeOps.quiet0 E_good rfl rfl rfl (v := V.bool ((decide ((a1_2.length : Int) > 40)) || (decide (a0_1 < 0)))) (.fn rfl) ?_
    refine SafeOps.bjoin 4 36 (b := (((decide ((a1_2.length : Int) > 40)) || (decide (a0_1 < 0))) || (decide ((a2_3.length : Int) > 60)))) (b1 := true) (b0 := decide ((a2_3.length : Int) > 60)) (fun hc1517 K => ?_) (fun hc1517 K => ?_) bj_or ?_
    · skip
      refine SafeOps.skip (congrArg (fun b => some (!b)) hc1517) rfl rfl ?_
      refine SafeOps.skip (congrArg (fun b => some (!b)) hc1517) rfl rfl ?_
      refine SafeOps.skip (congrArg (fun b => some (!b)) hc1517) rfl rfl ?_
      refine SafeOps.quiet0 E_good rfl rfl rfl (v := V.bool true) (.pickK rfl hc1517 rfl) ?_
      exact SafeOps.drop' 4 rfl rfl rfl K
    · skip
      refine SafeOps.quiet0 E_good (congrArg (fun b => some (!b)) hc1517) rfl rfl (v := V.sl 1 (rws (fun n => [V.int .u8 n]) a2_3)) (.fn rfl) ?_
      refine SafeOps.quiet0 E_good (congrArg (fun b => some (!b)) hc1517) rfl rfl (v := V.int .i64 (a2_3.length : Int)) (.fnE rfl lenE) ?_
      refine SafeOps.quiet0 E_good (congrArg (fun b => some (!b)) hc1517) rfl rfl (v := V.bool (decide ((a2_3.length : Int) > 60))) (.fn rfl) ?_
      refine SafeOps.quiet0 E_good rfl rfl rfl (v := V.bool (decide ((a2_3.length : Int) > 60))) (.pickK rfl hc1517 rfl) ?_
      exact SafeOps.drop' 4 rfl rfl rfl K
    refine SafeOps.quiet0 E_good rfl rfl rfl (v := V.bool (((decide ((a1_2.length : Int) > 40)) || (decide (a0_1 < 0))) || (decide ((a2_3.length : Int) > 60)))) (.fn rfl) ?_
    refine ifG h (fun hc1518 h => ?_) (fun hc1518 h => ?_)
    · skip
      refine SafeOps.skip (congrArg (fun b => some (!b)) hc1518) rfl rfl ?_
      refine SafeOps.skip (congrArg (fun b => some (!b)) hc1518) rfl rfl ?_
      refine SafeOps.skip (congrArg (fun b => some (!b)) hc1518) rfl rfl ?_
      refine SafeOps.quiet0 E_good rfl rfl rfl (v := V.bool true) (.pickK rfl hc1518 rfl) ?_
      refine SafeOps.nil ?_
      repeat (first | refine Safe.seq ?_ | refine Safe.skip ?_ | with_reducible refine thenQ.n ?_ | with_reducible refine blockQ.n ?_)
      refine Safe.condK rfl rfl ?_
      repeat (first | refine Safe.seq ?_ | refine Safe.skip ?_ | with_reducible refine thenQ.n ?_ | with_reducible refine blockQ.n ?_)
      refine Safe.region ?_
      refine SafeOps.quiet0 E_good rfl rfl rfl (v := V.bool x_1513) (.fn rfl) ?_
      refine SafeOps.quiet0 E_good rfl rfl rfl (v := V.bool x_1513) (.fn rfl) ?_
      refine SafeOps.nil ?_
      repeat (first | refine Safe.seq ?_ | refine Safe.skip ?_ | with_reducible refine thenQ.n ?_ | with_reducible refine blockQ.n ?_)
      refine Safe.ret ?_
      repeat (first | with_reducible refine thenQ.r ?_ | with_reducible refine blockQ.r ?_)
      obtain rfl := Option.some.inj h
      exact retQ.gen (vs := [V.bool x_1513]) rfl (.tmp (v := V.bool x_1513) rfl .nil) (.free rfl) (by simp) (.inr rfl)
    · skip
      refine SafeOps.quiet0 E_good (congrArg (fun b => some (!b)) hc1518) rfl rfl (v := V.sl 3 (rws api_Instr.cells a1_2)) (.fn rfl) ?_
      refine bindG h ?_
      intro x_1521 he1522 h
      refine SafeOps.quiet0 E_good (congrArg (fun b => some (!b)) hc1518) rfl rfl (v := V.int .i64 x_1521) (.callP rfl rfl (go_code_Check_sc a1_2 _ he1522) rfl) ?_
      refine SafeOps.quiet0 E_good (congrArg (fun b => some (!b)) hc1518) rfl rfl (v := V.bool (x_1521 != 0)) (.fn rfl) ?_
      refine SafeOps.quiet0 E_good rfl rfl rfl (v := V.bool (x_1521 != 0)) (.pickK rfl hc1518 rfl) ?_
      refine SafeOps.nil ?_
      repeat (first | refine Safe.seq ?_ | refine Safe.skip ?_ | with_reducible refine thenQ.n ?_ | with_reducible refine blockQ.n ?_)
      refine ifG h (fun hc1523 h => ?_) (fun hc1523 h => ?_)
      · skip
        refine Safe.condK rfl hc1523 ?_
        repeat (first | refine Safe.seq ?_ | refine Safe.skip ?_ | with_reducible refine thenQ.n ?_ | with_reducible refine blockQ.n ?_)
        refine Safe.region ?_
        refine SafeOps.quiet0 E_good rfl rfl rfl (v := V.bool x_1513) (.fn rfl) ?_
        refine SafeOps.quiet0 E_good rfl rfl rfl (v := V.bool x_1513) (.fn rfl) ?_
        refine SafeOps.nil ?_
        repeat (first | refine Safe.seq ?_ | refine Safe.skip ?_ | with_reducible refine thenQ.n ?_ | with_reducible refine blockQ.n ?_)
        refine Safe.ret ?_
        repeat (first | with_reducible refine thenQ.r ?_ | with_reducible refine blockQ.r ?_)
        obtain rfl := Option.some.inj h
        exact retQ.gen (vs := [V.bool x_1513]) rfl (.tmp (v := V.bool x_1513) rfl .nil) (.free rfl) (by simp) (.inr rfl)
      · skip
        refine Safe.condN rfl hc1523 ?_
        repeat (first | refine Safe.seq ?_ | refine Safe.skip ?_ | with_reducible refine thenQ.n ?_ | with_reducible refine blockQ.n ?_)
        refine Safe.region ?_
        refine SafeOps.quiet0 E_good rfl rfl rfl (v := V.int .i64 a0_1) (.fn rfl) ?_
        refine bindG h ?_
        rintro ⟨x_1524, x_1525⟩ he1526 h
        refine SafeOps.quiet0 E_good rfl rfl rfl (v := V.tup [V.agg [V.int .i64 x_1524.Id, V.int .i64 x_1524.Tenant, V.int .i64 x_1524.Prog, V.int .i64 x_1524.Pc, V.int .i64 x_1524.Unit, V.int .i64 x_1524.Keeps.a0, V.int .i64 x_1524.Keeps.a1, V.int .i64 x_1524.Keeps.a2, V.int .i64 x_1524.Keeps.a3, V.int .i64 x_1524.State, V.int .i64 x_1524.Ran], V.bool x_1525]) (.callP rfl rfl (go_ravellaw13_fresh_sc a0_1 _ he1526) rfl) ?_
        refine SafeOps.quiet0 E_good rfl rfl rfl (v := V.tup [V.agg [V.int .i64 x_1524.Id, V.int .i64 x_1524.Tenant, V.int .i64 x_1524.Prog, V.int .i64 x_1524.Pc, V.int .i64 x_1524.Unit, V.int .i64 x_1524.Keeps.a0, V.int .i64 x_1524.Keeps.a1, V.int .i64 x_1524.Keeps.a2, V.int .i64 x_1524.Keeps.a3, V.int .i64 x_1524.State, V.int .i64 x_1524.Ran], V.bool x_1525]) (.fn rfl) ?_
        refine SafeOps.quiet0 E_good rfl rfl rfl (v := V.agg [V.int .i64 x_1524.Id, V.int .i64 x_1524.Tenant, V.int .i64 x_1524.Prog, V.int .i64 x_1524.Pc, V.int .i64 x_1524.Unit, V.int .i64 x_1524.Keeps.a0, V.int .i64 x_1524.Keeps.a1, V.int .i64 x_1524.Keeps.a2, V.int .i64 x_1524.Keeps.a3, V.int .i64 x_1524.State, V.int .i64 x_1524.Ran]) (.fn rfl) ?_
        refine SafeOps.quiet0 E_good rfl rfl rfl (v := V.bool x_1525) (.fn rfl) ?_
        refine SafeOps.quiet1 E_good rfl rfl rfl (.alloc rfl rfl) rfl ?_
        refine SafeOps.store (z := Obj.box [V.int .i64 x_1524.Id, V.int .i64 x_1524.Tenant, V.int .i64 x_1524.Prog, V.int .i64 x_1524.Pc, V.int .i64 x_1524.Unit, V.int .i64 x_1524.Keeps.a0, V.int .i64 x_1524.Keeps.a1, V.int .i64 x_1524.Keeps.a2, V.int .i64 x_1524.Keeps.a3, V.int .i64 x_1524.State, V.int .i64 x_1524.Ran]) E_good rfl rfl rfl rfl rfl rfl rfl (.boxM (c := 11) rfl rfl (Nat.le_of_ble_eq_true rfl) rfl) ?_
        refine SafeOps.quiet0 E_good rfl rfl rfl (v := V.bool x_1525) (.fn rfl) ?_
        refine SafeOps.nil ?_
        repeat (first | refine Safe.seq ?_ | refine Safe.skip ?_ | with_reducible refine thenQ.n ?_ | with_reducible refine blockQ.n ?_)
        refine Safe.region ?_
        refine SafeOps.quiet0 E_good rfl rfl rfl (v := V.agg [V.int .i64 x_1524.Id, V.int .i64 x_1524.Tenant, V.int .i64 x_1524.Prog, V.int .i64 x_1524.Pc, V.int .i64 x_1524.Unit, V.int .i64 x_1524.Keeps.a0, V.int .i64 x_1524.Keeps.a1, V.int .i64 x_1524.Keeps.a2, V.int .i64 x_1524.Keeps.a3, V.int .i64 x_1524.State, V.int .i64 x_1524.Ran]) (.load rfl rfl (.box rfl rfl) rfl) ?_
        refine SafeOps.quiet1 E_good rfl rfl rfl (.alloc rfl rfl) rfl ?_
        refine SafeOps.store (z := Obj.box [V.int .i64 x_1524.Id, V.int .i64 x_1524.Tenant, V.int .i64 x_1524.Prog, V.int .i64 x_1524.Pc, V.int .i64 x_1524.Unit, V.int .i64 x_1524.Keeps.a0, V.int .i64 x_1524.Keeps.a1, V.int .i64 x_1524.Keeps.a2, V.int .i64 x_1524.Keeps.a3, V.int .i64 x_1524.State, V.int .i64 x_1524.Ran]) E_good rfl rfl rfl rfl rfl rfl rfl (.boxM (c := 11) rfl rfl (Nat.le_of_ble_eq_true rfl) rfl) ?_
        refine SafeOps.nil ?_
        repeat (first | refine Safe.seq ?_ | refine Safe.skip ?_ | with_reducible refine thenQ.n ?_ | with_reducible refine blockQ.n ?_)
        refine Safe.region ?_
        refine SafeOps.quiet0 E_good rfl rfl rfl (v := V.bool x_1525) (.fn rfl) ?_
        refine SafeOps.quiet0 E_good rfl rfl rfl (v := V.bool (!x_1525)) (.fn rfl) ?_
        refine SafeOps.nil ?_
        repeat (first | refine Safe.seq ?_ | refine Safe.skip ?_ | with_reducible refine thenQ.n ?_ | with_reducible refine blockQ.n ?_)
        refine ifG h (fun hc1527 h => ?_) (fun hc1527 h => ?_)
        · skip
          refine Safe.condK rfl hc1527 ?_
          repeat (first | refine Safe.seq ?_ | refine Safe.skip ?_ | with_reducible refine thenQ.n ?_ | with_reducible refine blockQ.n ?_)
          refine Safe.region ?_
          refine SafeOps.quiet0 E_good rfl rfl rfl (v := V.bool false) (.fn rfl) ?_
          refine SafeOps.nil ?_
          repeat (first | refine Safe.seq ?_ | refine Safe.skip ?_ | with_reducible refine thenQ.n ?_ | with_reducible refine blockQ.n ?_)
          refine Safe.ret ?_
          repeat (first | with_reducible refine thenQ.r ?_ | with_reducible refine blockQ.r ?_)
          obtain rfl := Option.some.inj h
          exact retQ.gen (vs := [V.bool false]) rfl (.tmp (v := V.bool false) rfl .nil) (.free rfl) (by simp) (.inr rfl)
        · skip
          refine Safe.condN rfl hc1527 ?_
          repeat (first | refine Safe.seq ?_ | refine Safe.skip ?_ | with_reducible refine thenQ.n ?_ | with_reducible refine blockQ.n ?_)
          refine Safe.region ?_
          refine SafeOps.quiet0 E_good rfl rfl rfl (v := V.sl 1 (rws (fun n => [V.int .u8 n]) a2_3)) (.fn rfl) ?_
          refine SafeOps.quiet0 E_good rfl rfl rfl (v := V.int .i64 (a2_3.length : Int)) (.fnE rfl lenE) ?_
          refine SafeOps.quiet0 E_good rfl rfl rfl (v := V.int .i64 0) (.fn rfl) ?_
          refine SafeOps.nil ?_
          repeat (first | refine Safe.seq ?_ | refine Safe.skip ?_ | with_reducible refine thenQ.n ?_ | with_reducible refine blockQ.n ?_)
          refine Safe.block ?_
          repeat (first | refine Safe.seq ?_ | refine Safe.skip ?_ | with_reducible refine thenQ.n ?_ | with_reducible refine blockQ.n ?_)
          refine Safe.loopW (fun ((v53_1797, v80_1798, v81_1799, v82_1800, v83_1801, v84_1802, v85_1803, v86_1804, v87_1805, v88_1806, v89_1807, v810_1808, v100_1809, v101_1810, v102_1811, v103_1812, v104_1813, v105_1814, v106_1815, v107_1816, v108_1817, v109_1818, v1010_1819) : Int × Int × Int × Int × Int × Int × Int × Int × Int × Int × Int × Int × Int × Int × Int × Int × Int × Int × Int × Int × Int × Int × Int) => ⟨Tryd.f3.ntmps, [(1, V.sl 3 (rws api_Instr.cells a1_2)), (7, V.bool x_1513), (8, V.ptr [8] 0 0), (10, V.ptr [10] 0 0), (51, V.sl 1 (rws (fun n => [V.int .u8 n]) a2_3)), (52, V.int .i64 (a2_3.length : Int)), (53, V.int .i64 v53_1797)], [([8], Obj.box [V.int .i64 v80_1798, V.int .i64 v81_1799, V.int .i64 v82_1800, V.int .i64 v83_1801, V.int .i64 v84_1802, V.int .i64 v85_1803, V.int .i64 v86_1804, V.int .i64 v87_1805, V.int .i64 v88_1806, V.int .i64 v89_1807, V.int .i64 v810_1808]), ([10], Obj.box [V.int .i64 v100_1809, V.int .i64 v101_1810, V.int .i64 v102_1811, V.int .i64 v103_1812, V.int .i64 v104_1813, V.int .i64 v105_1814, V.int .i64 v106_1815, V.int .i64 v107_1816, V.int .i64 v108_1817, V.int .i64 v109_1818, V.int .i64 v1010_1819])], [], []⟩) h (.cov ⟨rfl, rfl, (upT_cons (.refl _) (upT_cons (.refl _) (upT_cons (.refl _) (upT_cons (.refl _) (upT_cons (.refl _) (upT_cons (.refl _) (upT_cons (.refl _) upT_nil))))))), (upOb_cons rfl (.refl _) (upOb_cons rfl (.refl _) upOb_nil)), upOut_nil, rfl⟩) ?_
          rintro ⟨v53_1797, v80_1798, v81_1799, v82_1800, v83_1801, v84_1802, v85_1803, v86_1804, v87_1805, v88_1806, v89_1807, v810_1808, v100_1809, v101_1810, v102_1811, v103_1812, v104_1813, v105_1814, v106_1815, v107_1816, v108_1817, v109_1818, v1010_1819⟩ ohr1820 h hr1820
          replace h : go_ravellaw13_StepSlices_s5 a1_2 a2_3 x_1513 (v53_1797, v80_1798, v81_1799, v82_1800, v83_1801, v84_1802, v85_1803, v86_1804, v87_1805, v88_1806, v89_1807, v810_1808, v100_1809, v101_1810, v102_1811, v103_1812, v104_1813, v105_1814, v106_1815, v107_1816, v108_1817, v109_1818, v1010_1819) = some ohr1820 := h
          rw [go_ravellaw13_StepSlices_s5] at h
          repeat (first | refine Safe.seq ?_ | refine Safe.skip ?_ | with_reducible refine thenQ.n ?_ | with_reducible refine blockQ.n ?_)
          refine Safe.region ?_
          refine SafeOps.quiet0 E_good rfl rfl rfl (v := V.bool (decide (v53_1797 < (a2_3.length : Int)))) (.fn rfl) ?_
          refine SafeOps.nil ?_
          repeat (first | refine Safe.seq ?_ | refine Safe.skip ?_ | with_reducible refine thenQ.n ?_ | with_reducible refine blockQ.n ?_)
          refine ifG h (fun hc1821 h => ?_) (fun hc1821 h => ?_)
          · skip
            refine Safe.condK rfl hc1821 ?_
            repeat (first | refine Safe.seq ?_ | refine Safe.skip ?_ | with_reducible refine thenQ.n ?_ | with_reducible refine blockQ.n ?_)
            refine Safe.block ?_
            repeat (first | refine Safe.seq ?_ | refine Safe.skip ?_ | with_reducible refine thenQ.n ?_ | with_reducible refine blockQ.n ?_)
            refine Safe.region ?_
            refine okG h (fun hb1822 h => ?_)
            refine SafeOps.quiet0 E_good rfl rfl rfl (v := V.spt 1 (rws (fun n => [V.int .u8 n]) a2_3) (Int.toNat v53_1797) 0) (.idxSlM (f := (fun n => [V.int .u8 n])) rfl rfl rfl rfl rfl hb1822) ?_
            refine SafeOps.quiet0 E_good rfl rfl rfl (v := V.int .u8 (gt a2_3 v53_1797)) (.load rfl rfl (.sptM (f := (fun n => [V.int .u8 n])) hb1822 rfl) rfl) ?_
            refine SafeOps.quiet0 E_good rfl rfl rfl (v := V.int .u8 (gt a2_3 v53_1797)) (.fn rfl) ?_
            refine SafeOps.nil ?_
            repeat (first | refine Safe.seq ?_ | refine Safe.skip ?_ | with_reducible refine thenQ.n ?_ | with_reducible refine blockQ.n ?_)
            refine Safe.region ?_
            refine SafeOps.quiet0 E_good rfl rfl rfl (v := V.int .u8 (gt a2_3 v53_1797)) (.fn rfl) ?_
            refine SafeOps.quiet0 E_good rfl rfl rfl (v := V.int .i64 (IntKind.i64.wrap (gt a2_3 v53_1797))) (.fn rfl) ?_
            refine SafeOps.quiet0 E_good rfl rfl rfl (v := V.int .i64 (Int.tmod (IntKind.i64.wrap (gt a2_3 v53_1797)) 100)) (.remV rfl rfl (by decide)) ?_
            refine SafeOps.quiet0 E_good rfl rfl rfl (v := V.int .i64 (IntKind.i64.wrap ((Int.tmod (IntKind.i64.wrap (gt a2_3 v53_1797)) 100) + 1))) (.fn rfl) ?_
            refine SafeOps.quiet0 E_good rfl rfl rfl (v := V.int .i64 (IntKind.i64.wrap ((Int.tmod (IntKind.i64.wrap (gt a2_3 v53_1797)) 100) + 1))) (.fn rfl) ?_
            refine SafeOps.nil ?_
            repeat (first | refine Safe.seq ?_ | refine Safe.skip ?_ | with_reducible refine thenQ.n ?_ | with_reducible refine blockQ.n ?_)
            refine Safe.region ?_
            refine SafeOps.quiet0 E_good rfl rfl rfl (v := V.agg [V.int .i64 v80_1798, V.int .i64 v81_1799, V.int .i64 v82_1800, V.int .i64 v83_1801, V.int .i64 v84_1802, V.int .i64 v85_1803, V.int .i64 v86_1804, V.int .i64 v87_1805, V.int .i64 v88_1806, V.int .i64 v89_1807, V.int .i64 v810_1808]) (.load rfl rfl (.box rfl rfl) rfl) ?_
            refine SafeOps.quiet0 E_good rfl rfl rfl (v := V.sl 3 (rws api_Instr.cells a1_2)) (.fn rfl) ?_
            refine SafeOps.quiet0 E_good rfl rfl rfl (v := V.int .i64 (IntKind.i64.wrap ((Int.tmod (IntKind.i64.wrap (gt a2_3 v53_1797)) 100) + 1))) (.fn rfl) ?_
            refine bindG h ?_
            rintro ⟨x_1823, x_1824, x_1825, x_1826⟩ he1827 h
            refine SafeOps.quiet0 E_good rfl rfl rfl (v := V.tup [V.agg [V.int .i64 x_1823.Id, V.int .i64 x_1823.Tenant, V.int .i64 x_1823.Prog, V.int .i64 x_1823.Pc, V.int .i64 x_1823.Unit, V.int .i64 x_1823.Keeps.a0, V.int .i64 x_1823.Keeps.a1, V.int .i64 x_1823.Keeps.a2, V.int .i64 x_1823.Keeps.a3, V.int .i64 x_1823.State, V.int .i64 x_1823.Ran], V.agg [V.int .i64 x_1824.Kind, V.int .i64 x_1824.A, V.int .i64 x_1824.B], V.int .i64 x_1825, V.int .i64 x_1826]) (.callP rfl rfl (go_step_Slice_sc (api_Task.mk v80_1798 v81_1799 v82_1800 v83_1801 v84_1802 (A4_Int.mk v85_1803 v86_1804 v87_1805 v88_1806) v89_1807 v810_1808) a1_2 (IntKind.i64.wrap ((Int.tmod (IntKind.i64.wrap (gt a2_3 v53_1797)) 100) + 1)) _ he1827) rfl) ?_
            refine SafeOps.quiet0 E_good rfl rfl rfl (v := V.tup [V.agg [V.int .i64 x_1823.Id, V.int .i64 x_1823.Tenant, V.int .i64 x_1823.Prog, V.int .i64 x_1823.Pc, V.int .i64 x_1823.Unit, V.int .i64 x_1823.Keeps.a0, V.int .i64 x_1823.Keeps.a1, V.int .i64 x_1823.Keeps.a2, V.int .i64 x_1823.Keeps.a3, V.int .i64 x_1823.State, V.int .i64 x_1823.Ran], V.agg [V.int .i64 x_1824.Kind, V.int .i64 x_1824.A, V.int .i64 x_1824.B], V.int .i64 x_1825, V.int .i64 x_1826]) (.fn rfl) ?_
            refine SafeOps.quiet0 E_good rfl rfl rfl (v := V.agg [V.int .i64 x_1823.Id, V.int .i64 x_1823.Tenant, V.int .i64 x_1823.Prog, V.int .i64 x_1823.Pc, V.int .i64 x_1823.Unit, V.int .i64 x_1823.Keeps.a0, V.int .i64 x_1823.Keeps.a1, V.int .i64 x_1823.Keeps.a2, V.int .i64 x_1823.Keeps.a3, V.int .i64 x_1823.State, V.int .i64 x_1823.Ran]) (.fn rfl) ?_
            refine SafeOps.quiet0 E_good rfl rfl rfl (v := V.agg [V.int .i64 x_1824.Kind, V.int .i64 x_1824.A, V.int .i64 x_1824.B]) (.fn rfl) ?_
            refine SafeOps.quiet0 E_good rfl rfl rfl (v := V.int .i64 x_1825) (.fn rfl) ?_
            refine SafeOps.quiet0 E_good rfl rfl rfl (v := V.int .i64 x_1826) (.fn rfl) ?_
            refine SafeOps.quiet1 E_good rfl rfl rfl (.alloc rfl rfl) rfl ?_
            refine SafeOps.quiet1 E_good rfl rfl rfl (.alloc rfl rfl) rfl ?_
            refine SafeOps.store (z := Obj.box [V.int .i64 x_1823.Id, V.int .i64 x_1823.Tenant, V.int .i64 x_1823.Prog, V.int .i64 x_1823.Pc, V.int .i64 x_1823.Unit, V.int .i64 x_1823.Keeps.a0, V.int .i64 x_1823.Keeps.a1, V.int .i64 x_1823.Keeps.a2, V.int .i64 x_1823.Keeps.a3, V.int .i64 x_1823.State, V.int .i64 x_1823.Ran]) E_good rfl rfl rfl rfl rfl rfl rfl (.boxM (c := 11) rfl rfl (Nat.le_of_ble_eq_true rfl) rfl) ?_
            refine SafeOps.store (z := Obj.box [V.int .i64 x_1824.Kind, V.int .i64 x_1824.A, V.int .i64 x_1824.B]) E_good rfl rfl rfl rfl rfl rfl rfl (.boxM (c := 3) rfl rfl (Nat.le_of_ble_eq_true rfl) rfl) ?_
            refine SafeOps.quiet0 E_good rfl rfl rfl (v := V.int .i64 x_1825) (.fn rfl) ?_
            refine SafeOps.quiet0 E_good rfl rfl rfl (v := V.int .i64 x_1826) (.fn rfl) ?_
            refine SafeOps.nil ?_
            repeat (first | refine Safe.seq ?_ | refine Safe.skip ?_ | with_reducible refine thenQ.n ?_ | with_reducible refine blockQ.n ?_)
            refine Safe.region ?_
            refine SafeOps.quiet0 E_good rfl rfl rfl (v := V.int .i64 x_1826) (.fn rfl) ?_
            refine SafeOps.quiet0 E_good rfl rfl rfl (v := V.bool (x_1826 != 0)) (.fn rfl) ?_
            refine SafeOps.quiet0 E_good rfl rfl rfl (v := V.bool (x_1826 != 0)) (.fn rfl) ?_
            refine SafeOps.bjoin 3 75 (b := ((x_1826 != 0) || (decide (x_1825 < 1)))) (b1 := true) (b0 := decide (x_1825 < 1)) (fun hc1828 K => ?_) (fun hc1828 K => ?_) bj_or ?_
            · skip
              refine SafeOps.skip (congrArg (fun b => some (!b)) hc1828) rfl rfl ?_
              refine SafeOps.skip (congrArg (fun b => some (!b)) hc1828) rfl rfl ?_
              refine SafeOps.quiet0 E_good rfl rfl rfl (v := V.bool true) (.pickK rfl hc1828 rfl) ?_
              exact SafeOps.drop' 3 rfl rfl rfl K
            · skip
              refine SafeOps.quiet0 E_good (congrArg (fun b => some (!b)) hc1828) rfl rfl (v := V.int .i64 x_1825) (.fn rfl) ?_
              refine SafeOps.quiet0 E_good (congrArg (fun b => some (!b)) hc1828) rfl rfl (v := V.bool (decide (x_1825 < 1))) (.fn rfl) ?_
              refine SafeOps.quiet0 E_good rfl rfl rfl (v := V.bool (decide (x_1825 < 1))) (.pickK rfl hc1828 rfl) ?_
              exact SafeOps.drop' 3 rfl rfl rfl K
            refine SafeOps.quiet0 E_good rfl rfl rfl (v := V.bool ((x_1826 != 0) || (decide (x_1825 < 1)))) (.fn rfl) ?_
            refine SafeOps.bjoin 4 80 (b := (((x_1826 != 0) || (decide (x_1825 < 1))) || (decide (x_1825 > (IntKind.i64.wrap ((Int.tmod (IntKind.i64.wrap (gt a2_3 v53_1797)) 100) + 1)))))) (b1 := true) (b0 := decide (x_1825 > (IntKind.i64.wrap ((Int.tmod (IntKind.i64.wrap (gt a2_3 v53_1797)) 100) + 1)))) (fun hc1829 K => ?_) (fun hc1829 K => ?_) bj_or ?_
            · skip
              refine SafeOps.skip (congrArg (fun b => some (!b)) hc1829) rfl rfl ?_
              refine SafeOps.skip (congrArg (fun b => some (!b)) hc1829) rfl rfl ?_
              refine SafeOps.skip (congrArg (fun b => some (!b)) hc1829) rfl rfl ?_
              refine SafeOps.quiet0 E_good rfl rfl rfl (v := V.bool true) (.pickK rfl hc1829 rfl) ?_
              exact SafeOps.drop' 4 rfl rfl rfl K
            · skip
              refine SafeOps.quiet0 E_good (congrArg (fun b => some (!b)) hc1829) rfl rfl (v := V.int .i64 x_1825) (.fn rfl) ?_
              refine SafeOps.quiet0 E_good (congrArg (fun b => some (!b)) hc1829) rfl rfl (v := V.int .i64 (IntKind.i64.wrap ((Int.tmod (IntKind.i64.wrap (gt a2_3 v53_1797)) 100) + 1))) (.fn rfl) ?_
              refine SafeOps.quiet0 E_good (congrArg (fun b => some (!b)) hc1829) rfl rfl (v := V.bool (decide (x_1825 > (IntKind.i64.wrap ((Int.tmod (IntKind.i64.wrap (gt a2_3 v53_1797)) 100) + 1))))) (.fn rfl) ?_
              refine SafeOps.quiet0 E_good rfl rfl rfl (v := V.bool (decide (x_1825 > (IntKind.i64.wrap ((Int.tmod (IntKind.i64.wrap (gt a2_3 v53_1797)) 100) + 1))))) (.pickK rfl hc1829 rfl) ?_
              exact SafeOps.drop' 4 rfl rfl rfl K
            refine SafeOps.quiet0 E_good rfl rfl rfl (v := V.bool (((x_1826 != 0) || (decide (x_1825 < 1))) || (decide (x_1825 > (IntKind.i64.wrap ((Int.tmod (IntKind.i64.wrap (gt a2_3 v53_1797)) 100) + 1)))))) (.fn rfl) ?_
            refine SafeOps.bjoin 9 90 (b := ((((x_1826 != 0) || (decide (x_1825 < 1))) || (decide (x_1825 > (IntKind.i64.wrap ((Int.tmod (IntKind.i64.wrap (gt a2_3 v53_1797)) 100) + 1))))) || ((x_1824.Kind == 0) && (x_1825 != (IntKind.i64.wrap ((Int.tmod (IntKind.i64.wrap (gt a2_3 v53_1797)) 100) + 1)))))) (b1 := true) (b0 := ((x_1824.Kind == 0) && (x_1825 != (IntKind.i64.wrap ((Int.tmod (IntKind.i64.wrap (gt a2_3 v53_1797)) 100) + 1))))) (fun hc1830 K => ?_) (fun hc1830 K => ?_) bj_or ?_
            · skip
              refine SafeOps.skip (congrArg (fun b => some (!b)) hc1830) rfl rfl ?_
              refine SafeOps.skip (congrArg (fun b => some (!b)) hc1830) rfl rfl ?_
              refine SafeOps.skip (congrArg (fun b => some (!b)) hc1830) rfl rfl ?_
              refine SafeOps.skip (congrArg (fun b => some (!b)) hc1830) rfl rfl ?_
              refine SafeOps.skip rfl rfl rfl ?_
              refine SafeOps.skip rfl rfl rfl ?_
              refine SafeOps.skip rfl rfl rfl ?_
              refine SafeOps.skip (congrArg (fun b => some (!b)) hc1830) rfl rfl ?_
              refine SafeOps.quiet0 E_good rfl rfl rfl (v := V.bool true) (.pickK rfl hc1830 rfl) ?_
              exact SafeOps.drop' 9 rfl rfl rfl K
            · skip
              refine SafeOps.quiet0 E_good (congrArg (fun b => some (!b)) hc1830) rfl rfl (v := V.ptr [15] 0 0) (.fn rfl) ?_
              refine SafeOps.quiet0 E_good (congrArg (fun b => some (!b)) hc1830) rfl rfl (v := V.int .i64 x_1824.Kind) (.load rfl rfl (.box rfl rfl) rfl) ?_
              refine SafeOps.quiet0 E_good (congrArg (fun b => some (!b)) hc1830) rfl rfl (v := V.bool (x_1824.Kind == 0)) (.fn rfl) ?_
              refine SafeOps.quiet0 E_good (congrArg (fun b => some (!b)) hc1830) rfl rfl (v := V.bool (x_1824.Kind == 0)) (.fn rfl) ?_
              refine SafeOps.bjoin 4 89 (b := ((x_1824.Kind == 0) && (x_1825 != (IntKind.i64.wrap ((Int.tmod (IntKind.i64.wrap (gt a2_3 v53_1797)) 100) + 1))))) (b1 := (x_1825 != (IntKind.i64.wrap ((Int.tmod (IntKind.i64.wrap (gt a2_3 v53_1797)) 100) + 1)))) (b0 := false) (fun hc1831 K => ?_) (fun hc1831 K => ?_) bj_and ?_
              · skip
                refine SafeOps.quiet0 E_good (congrArg some hc1831) rfl rfl (v := V.int .i64 x_1825) (.fn rfl) ?_
                refine SafeOps.quiet0 E_good (congrArg some hc1831) rfl rfl (v := V.int .i64 (IntKind.i64.wrap ((Int.tmod (IntKind.i64.wrap (gt a2_3 v53_1797)) 100) + 1))) (.fn rfl) ?_
                refine SafeOps.quiet0 E_good (congrArg some hc1831) rfl rfl (v := V.bool (x_1825 != (IntKind.i64.wrap ((Int.tmod (IntKind.i64.wrap (gt a2_3 v53_1797)) 100) + 1)))) (.fn rfl) ?_
                refine SafeOps.quiet0 E_good (congrArg (fun b => some (!b)) hc1830) rfl rfl (v := V.bool (x_1825 != (IntKind.i64.wrap ((Int.tmod (IntKind.i64.wrap (gt a2_3 v53_1797)) 100) + 1)))) (.pickK rfl hc1831 rfl) ?_
                exact SafeOps.drop' 4 rfl rfl rfl K
              · skip
                refine SafeOps.skip (congrArg some hc1831) rfl rfl ?_
                refine SafeOps.skip (congrArg some hc1831) rfl rfl ?_
                refine SafeOps.skip (congrArg some hc1831) rfl rfl ?_
                refine SafeOps.quiet0 E_good (congrArg (fun b => some (!b)) hc1830) rfl rfl (v := V.bool false) (.pickK rfl hc1831 rfl) ?_
                exact SafeOps.drop' 4 rfl rfl rfl K
              refine SafeOps.quiet0 E_good rfl rfl rfl (v := V.bool ((x_1824.Kind == 0) && (x_1825 != (IntKind.i64.wrap ((Int.tmod (IntKind.i64.wrap (gt a2_3 v53_1797)) 100) + 1))))) (.pickK rfl hc1830 rfl) ?_
              exact SafeOps.drop' 6 rfl rfl rfl K
            refine SafeOps.nil ?_
            repeat (first | refine Safe.seq ?_ | refine Safe.skip ?_ | with_reducible refine thenQ.n ?_ | with_reducible refine blockQ.n ?_)
            refine ifG h (fun hc1832 h => ?_) (fun hc1832 h => ?_)
            · skip
              refine Safe.condK rfl hc1832 ?_
              repeat (first | refine Safe.seq ?_ | refine Safe.skip ?_ | with_reducible refine thenQ.n ?_ | with_reducible refine blockQ.n ?_)
              refine Safe.region ?_
              refine SafeOps.quiet0 E_good rfl rfl rfl (v := V.bool false) (.fn rfl) ?_
              refine SafeOps.nil ?_
              repeat (first | refine Safe.seq ?_ | refine Safe.skip ?_ | with_reducible refine thenQ.n ?_ | with_reducible refine blockQ.n ?_)
              refine Safe.ret ?_
              repeat (first | with_reducible refine thenQ.r ?_ | with_reducible refine blockQ.r ?_)
              replace h := inr_out h hr1820
              obtain rfl := Option.some.inj h
              exact retQ.gen (vs := [V.bool false]) rfl (.tmp (v := V.bool false) rfl .nil) (.free rfl) (by simp) (.inr rfl)
            · skip
              refine Safe.condN rfl hc1832 ?_
              repeat (first | refine Safe.seq ?_ | refine Safe.skip ?_ | with_reducible refine thenQ.n ?_ | with_reducible refine blockQ.n ?_)
              refine Safe.region ?_
              refine SafeOps.quiet0 E_good rfl rfl rfl (v := V.int .i64 x_1825) (.fn rfl) ?_
              refine SafeOps.quiet0 E_good rfl rfl rfl (v := V.int .i64 0) (.fn rfl) ?_
              refine SafeOps.nil ?_
              repeat (first | refine Safe.seq ?_ | refine Safe.skip ?_ | with_reducible refine thenQ.n ?_ | with_reducible refine blockQ.n ?_)
              refine Safe.block ?_
              repeat (first | refine Safe.seq ?_ | refine Safe.skip ?_ | with_reducible refine thenQ.n ?_ | with_reducible refine blockQ.n ?_)
              refine Safe.loopW (fun ((v92_1920, v100_1921, v101_1922, v102_1923, v103_1924, v104_1925, v105_1926, v106_1927, v107_1928, v108_1929, v109_1930, v1010_1931) : Int × Int × Int × Int × Int × Int × Int × Int × Int × Int × Int × Int) => ⟨Tryd.f3.ntmps, [(1, V.sl 3 (rws api_Instr.cells a1_2)), (7, V.bool x_1513), (8, V.ptr [8] 0 0), (10, V.ptr [10] 0 0), (14, V.ptr [14] 0 0), (15, V.ptr [15] 0 0), (16, V.int .i64 x_1825), (51, V.sl 1 (rws (fun n => [V.int .u8 n]) a2_3)), (52, V.int .i64 (a2_3.length : Int)), (53, V.int .i64 v53_1797), (91, V.int .i64 x_1825), (92, V.int .i64 v92_1920)], [([8], Obj.box [V.int .i64 v80_1798, V.int .i64 v81_1799, V.int .i64 v82_1800, V.int .i64 v83_1801, V.int .i64 v84_1802, V.int .i64 v85_1803, V.int .i64 v86_1804, V.int .i64 v87_1805, V.int .i64 v88_1806, V.int .i64 v89_1807, V.int .i64 v810_1808]), ([10], Obj.box [V.int .i64 v100_1921, V.int .i64 v101_1922, V.int .i64 v102_1923, V.int .i64 v103_1924, V.int .i64 v104_1925, V.int .i64 v105_1926, V.int .i64 v106_1927, V.int .i64 v107_1928, V.int .i64 v108_1929, V.int .i64 v109_1930, V.int .i64 v1010_1931]), ([14], Obj.box [V.int .i64 x_1823.Id, V.int .i64 x_1823.Tenant, V.int .i64 x_1823.Prog, V.int .i64 x_1823.Pc, V.int .i64 x_1823.Unit, V.int .i64 x_1823.Keeps.a0, V.int .i64 x_1823.Keeps.a1, V.int .i64 x_1823.Keeps.a2, V.int .i64 x_1823.Keeps.a3, V.int .i64 x_1823.State, V.int .i64 x_1823.Ran]), ([15], Obj.box [V.int .i64 x_1824.Kind, V.int .i64 x_1824.A, V.int .i64 x_1824.B])], [], []⟩) h (.cov ⟨rfl, rfl, (upT_cons (.refl _) (upT_cons (.refl _) (upT_cons (.refl _) (upT_cons (.refl _) (upT_cons (.refl _) (upT_cons (.refl _) (upT_cons (.refl _) (upT_cons (.refl _) (upT_cons (.refl _) (upT_cons (.refl _) (upT_cons (.refl _) (upT_cons (.refl _) upT_nil)))))))))))), (upOb_cons rfl (.refl _) (upOb_cons rfl (.refl _) (upOb_cons rfl (.refl _) (upOb_cons rfl (.refl _) upOb_nil)))), upOut_nil, rfl⟩) ?_
              rintro ⟨v92_1920, v100_1921, v101_1922, v102_1923, v103_1924, v104_1925, v105_1926, v106_1927, v107_1928, v108_1929, v109_1930, v1010_1931⟩ ohr1932 h hr1932
              replace h : go_ravellaw13_StepSlices_s7 a1_2 v53_1797 x_1823 x_1824 x_1825 (v92_1920, v100_1921, v101_1922, v102_1923, v103_1924, v104_1925, v105_1926, v106_1927, v107_1928, v108_1929, v109_1930, v1010_1931) = some ohr1932 := h
              rw [go_ravellaw13_StepSlices_s7] at h
              repeat (first | refine Safe.seq ?_ | refine Safe.skip ?_ | with_reducible refine thenQ.n ?_ | with_reducible refine blockQ.n ?_)
              refine Safe.region ?_
              refine SafeOps.quiet0 E_good rfl rfl rfl (v := V.bool (decide (v92_1920 < x_1825))) (.fn rfl) ?_
              refine SafeOps.nil ?_
              repeat (first | refine Safe.seq ?_ | refine Safe.skip ?_ | with_reducible refine thenQ.n ?_ | with_reducible refine blockQ.n ?_)
              refine ifG h (fun hc1933 h => ?_) (fun hc1933 h => ?_)
              · skip
                refine Safe.condK rfl hc1933 ?_
                repeat (first | refine Safe.seq ?_ | refine Safe.skip ?_ | with_reducible refine thenQ.n ?_ | with_reducible refine blockQ.n ?_)
                refine Safe.block ?_
                repeat (first | refine Safe.seq ?_ | refine Safe.skip ?_ | with_reducible refine thenQ.n ?_ | with_reducible refine blockQ.n ?_)
                refine Safe.region ?_
                refine SafeOps.quiet0 E_good rfl rfl rfl (v := V.int .i64 v92_1920) (.fn rfl) ?_
                refine SafeOps.quiet0 E_good rfl rfl rfl (v := V.int .i64 v92_1920) (.fn rfl) ?_
                refine SafeOps.nil ?_
                repeat (first | refine Safe.seq ?_ | refine Safe.skip ?_ | with_reducible refine thenQ.n ?_ | with_reducible refine blockQ.n ?_)
                refine Safe.region ?_
                refine SafeOps.quiet0 E_good rfl rfl rfl (v := V.agg [V.int .i64 v100_1921, V.int .i64 v101_1922, V.int .i64 v102_1923, V.int .i64 v103_1924, V.int .i64 v104_1925, V.int .i64 v105_1926, V.int .i64 v106_1927, V.int .i64 v107_1928, V.int .i64 v108_1929, V.int .i64 v109_1930, V.int .i64 v1010_1931]) (.load rfl rfl (.box rfl rfl) rfl) ?_
                refine SafeOps.quiet0 E_good rfl rfl rfl (v := V.sl 3 (rws api_Instr.cells a1_2)) (.fn rfl) ?_
                refine bindG h ?_
                rintro ⟨x_1934, x_1935, x_1936⟩ he1937 h
                refine SafeOps.quiet0 E_good rfl rfl rfl (v := V.tup [V.agg [V.int .i64 x_1934.Id, V.int .i64 x_1934.Tenant, V.int .i64 x_1934.Prog, V.int .i64 x_1934.Pc, V.int .i64 x_1934.Unit, V.int .i64 x_1934.Keeps.a0, V.int .i64 x_1934.Keeps.a1, V.int .i64 x_1934.Keeps.a2, V.int .i64 x_1934.Keeps.a3, V.int .i64 x_1934.State, V.int .i64 x_1934.Ran], V.agg [V.int .i64 x_1935.Kind, V.int .i64 x_1935.A, V.int .i64 x_1935.B], V.int .i64 x_1936]) (.callP rfl rfl (go_step_Do_sc (api_Task.mk v100_1921 v101_1922 v102_1923 v103_1924 v104_1925 (A4_Int.mk v105_1926 v106_1927 v107_1928 v108_1929) v109_1930 v1010_1931) a1_2 _ he1937) rfl) ?_
                refine SafeOps.quiet0 E_good rfl rfl rfl (v := V.tup [V.agg [V.int .i64 x_1934.Id, V.int .i64 x_1934.Tenant, V.int .i64 x_1934.Prog, V.int .i64 x_1934.Pc, V.int .i64 x_1934.Unit, V.int .i64 x_1934.Keeps.a0, V.int .i64 x_1934.Keeps.a1, V.int .i64 x_1934.Keeps.a2, V.int .i64 x_1934.Keeps.a3, V.int .i64 x_1934.State, V.int .i64 x_1934.Ran], V.agg [V.int .i64 x_1935.Kind, V.int .i64 x_1935.A, V.int .i64 x_1935.B], V.int .i64 x_1936]) (.fn rfl) ?_
                refine SafeOps.quiet0 E_good rfl rfl rfl (v := V.agg [V.int .i64 x_1934.Id, V.int .i64 x_1934.Tenant, V.int .i64 x_1934.Prog, V.int .i64 x_1934.Pc, V.int .i64 x_1934.Unit, V.int .i64 x_1934.Keeps.a0, V.int .i64 x_1934.Keeps.a1, V.int .i64 x_1934.Keeps.a2, V.int .i64 x_1934.Keeps.a3, V.int .i64 x_1934.State, V.int .i64 x_1934.Ran]) (.fn rfl) ?_
                refine SafeOps.quiet0 E_good rfl rfl rfl (v := V.agg [V.int .i64 x_1935.Kind, V.int .i64 x_1935.A, V.int .i64 x_1935.B]) (.fn rfl) ?_
                refine SafeOps.quiet0 E_good rfl rfl rfl (v := V.int .i64 x_1936) (.fn rfl) ?_
                refine SafeOps.quiet1 E_good rfl rfl rfl (.alloc rfl rfl) rfl ?_
                refine SafeOps.quiet1 E_good rfl rfl rfl (.alloc rfl rfl) rfl ?_
                refine SafeOps.store (z := Obj.box [V.int .i64 x_1934.Id, V.int .i64 x_1934.Tenant, V.int .i64 x_1934.Prog, V.int .i64 x_1934.Pc, V.int .i64 x_1934.Unit, V.int .i64 x_1934.Keeps.a0, V.int .i64 x_1934.Keeps.a1, V.int .i64 x_1934.Keeps.a2, V.int .i64 x_1934.Keeps.a3, V.int .i64 x_1934.State, V.int .i64 x_1934.Ran]) E_good rfl rfl rfl rfl rfl rfl rfl (.boxM (c := 11) rfl rfl (Nat.le_of_ble_eq_true rfl) rfl) ?_
                refine SafeOps.store (z := Obj.box [V.int .i64 x_1935.Kind, V.int .i64 x_1935.A, V.int .i64 x_1935.B]) E_good rfl rfl rfl rfl rfl rfl rfl (.boxM (c := 3) rfl rfl (Nat.le_of_ble_eq_true rfl) rfl) ?_
                refine SafeOps.quiet0 E_good rfl rfl rfl (v := V.int .i64 x_1936) (.fn rfl) ?_
                refine SafeOps.nil ?_
                repeat (first | refine Safe.seq ?_ | refine Safe.skip ?_ | with_reducible refine thenQ.n ?_ | with_reducible refine blockQ.n ?_)
                refine Safe.region ?_
                refine SafeOps.quiet0 E_good rfl rfl rfl (v := V.int .i64 x_1936) (.fn rfl) ?_
                refine SafeOps.quiet0 E_good rfl rfl rfl (v := V.bool (x_1936 != 0)) (.fn rfl) ?_
                refine SafeOps.quiet0 E_good rfl rfl rfl (v := V.bool (x_1936 != 0)) (.fn rfl) ?_
                refine SafeOps.bjoin 10 114 (b := ((x_1936 != 0) || ((x_1935.Kind != 0) && (v92_1920 != (IntKind.i64.wrap (x_1825 - 1)))))) (b1 := true) (b0 := ((x_1935.Kind != 0) && (v92_1920 != (IntKind.i64.wrap (x_1825 - 1))))) (fun hc1938 K => ?_) (fun hc1938 K => ?_) bj_or ?_
                · skip
                  refine SafeOps.skip (congrArg (fun b => some (!b)) hc1938) rfl rfl ?_
                  refine SafeOps.skip (congrArg (fun b => some (!b)) hc1938) rfl rfl ?_
                  refine SafeOps.skip (congrArg (fun b => some (!b)) hc1938) rfl rfl ?_
                  refine SafeOps.skip (congrArg (fun b => some (!b)) hc1938) rfl rfl ?_
                  refine SafeOps.skip rfl rfl rfl ?_
                  refine SafeOps.skip rfl rfl rfl ?_
                  refine SafeOps.skip rfl rfl rfl ?_
                  refine SafeOps.skip rfl rfl rfl ?_
                  refine SafeOps.skip (congrArg (fun b => some (!b)) hc1938) rfl rfl ?_
                  refine SafeOps.quiet0 E_good rfl rfl rfl (v := V.bool true) (.pickK rfl hc1938 rfl) ?_
                  exact SafeOps.drop' 10 rfl rfl rfl K
                · skip
                  refine SafeOps.quiet0 E_good (congrArg (fun b => some (!b)) hc1938) rfl rfl (v := V.ptr [20] 0 0) (.fn rfl) ?_
                  refine SafeOps.quiet0 E_good (congrArg (fun b => some (!b)) hc1938) rfl rfl (v := V.int .i64 x_1935.Kind) (.load rfl rfl (.box rfl rfl) rfl) ?_
                  refine SafeOps.quiet0 E_good (congrArg (fun b => some (!b)) hc1938) rfl rfl (v := V.bool (x_1935.Kind != 0)) (.fn rfl) ?_
                  refine SafeOps.quiet0 E_good (congrArg (fun b => some (!b)) hc1938) rfl rfl (v := V.bool (x_1935.Kind != 0)) (.fn rfl) ?_
                  refine SafeOps.bjoin 5 113 (b := ((x_1935.Kind != 0) && (v92_1920 != (IntKind.i64.wrap (x_1825 - 1))))) (b1 := (v92_1920 != (IntKind.i64.wrap (x_1825 - 1)))) (b0 := false) (fun hc1939 K => ?_) (fun hc1939 K => ?_) bj_and ?_
                  · skip
                    refine SafeOps.quiet0 E_good (congrArg some hc1939) rfl rfl (v := V.int .i64 v92_1920) (.fn rfl) ?_
                    refine SafeOps.quiet0 E_good (congrArg some hc1939) rfl rfl (v := V.int .i64 x_1825) (.fn rfl) ?_
                    refine SafeOps.quiet0 E_good (congrArg some hc1939) rfl rfl (v := V.int .i64 (IntKind.i64.wrap (x_1825 - 1))) (.fn rfl) ?_
                    refine SafeOps.quiet0 E_good (congrArg some hc1939) rfl rfl (v := V.bool (v92_1920 != (IntKind.i64.wrap (x_1825 - 1)))) (.fn rfl) ?_
                    refine SafeOps.quiet0 E_good (congrArg (fun b => some (!b)) hc1938) rfl rfl (v := V.bool (v92_1920 != (IntKind.i64.wrap (x_1825 - 1)))) (.pickK rfl hc1939 rfl) ?_
                    exact SafeOps.drop' 5 rfl rfl rfl K
                  · skip
                    refine SafeOps.skip (congrArg some hc1939) rfl rfl ?_
                    refine SafeOps.skip (congrArg some hc1939) rfl rfl ?_
                    refine SafeOps.skip (congrArg some hc1939) rfl rfl ?_
                    refine SafeOps.skip (congrArg some hc1939) rfl rfl ?_
                    refine SafeOps.quiet0 E_good (congrArg (fun b => some (!b)) hc1938) rfl rfl (v := V.bool false) (.pickK rfl hc1939 rfl) ?_
                    exact SafeOps.drop' 5 rfl rfl rfl K
                  refine SafeOps.quiet0 E_good rfl rfl rfl (v := V.bool ((x_1935.Kind != 0) && (v92_1920 != (IntKind.i64.wrap (x_1825 - 1))))) (.pickK rfl hc1938 rfl) ?_
                  exact SafeOps.drop' 6 rfl rfl rfl K
                refine SafeOps.quiet0 E_good rfl rfl rfl (v := V.bool ((x_1936 != 0) || ((x_1935.Kind != 0) && (v92_1920 != (IntKind.i64.wrap (x_1825 - 1)))))) (.fn rfl) ?_
                refine SafeOps.bjoin 10 125 (b := (((x_1936 != 0) || ((x_1935.Kind != 0) && (v92_1920 != (IntKind.i64.wrap (x_1825 - 1))))) || ((v92_1920 == (IntKind.i64.wrap (x_1825 - 1))) && (!(api_Effect.beq x_1935 x_1824))))) (b1 := true) (b0 := ((v92_1920 == (IntKind.i64.wrap (x_1825 - 1))) && (!(api_Effect.beq x_1935 x_1824)))) (fun hc1940 K => ?_) (fun hc1940 K => ?_) bj_or ?_
                · skip
                  refine SafeOps.skip (congrArg (fun b => some (!b)) hc1940) rfl rfl ?_
                  refine SafeOps.skip (congrArg (fun b => some (!b)) hc1940) rfl rfl ?_
                  refine SafeOps.skip (congrArg (fun b => some (!b)) hc1940) rfl rfl ?_
                  refine SafeOps.skip (congrArg (fun b => some (!b)) hc1940) rfl rfl ?_
                  refine SafeOps.skip (congrArg (fun b => some (!b)) hc1940) rfl rfl ?_
                  refine SafeOps.skip rfl rfl rfl ?_
                  refine SafeOps.skip rfl rfl rfl ?_
                  refine SafeOps.skip rfl rfl rfl ?_
                  refine SafeOps.skip (congrArg (fun b => some (!b)) hc1940) rfl rfl ?_
                  refine SafeOps.quiet0 E_good rfl rfl rfl (v := V.bool true) (.pickK rfl hc1940 rfl) ?_
                  exact SafeOps.drop' 10 rfl rfl rfl K
                · skip
                  refine SafeOps.quiet0 E_good (congrArg (fun b => some (!b)) hc1940) rfl rfl (v := V.int .i64 v92_1920) (.fn rfl) ?_
                  refine SafeOps.quiet0 E_good (congrArg (fun b => some (!b)) hc1940) rfl rfl (v := V.int .i64 x_1825) (.fn rfl) ?_
                  refine SafeOps.quiet0 E_good (congrArg (fun b => some (!b)) hc1940) rfl rfl (v := V.int .i64 (IntKind.i64.wrap (x_1825 - 1))) (.fn rfl) ?_
                  refine SafeOps.quiet0 E_good (congrArg (fun b => some (!b)) hc1940) rfl rfl (v := V.bool (v92_1920 == (IntKind.i64.wrap (x_1825 - 1)))) (.fn rfl) ?_
                  refine SafeOps.quiet0 E_good (congrArg (fun b => some (!b)) hc1940) rfl rfl (v := V.bool (v92_1920 == (IntKind.i64.wrap (x_1825 - 1)))) (.fn rfl) ?_
                  refine SafeOps.bjoin 4 124 (b := ((v92_1920 == (IntKind.i64.wrap (x_1825 - 1))) && (!(api_Effect.beq x_1935 x_1824)))) (b1 := (!(api_Effect.beq x_1935 x_1824))) (b0 := false) (fun hc1941 K => ?_) (fun hc1941 K => ?_) bj_and ?_
                  · skip
                    refine SafeOps.quiet0 E_good (congrArg some hc1941) rfl rfl (v := V.agg [V.int .i64 x_1935.Kind, V.int .i64 x_1935.A, V.int .i64 x_1935.B]) (.load rfl rfl (.box rfl rfl) rfl) ?_
                    refine SafeOps.quiet0 E_good (congrArg some hc1941) rfl rfl (v := V.agg [V.int .i64 x_1824.Kind, V.int .i64 x_1824.A, V.int .i64 x_1824.B]) (.load rfl rfl (.box rfl rfl) rfl) ?_
                    refine SafeOps.quiet0 E_good (congrArg some hc1941) rfl rfl (v := V.bool (!(api_Effect.beq x_1935 x_1824))) (.neA rfl rfl rfl rfl okT33 rfl) ?_
                    refine SafeOps.quiet0 E_good (congrArg (fun b => some (!b)) hc1940) rfl rfl (v := V.bool (!(api_Effect.beq x_1935 x_1824))) (.pickK rfl hc1941 rfl) ?_
                    exact SafeOps.drop' 4 rfl rfl rfl K
                  · skip
                    refine SafeOps.skip (congrArg some hc1941) rfl rfl ?_
                    refine SafeOps.skip (congrArg some hc1941) rfl rfl ?_
                    refine SafeOps.skip (congrArg some hc1941) rfl rfl ?_
                    refine SafeOps.quiet0 E_good (congrArg (fun b => some (!b)) hc1940) rfl rfl (v := V.bool false) (.pickK rfl hc1941 rfl) ?_
                    exact SafeOps.drop' 4 rfl rfl rfl K
                  refine SafeOps.quiet0 E_good rfl rfl rfl (v := V.bool ((v92_1920 == (IntKind.i64.wrap (x_1825 - 1))) && (!(api_Effect.beq x_1935 x_1824)))) (.pickK rfl hc1940 rfl) ?_
                  exact SafeOps.drop' 7 rfl rfl rfl K
                refine SafeOps.nil ?_
                repeat (first | refine Safe.seq ?_ | refine Safe.skip ?_ | with_reducible refine thenQ.n ?_ | with_reducible refine blockQ.n ?_)
                refine ifG h (fun hc1942 h => ?_) (fun hc1942 h => ?_)
                · skip
                  refine Safe.condK rfl hc1942 ?_
                  repeat (first | refine Safe.seq ?_ | refine Safe.skip ?_ | with_reducible refine thenQ.n ?_ | with_reducible refine blockQ.n ?_)
                  refine Safe.region ?_
                  refine SafeOps.quiet0 E_good rfl rfl rfl (v := V.bool false) (.fn rfl) ?_
                  refine SafeOps.nil ?_
                  repeat (first | refine Safe.seq ?_ | refine Safe.skip ?_ | with_reducible refine thenQ.n ?_ | with_reducible refine blockQ.n ?_)
                  refine Safe.ret ?_
                  repeat (first | with_reducible refine thenQ.r ?_ | with_reducible refine blockQ.r ?_)
                  replace h := inr_out h hr1932
                  replace h := inr_out h hr1820
                  obtain rfl := Option.some.inj h
                  exact retQ.gen (vs := [V.bool false]) rfl (.tmp (v := V.bool false) rfl .nil) (.free rfl) (by simp) (.inr rfl)
                · skip
                  refine Safe.condN rfl hc1942 ?_
                  repeat (first | refine Safe.seq ?_ | refine Safe.skip ?_ | with_reducible refine thenQ.n ?_ | with_reducible refine blockQ.n ?_)
                  refine Safe.region ?_
                  refine SafeOps.quiet0 E_good rfl rfl rfl (v := V.agg [V.int .i64 x_1934.Id, V.int .i64 x_1934.Tenant, V.int .i64 x_1934.Prog, V.int .i64 x_1934.Pc, V.int .i64 x_1934.Unit, V.int .i64 x_1934.Keeps.a0, V.int .i64 x_1934.Keeps.a1, V.int .i64 x_1934.Keeps.a2, V.int .i64 x_1934.Keeps.a3, V.int .i64 x_1934.State, V.int .i64 x_1934.Ran]) (.load rfl rfl (.box rfl rfl) rfl) ?_
                  refine SafeOps.store (z := Obj.box [V.int .i64 x_1934.Id, V.int .i64 x_1934.Tenant, V.int .i64 x_1934.Prog, V.int .i64 x_1934.Pc, V.int .i64 x_1934.Unit, V.int .i64 x_1934.Keeps.a0, V.int .i64 x_1934.Keeps.a1, V.int .i64 x_1934.Keeps.a2, V.int .i64 x_1934.Keeps.a3, V.int .i64 x_1934.State, V.int .i64 x_1934.Ran]) E_good rfl rfl rfl rfl rfl rfl rfl (.boxM (c := 11) rfl rfl (Nat.le_of_ble_eq_true rfl) rfl) ?_
                  refine SafeOps.nil ?_
                  repeat (first | refine Safe.seq ?_ | refine Safe.skip ?_ | with_reducible refine thenQ.n ?_ | with_reducible refine blockQ.n ?_)
                  refine Safe.region ?_
                  refine SafeOps.quiet0 E_good rfl rfl rfl (v := V.int .i64 (IntKind.i64.wrap (v92_1920 + 1))) (.fn rfl) ?_
                  refine SafeOps.quiet0 E_good rfl rfl rfl (v := V.int .i64 (IntKind.i64.wrap (v92_1920 + 1))) (.fn rfl) ?_
                  refine SafeOps.nil ?_
                  repeat (first | refine Safe.seq ?_ | refine Safe.skip ?_ | with_reducible refine thenQ.n ?_ | with_reducible refine blockQ.n ?_)
                  exact ⟨_, next_out h, (.cov ⟨rfl, rfl, (upT_cons (.refl _) (upT_cons (.refl _) (upT_cons (.refl _) (upT_cons (.refl _) (upT_cons (.refl _) (upT_cons (.refl _) (upT_cons (.refl _) (upT_cons (.refl _) (upT_cons (.refl _) (upT_cons (.refl _) (upT_cons (.refl _) (upT_cons (.refl _) upT_nil)))))))))))), (upOb_cons rfl (.refl _) (upOb_cons rfl (.refl _) (upOb_cons rfl (.refl _) (upOb_cons rfl (.refl _) upOb_nil)))), upOut_nil, rfl⟩)⟩
              · skip
                refine Safe.condN rfl hc1933 ?_
                repeat (first | refine Safe.seq ?_ | refine Safe.skip ?_ | with_reducible refine thenQ.n ?_ | with_reducible refine blockQ.n ?_)
                refine Safe.exit ?_
                repeat (first | with_reducible refine thenQ.e ?_ | with_reducible refine blockQ.x rfl ?_ | with_reducible refine blockQ.y rfl ?_)
                replace h := inr_out h hr1932
                repeat (first | refine Safe.seq ?_ | refine Safe.skip ?_ | with_reducible refine thenQ.n ?_ | with_reducible refine blockQ.n ?_)
                refine Safe.region ?_
                refine SafeOps.quiet0 E_good rfl rfl rfl (v := V.agg [V.int .i64 x_1823.Id, V.int .i64 x_1823.Tenant, V.int .i64 x_1823.Prog, V.int .i64 x_1823.Pc, V.int .i64 x_1823.Unit, V.int .i64 x_1823.Keeps.a0, V.int .i64 x_1823.Keeps.a1, V.int .i64 x_1823.Keeps.a2, V.int .i64 x_1823.Keeps.a3, V.int .i64 x_1823.State, V.int .i64 x_1823.Ran]) (.load rfl rfl (.box rfl rfl) rfl) ?_
                refine SafeOps.store (z := Obj.box [V.int .i64 x_1823.Id, V.int .i64 x_1823.Tenant, V.int .i64 x_1823.Prog, V.int .i64 x_1823.Pc, V.int .i64 x_1823.Unit, V.int .i64 x_1823.Keeps.a0, V.int .i64 x_1823.Keeps.a1, V.int .i64 x_1823.Keeps.a2, V.int .i64 x_1823.Keeps.a3, V.int .i64 x_1823.State, V.int .i64 x_1823.Ran]) E_good rfl rfl rfl rfl rfl rfl rfl (.boxM (c := 11) rfl rfl (Nat.le_of_ble_eq_true rfl) rfl) ?_
                refine SafeOps.nil ?_
                repeat (first | refine Safe.seq ?_ | refine Safe.skip ?_ | with_reducible refine thenQ.n ?_ | with_reducible refine blockQ.n ?_)
                refine Safe.region ?_
                refine SafeOps.quiet0 E_good rfl rfl rfl (v := V.agg [V.int .i64 x_1823.Id, V.int .i64 x_1823.Tenant, V.int .i64 x_1823.Prog, V.int .i64 x_1823.Pc, V.int .i64 x_1823.Unit, V.int .i64 x_1823.Keeps.a0, V.int .i64 x_1823.Keeps.a1, V.int .i64 x_1823.Keeps.a2, V.int .i64 x_1823.Keeps.a3, V.int .i64 x_1823.State, V.int .i64 x_1823.Ran]) (.load rfl rfl (.box rfl rfl) rfl) ?_
                refine SafeOps.quiet0 E_good rfl rfl rfl (v := V.agg [V.int .i64 v100_1921, V.int .i64 v101_1922, V.int .i64 v102_1923, V.int .i64 v103_1924, V.int .i64 v104_1925, V.int .i64 v105_1926, V.int .i64 v106_1927, V.int .i64 v107_1928, V.int .i64 v108_1929, V.int .i64 v109_1930, V.int .i64 v1010_1931]) (.load rfl rfl (.box rfl rfl) rfl) ?_
                refine SafeOps.quiet0 E_good rfl rfl rfl (v := V.bool (!(api_Task.beq x_1823 (api_Task.mk v100_1921 v101_1922 v102_1923 v103_1924 v104_1925 (A4_Int.mk v105_1926 v106_1927 v107_1928 v108_1929) v109_1930 v1010_1931)))) (.neA rfl rfl rfl rfl okT29 rfl) ?_
                refine SafeOps.nil ?_
                repeat (first | refine Safe.seq ?_ | refine Safe.skip ?_ | with_reducible refine thenQ.n ?_ | with_reducible refine blockQ.n ?_)
                refine ifG h (fun hc1943 h => ?_) (fun hc1943 h => ?_)
                · skip
                  refine Safe.condK rfl hc1943 ?_
                  repeat (first | refine Safe.seq ?_ | refine Safe.skip ?_ | with_reducible refine thenQ.n ?_ | with_reducible refine blockQ.n ?_)
                  refine Safe.region ?_
                  refine SafeOps.quiet0 E_good rfl rfl rfl (v := V.bool false) (.fn rfl) ?_
                  refine SafeOps.nil ?_
                  repeat (first | refine Safe.seq ?_ | refine Safe.skip ?_ | with_reducible refine thenQ.n ?_ | with_reducible refine blockQ.n ?_)
                  refine Safe.ret ?_
                  repeat (first | with_reducible refine thenQ.r ?_ | with_reducible refine blockQ.r ?_)
                  replace h := inr_out h hr1820
                  obtain rfl := Option.some.inj h
                  exact retQ.gen (vs := [V.bool false]) rfl (.tmp (v := V.bool false) rfl .nil) (.free rfl) (by simp) (.inr rfl)
                · skip
                  refine Safe.condN rfl hc1943 ?_
                  repeat (first | refine Safe.seq ?_ | refine Safe.skip ?_ | with_reducible refine thenQ.n ?_ | with_reducible refine blockQ.n ?_)
                  refine Safe.region ?_
                  refine SafeOps.quiet0 E_good rfl rfl rfl (v := V.int .i64 (IntKind.i64.wrap (v53_1797 + 1))) (.fn rfl) ?_
                  refine SafeOps.quiet0 E_good rfl rfl rfl (v := V.int .i64 (IntKind.i64.wrap (v53_1797 + 1))) (.fn rfl) ?_
                  refine SafeOps.nil ?_
                  repeat (first | refine Safe.seq ?_ | refine Safe.skip ?_ | with_reducible refine thenQ.n ?_ | with_reducible refine blockQ.n ?_)
                  exact ⟨_, next_out h, (.cov ⟨rfl, rfl, (upT_cons (.refl _) (upT_cons (.refl _) (upT_cons (.refl _) (upT_cons (.refl _) (upT_cons (.refl _) (upT_cons (.refl _) (upT_cons (.refl _) upT_nil))))))), (upOb_cons rfl (.refl _) (upOb_cons rfl (.refl _) upOb_nil)), upOut_nil, rfl⟩)⟩
          · skip
            refine Safe.condN rfl hc1821 ?_
            repeat (first | refine Safe.seq ?_ | refine Safe.skip ?_ | with_reducible refine thenQ.n ?_ | with_reducible refine blockQ.n ?_)
            refine Safe.exit ?_
            repeat (first | with_reducible refine thenQ.e ?_ | with_reducible refine blockQ.x rfl ?_ | with_reducible refine blockQ.y rfl ?_)
            replace h := inr_out h hr1820
            repeat (first | refine Safe.seq ?_ | refine Safe.skip ?_ | with_reducible refine thenQ.n ?_ | with_reducible refine blockQ.n ?_)
            refine Safe.region ?_
            refine SafeOps.quiet0 E_good rfl rfl rfl (v := V.bool x_1513) (.fn rfl) ?_
            refine SafeOps.quiet0 E_good rfl rfl rfl (v := V.bool x_1513) (.fn rfl) ?_
            refine SafeOps.nil ?_
            repeat (first | refine Safe.seq ?_ | refine Safe.skip ?_ | with_reducible refine thenQ.n ?_ | with_reducible refine blockQ.n ?_)
            refine Safe.ret ?_
            repeat (first | with_reducible refine thenQ.r ?_ | with_reducible refine blockQ.r ?_)
            obtain rfl := Option.some.inj h
            exact retQ.gen (vs := [V.bool x_1513]) rfl (.tmp (v := V.bool x_1513) rfl .nil) (.free rfl) (by simp) (.inr rfl)

noncomputable def go_ravellaw13_StepNext (a0_1944 : api_Task) (a1_1945 : List api_Instr) (a2_1946 : Int) (a3_1947 : Int) : Option Bool :=
  (go_ravellaw13_live).bind fun x_1982 =>
  if (!x_1982) = true then
    some false
  else
    if (decide ((a1_1945.length : Int) > 200)) = true then
      some x_1982
    else
      (go_step_Next a0_1944 a1_1945).bind fun (x_1986, x_1987) =>
      (go_step_Do a0_1944 a1_1945).bind fun (x_1989, x_1990, x_1991) =>
      if (x_1991 != 0) = true then
        some x_1982
      else
        if (((x_1987 != 0) || ((x_1986.Op == 1) && (!(api_Effect.beq x_1990 api_Effect.zero)))) || ((x_1986.Op != 1) && (!(api_Effect.beq x_1990 (api_Effect.mk x_1986.Op x_1986.A x_1986.B))))) = true then
          some false
        else
          (go_step_Do (api_Task.mk a2_1946 a3_1947 a0_1944.Prog a0_1944.Pc a0_1944.Unit a0_1944.Keeps a0_1944.State a0_1944.Ran) a1_1945).bind fun (x_1999, x_2000, x_2001) =>
          if (x_2001 != 0) = true then
            if x_1982 = true then
              (go_life_Check (api_Task.mk a2_1946 a3_1947 a0_1944.Prog a0_1944.Pc a0_1944.Unit a0_1944.Keeps a0_1944.State a0_1944.Ran)).bind fun x_2012 =>
              some (x_2012 == x_2001)
            else
              some false
          else
            some ((x_1982 && (api_Task.beq x_1989 (api_Task.mk a0_1944.Id a0_1944.Tenant x_1999.Prog x_1999.Pc x_1999.Unit x_1999.Keeps x_1999.State x_1999.Ran))) && (api_Effect.beq x_1990 x_2000))

theorem go_ravellaw13_StepNext_sc (a0_1944 : api_Task) (a1_1945 : List api_Instr) (a2_1946 : Int) (a3_1947 : Int) (r : Bool) (h : go_ravellaw13_StepNext a0_1944 a1_1945 a2_1946 a3_1947 = some r) : SC Tryd.prog gl 4 [V.agg [V.int .i64 a0_1944.Id, V.int .i64 a0_1944.Tenant, V.int .i64 a0_1944.Prog, V.int .i64 a0_1944.Pc, V.int .i64 a0_1944.Unit, V.int .i64 a0_1944.Keeps.a0, V.int .i64 a0_1944.Keeps.a1, V.int .i64 a0_1944.Keeps.a2, V.int .i64 a0_1944.Keeps.a3, V.int .i64 a0_1944.State, V.int .i64 a0_1944.Ran], V.sl 3 (rws api_Instr.cells a1_1945), V.int .i64 a2_1946, V.int .i64 a3_1947] (V.bool r) := by
  rw [go_ravellaw13_StepNext] at h
  refine SC.of E_good Tryd.func4 rfl (fun _ _ => Tryd.call4 _ _) rfl ?_
  repeat (first | refine Safe.seq ?_ | refine Safe.skip ?_ | with_reducible refine thenQ.n ?_ | with_reducible refine blockQ.n ?_)
  refine Safe.region ?_
  refine SafeOps.quiet1 E_good rfl rfl rfl (.box rfl rfl) rfl ?_
  refine SafeOps.quiet0 E_good rfl rfl rfl (v := V.bool false) (.fn rfl) ?_
  refine SafeOps.nil ?_
  repeat (first | refine Safe.seq ?_ | refine Safe.skip ?_ | with_reducible refine thenQ.n ?_ | with_reducible refine blockQ.n ?_)
  refine Safe.region ?_
  refine bindG h ?_
  intro x_1982 he1983 h
  refine SafeOps.quiet0 E_good rfl rfl rfl (v := V.bool x_1982) (.callP rfl rfl (go_ravellaw13_live_sc  _ he1983) rfl) ?_
  refine SafeOps.quiet0 E_good rfl rfl rfl (v := V.bool x_1982) (.fn rfl) ?_
  refine SafeOps.nil ?_
  repeat (first | refine Safe.seq ?_ | refine Safe.skip ?_ | with_reducible refine thenQ.n ?_ | with_reducible refine blockQ.n ?_)
  refine Safe.region ?_
  refine SafeOps.quiet0 E_good rfl rfl rfl (v := V.bool x_1982) (.fn rfl) ?_
  refine SafeOps.quiet0 E_good rfl rfl rfl (v := V.bool (!x_1982)) (.fn rfl) ?_
  refine SafeOps.nil ?_
  repeat (first | refine Safe.seq ?_ | refine Safe.skip ?_ | with_reducible refine thenQ.n ?_ | with_reducible refine blockQ.n ?_)
  refine ifG h (fun hc1984 h => ?_) (fun hc1984 h => ?_)
  · skip
    refine Safe.condK rfl hc1984 ?_
    repeat (first | refine Safe.seq ?_ | refine Safe.skip ?_ | with_reducible refine thenQ.n ?_ | with_reducible refine blockQ.n ?_)
    refine Safe.region ?_
    refine SafeOps.quiet0 E_good rfl rfl rfl (v := V.bool false) (.fn rfl) ?_
    refine SafeOps.nil ?_
    repeat (first | refine Safe.seq ?_ | refine Safe.skip ?_ | with_reducible refine thenQ.n ?_ | with_reducible refine blockQ.n ?_)
    refine Safe.ret ?_
    repeat (first | with_reducible refine thenQ.r ?_ | with_reducible refine blockQ.r ?_)
    obtain rfl := Option.some.inj h
    exact retQ.gen (vs := [V.bool false]) rfl (.tmp (v := V.bool false) rfl .nil) (.free rfl) (by simp) (.inr rfl)
  · skip
    refine Safe.condN rfl hc1984 ?_
    repeat (first | refine Safe.seq ?_ | refine Safe.skip ?_ | with_reducible refine thenQ.n ?_ | with_reducible refine blockQ.n ?_)
    refine Safe.region ?_
    refine SafeOps.quiet0 E_good rfl rfl rfl (v := V.sl 3 (rws api_Instr.cells a1_1945)) (.fn rfl) ?_
    refine SafeOps.quiet0 E_good rfl rfl rfl (v := V.int .i64 (a1_1945.length : Int)) (.fnE rfl lenE) ?_
    refine SafeOps.quiet0 E_good rfl rfl rfl (v := V.bool (decide ((a1_1945.length : Int) > 200))) (.fn rfl) ?_
    refine SafeOps.nil ?_
    repeat (first | refine Safe.seq ?_ | refine Safe.skip ?_ | with_reducible refine thenQ.n ?_ | with_reducible refine blockQ.n ?_)
    refine ifG h (fun hc1985 h => ?_) (fun hc1985 h => ?_)
    · skip
      refine Safe.condK rfl hc1985 ?_
      repeat (first | refine Safe.seq ?_ | refine Safe.skip ?_ | with_reducible refine thenQ.n ?_ | with_reducible refine blockQ.n ?_)
      refine Safe.region ?_
      refine SafeOps.quiet0 E_good rfl rfl rfl (v := V.bool x_1982) (.fn rfl) ?_
      refine SafeOps.quiet0 E_good rfl rfl rfl (v := V.bool x_1982) (.fn rfl) ?_
      refine SafeOps.nil ?_
      repeat (first | refine Safe.seq ?_ | refine Safe.skip ?_ | with_reducible refine thenQ.n ?_ | with_reducible refine blockQ.n ?_)
      refine Safe.ret ?_
      repeat (first | with_reducible refine thenQ.r ?_ | with_reducible refine blockQ.r ?_)
      obtain rfl := Option.some.inj h
      exact retQ.gen (vs := [V.bool x_1982]) rfl (.tmp (v := V.bool x_1982) rfl .nil) (.free rfl) (by simp) (.inr rfl)
    · skip
      refine Safe.condN rfl hc1985 ?_
      repeat (first | refine Safe.seq ?_ | refine Safe.skip ?_ | with_reducible refine thenQ.n ?_ | with_reducible refine blockQ.n ?_)
      refine Safe.region ?_
      refine SafeOps.quiet0 E_good rfl rfl rfl (v := V.agg [V.int .i64 a0_1944.Id, V.int .i64 a0_1944.Tenant, V.int .i64 a0_1944.Prog, V.int .i64 a0_1944.Pc, V.int .i64 a0_1944.Unit, V.int .i64 a0_1944.Keeps.a0, V.int .i64 a0_1944.Keeps.a1, V.int .i64 a0_1944.Keeps.a2, V.int .i64 a0_1944.Keeps.a3, V.int .i64 a0_1944.State, V.int .i64 a0_1944.Ran]) (.load rfl rfl (.box rfl rfl) rfl) ?_
      refine SafeOps.quiet0 E_good rfl rfl rfl (v := V.sl 3 (rws api_Instr.cells a1_1945)) (.fn rfl) ?_
      refine bindG h ?_
      rintro ⟨x_1986, x_1987⟩ he1988 h
      refine SafeOps.quiet0 E_good rfl rfl rfl (v := V.tup [V.agg [V.int .i64 x_1986.Op, V.int .i64 x_1986.A, V.int .i64 x_1986.B], V.int .i64 x_1987]) (.callP rfl rfl (go_step_Next_sc a0_1944 a1_1945 _ he1988) rfl) ?_
      refine SafeOps.quiet0 E_good rfl rfl rfl (v := V.tup [V.agg [V.int .i64 x_1986.Op, V.int .i64 x_1986.A, V.int .i64 x_1986.B], V.int .i64 x_1987]) (.fn rfl) ?_
      refine SafeOps.quiet0 E_good rfl rfl rfl (v := V.agg [V.int .i64 x_1986.Op, V.int .i64 x_1986.A, V.int .i64 x_1986.B]) (.fn rfl) ?_
      refine SafeOps.quiet0 E_good rfl rfl rfl (v := V.int .i64 x_1987) (.fn rfl) ?_
      refine SafeOps.quiet1 E_good rfl rfl rfl (.alloc rfl rfl) rfl ?_
      refine SafeOps.store (z := Obj.box [V.int .i64 x_1986.Op, V.int .i64 x_1986.A, V.int .i64 x_1986.B]) E_good rfl rfl rfl rfl rfl rfl rfl (.boxM (c := 3) rfl rfl (Nat.le_of_ble_eq_true rfl) rfl) ?_
      refine SafeOps.quiet0 E_good rfl rfl rfl (v := V.int .i64 x_1987) (.fn rfl) ?_
      refine SafeOps.nil ?_
      repeat (first | refine Safe.seq ?_ | refine Safe.skip ?_ | with_reducible refine thenQ.n ?_ | with_reducible refine blockQ.n ?_)
      refine Safe.region ?_
      refine SafeOps.quiet0 E_good rfl rfl rfl (v := V.agg [V.int .i64 a0_1944.Id, V.int .i64 a0_1944.Tenant, V.int .i64 a0_1944.Prog, V.int .i64 a0_1944.Pc, V.int .i64 a0_1944.Unit, V.int .i64 a0_1944.Keeps.a0, V.int .i64 a0_1944.Keeps.a1, V.int .i64 a0_1944.Keeps.a2, V.int .i64 a0_1944.Keeps.a3, V.int .i64 a0_1944.State, V.int .i64 a0_1944.Ran]) (.load rfl rfl (.box rfl rfl) rfl) ?_
      refine SafeOps.quiet0 E_good rfl rfl rfl (v := V.sl 3 (rws api_Instr.cells a1_1945)) (.fn rfl) ?_
      refine bindG h ?_
      rintro ⟨x_1989, x_1990, x_1991⟩ he1992 h
      refine SafeOps.quiet0 E_good rfl rfl rfl (v := V.tup [V.agg [V.int .i64 x_1989.Id, V.int .i64 x_1989.Tenant, V.int .i64 x_1989.Prog, V.int .i64 x_1989.Pc, V.int .i64 x_1989.Unit, V.int .i64 x_1989.Keeps.a0, V.int .i64 x_1989.Keeps.a1, V.int .i64 x_1989.Keeps.a2, V.int .i64 x_1989.Keeps.a3, V.int .i64 x_1989.State, V.int .i64 x_1989.Ran], V.agg [V.int .i64 x_1990.Kind, V.int .i64 x_1990.A, V.int .i64 x_1990.B], V.int .i64 x_1991]) (.callP rfl rfl (go_step_Do_sc a0_1944 a1_1945 _ he1992) rfl) ?_
      refine SafeOps.quiet0 E_good rfl rfl rfl (v := V.tup [V.agg [V.int .i64 x_1989.Id, V.int .i64 x_1989.Tenant, V.int .i64 x_1989.Prog, V.int .i64 x_1989.Pc, V.int .i64 x_1989.Unit, V.int .i64 x_1989.Keeps.a0, V.int .i64 x_1989.Keeps.a1, V.int .i64 x_1989.Keeps.a2, V.int .i64 x_1989.Keeps.a3, V.int .i64 x_1989.State, V.int .i64 x_1989.Ran], V.agg [V.int .i64 x_1990.Kind, V.int .i64 x_1990.A, V.int .i64 x_1990.B], V.int .i64 x_1991]) (.fn rfl) ?_
      refine SafeOps.quiet0 E_good rfl rfl rfl (v := V.agg [V.int .i64 x_1989.Id, V.int .i64 x_1989.Tenant, V.int .i64 x_1989.Prog, V.int .i64 x_1989.Pc, V.int .i64 x_1989.Unit, V.int .i64 x_1989.Keeps.a0, V.int .i64 x_1989.Keeps.a1, V.int .i64 x_1989.Keeps.a2, V.int .i64 x_1989.Keeps.a3, V.int .i64 x_1989.State, V.int .i64 x_1989.Ran]) (.fn rfl) ?_
      refine SafeOps.quiet0 E_good rfl rfl rfl (v := V.agg [V.int .i64 x_1990.Kind, V.int .i64 x_1990.A, V.int .i64 x_1990.B]) (.fn rfl) ?_
      refine SafeOps.quiet0 E_good rfl rfl rfl (v := V.int .i64 x_1991) (.fn rfl) ?_
      refine SafeOps.quiet1 E_good rfl rfl rfl (.alloc rfl rfl) rfl ?_
      refine SafeOps.quiet1 E_good rfl rfl rfl (.alloc rfl rfl) rfl ?_
      refine SafeOps.store (z := Obj.box [V.int .i64 x_1989.Id, V.int .i64 x_1989.Tenant, V.int .i64 x_1989.Prog, V.int .i64 x_1989.Pc, V.int .i64 x_1989.Unit, V.int .i64 x_1989.Keeps.a0, V.int .i64 x_1989.Keeps.a1, V.int .i64 x_1989.Keeps.a2, V.int .i64 x_1989.Keeps.a3, V.int .i64 x_1989.State, V.int .i64 x_1989.Ran]) E_good rfl rfl rfl rfl rfl rfl rfl (.boxM (c := 11) rfl rfl (Nat.le_of_ble_eq_true rfl) rfl) ?_
      refine SafeOps.store (z := Obj.box [V.int .i64 x_1990.Kind, V.int .i64 x_1990.A, V.int .i64 x_1990.B]) E_good rfl rfl rfl rfl rfl rfl rfl (.boxM (c := 3) rfl rfl (Nat.le_of_ble_eq_true rfl) rfl) ?_
      refine SafeOps.quiet0 E_good rfl rfl rfl (v := V.int .i64 x_1991) (.fn rfl) ?_
      refine SafeOps.nil ?_
      repeat (first | refine Safe.seq ?_ | refine Safe.skip ?_ | with_reducible refine thenQ.n ?_ | with_reducible refine blockQ.n ?_)
      refine Safe.region ?_
      refine SafeOps.quiet0 E_good rfl rfl rfl (v := V.int .i64 x_1991) (.fn rfl) ?_
      refine SafeOps.quiet0 E_good rfl rfl rfl (v := V.bool (x_1991 != 0)) (.fn rfl) ?_
      refine SafeOps.nil ?_
      repeat (first | refine Safe.seq ?_ | refine Safe.skip ?_ | with_reducible refine thenQ.n ?_ | with_reducible refine blockQ.n ?_)
      refine ifG h (fun hc1993 h => ?_) (fun hc1993 h => ?_)
      · skip
        refine Safe.condK rfl hc1993 ?_
        repeat (first | refine Safe.seq ?_ | refine Safe.skip ?_ | with_reducible refine thenQ.n ?_ | with_reducible refine blockQ.n ?_)
        refine Safe.region ?_
        refine SafeOps.quiet0 E_good rfl rfl rfl (v := V.bool x_1982) (.fn rfl) ?_
        refine SafeOps.quiet0 E_good rfl rfl rfl (v := V.bool x_1982) (.fn rfl) ?_
        refine SafeOps.nil ?_
        repeat (first | refine Safe.seq ?_ | refine Safe.skip ?_ | with_reducible refine thenQ.n ?_ | with_reducible refine blockQ.n ?_)
        refine Safe.ret ?_
        repeat (first | with_reducible refine thenQ.r ?_ | with_reducible refine blockQ.r ?_)
        obtain rfl := Option.some.inj h
        exact retQ.gen (vs := [V.bool x_1982]) rfl (.tmp (v := V.bool x_1982) rfl .nil) (.free rfl) (by simp) (.inr rfl)
      · skip
        refine Safe.condN rfl hc1993 ?_
        repeat (first | refine Safe.seq ?_ | refine Safe.skip ?_ | with_reducible refine thenQ.n ?_ | with_reducible refine blockQ.n ?_)
        refine Safe.region ?_
        refine SafeOps.quiet0 E_good rfl rfl rfl (v := V.int .i64 x_1987) (.fn rfl) ?_
        refine SafeOps.quiet0 E_good rfl rfl rfl (v := V.bool (x_1987 != 0)) (.fn rfl) ?_
        refine SafeOps.quiet0 E_good rfl rfl rfl (v := V.bool (x_1987 != 0)) (.fn rfl) ?_
        refine SafeOps.bjoin 9 53 (b := ((x_1987 != 0) || ((x_1986.Op == 1) && (!(api_Effect.beq x_1990 api_Effect.zero))))) (b1 := true) (b0 := ((x_1986.Op == 1) && (!(api_Effect.beq x_1990 api_Effect.zero)))) (fun hc1994 K => ?_) (fun hc1994 K => ?_) bj_or ?_
        · skip
          refine SafeOps.skip (congrArg (fun b => some (!b)) hc1994) rfl rfl ?_
          refine SafeOps.skip (congrArg (fun b => some (!b)) hc1994) rfl rfl ?_
          refine SafeOps.skip (congrArg (fun b => some (!b)) hc1994) rfl rfl ?_
          refine SafeOps.skip (congrArg (fun b => some (!b)) hc1994) rfl rfl ?_
          refine SafeOps.skip rfl rfl rfl ?_
          refine SafeOps.skip rfl rfl rfl ?_
          refine SafeOps.skip rfl rfl rfl ?_
          refine SafeOps.skip (congrArg (fun b => some (!b)) hc1994) rfl rfl ?_
          refine SafeOps.quiet0 E_good rfl rfl rfl (v := V.bool true) (.pickK rfl hc1994 rfl) ?_
          exact SafeOps.drop' 9 rfl rfl rfl K
        · skip
          refine SafeOps.quiet0 E_good (congrArg (fun b => some (!b)) hc1994) rfl rfl (v := V.ptr [10] 0 0) (.fn rfl) ?_
          refine SafeOps.quiet0 E_good (congrArg (fun b => some (!b)) hc1994) rfl rfl (v := V.int .i64 x_1986.Op) (.load rfl rfl (.box rfl rfl) rfl) ?_
          refine SafeOps.quiet0 E_good (congrArg (fun b => some (!b)) hc1994) rfl rfl (v := V.bool (x_1986.Op == 1)) (.fn rfl) ?_
          refine SafeOps.quiet0 E_good (congrArg (fun b => some (!b)) hc1994) rfl rfl (v := V.bool (x_1986.Op == 1)) (.fn rfl) ?_
          refine SafeOps.bjoin 4 52 (b := ((x_1986.Op == 1) && (!(api_Effect.beq x_1990 api_Effect.zero)))) (b1 := (!(api_Effect.beq x_1990 api_Effect.zero))) (b0 := false) (fun hc1995 K => ?_) (fun hc1995 K => ?_) bj_and ?_
          · skip
            refine SafeOps.quiet0 E_good (congrArg some hc1995) rfl rfl (v := V.agg [V.int .i64 x_1990.Kind, V.int .i64 x_1990.A, V.int .i64 x_1990.B]) (.load rfl rfl (.box rfl rfl) rfl) ?_
            refine SafeOps.quiet0 E_good (congrArg some hc1995) rfl rfl (v := V.agg [V.int .i64 0, V.int .i64 0, V.int .i64 0]) (.fn rfl) ?_
            refine SafeOps.quiet0 E_good (congrArg some hc1995) rfl rfl (v := V.bool (!(api_Effect.beq x_1990 api_Effect.zero))) (.neA rfl rfl rfl rfl okT33 rfl) ?_
            refine SafeOps.quiet0 E_good (congrArg (fun b => some (!b)) hc1994) rfl rfl (v := V.bool (!(api_Effect.beq x_1990 api_Effect.zero))) (.pickK rfl hc1995 rfl) ?_
            exact SafeOps.drop' 4 rfl rfl rfl K
          · skip
            refine SafeOps.skip (congrArg some hc1995) rfl rfl ?_
            refine SafeOps.skip (congrArg some hc1995) rfl rfl ?_
            refine SafeOps.skip (congrArg some hc1995) rfl rfl ?_
            refine SafeOps.quiet0 E_good (congrArg (fun b => some (!b)) hc1994) rfl rfl (v := V.bool false) (.pickK rfl hc1995 rfl) ?_
            exact SafeOps.drop' 4 rfl rfl rfl K
          refine SafeOps.quiet0 E_good rfl rfl rfl (v := V.bool ((x_1986.Op == 1) && (!(api_Effect.beq x_1990 api_Effect.zero)))) (.pickK rfl hc1994 rfl) ?_
          exact SafeOps.drop' 6 rfl rfl rfl K
        refine SafeOps.quiet0 E_good rfl rfl rfl (v := V.bool ((x_1987 != 0) || ((x_1986.Op == 1) && (!(api_Effect.beq x_1990 api_Effect.zero))))) (.fn rfl) ?_
        refine SafeOps.bjoin 15 69 (b := (((x_1987 != 0) || ((x_1986.Op == 1) && (!(api_Effect.beq x_1990 api_Effect.zero)))) || ((x_1986.Op != 1) && (!(api_Effect.beq x_1990 (api_Effect.mk x_1986.Op x_1986.A x_1986.B)))))) (b1 := true) (b0 := ((x_1986.Op != 1) && (!(api_Effect.beq x_1990 (api_Effect.mk x_1986.Op x_1986.A x_1986.B))))) (fun hc1996 K => ?_) (fun hc1996 K => ?_) bj_or ?_
        · skip
          refine SafeOps.skip (congrArg (fun b => some (!b)) hc1996) rfl rfl ?_
          refine SafeOps.skip (congrArg (fun b => some (!b)) hc1996) rfl rfl ?_
          refine SafeOps.skip (congrArg (fun b => some (!b)) hc1996) rfl rfl ?_
          refine SafeOps.skip (congrArg (fun b => some (!b)) hc1996) rfl rfl ?_
          refine SafeOps.skip rfl rfl rfl ?_
          refine SafeOps.skip rfl rfl rfl ?_
          refine SafeOps.skip rfl rfl rfl ?_
          refine SafeOps.skip rfl rfl rfl ?_
          refine SafeOps.skip rfl rfl rfl ?_
          refine SafeOps.skip rfl rfl rfl ?_
          refine SafeOps.skip rfl rfl rfl ?_
          refine SafeOps.skip rfl rfl rfl ?_
          refine SafeOps.skip rfl rfl rfl ?_
          refine SafeOps.skip (congrArg (fun b => some (!b)) hc1996) rfl rfl ?_
          refine SafeOps.quiet0 E_good rfl rfl rfl (v := V.bool true) (.pickK rfl hc1996 rfl) ?_
          exact SafeOps.drop' 15 rfl rfl rfl K
        · skip
          refine SafeOps.quiet0 E_good (congrArg (fun b => some (!b)) hc1996) rfl rfl (v := V.ptr [10] 0 0) (.fn rfl) ?_
          refine SafeOps.quiet0 E_good (congrArg (fun b => some (!b)) hc1996) rfl rfl (v := V.int .i64 x_1986.Op) (.load rfl rfl (.box rfl rfl) rfl) ?_
          refine SafeOps.quiet0 E_good (congrArg (fun b => some (!b)) hc1996) rfl rfl (v := V.bool (x_1986.Op != 1)) (.fn rfl) ?_
          refine SafeOps.quiet0 E_good (congrArg (fun b => some (!b)) hc1996) rfl rfl (v := V.bool (x_1986.Op != 1)) (.fn rfl) ?_
          refine SafeOps.bjoin 10 68 (b := ((x_1986.Op != 1) && (!(api_Effect.beq x_1990 (api_Effect.mk x_1986.Op x_1986.A x_1986.B))))) (b1 := (!(api_Effect.beq x_1990 (api_Effect.mk x_1986.Op x_1986.A x_1986.B)))) (b0 := false) (fun hc1997 K => ?_) (fun hc1997 K => ?_) bj_and ?_
          · skip
            refine SafeOps.quiet0 E_good (congrArg some hc1997) rfl rfl (v := V.agg [V.int .i64 x_1990.Kind, V.int .i64 x_1990.A, V.int .i64 x_1990.B]) (.load rfl rfl (.box rfl rfl) rfl) ?_
            refine SafeOps.quiet0 E_good (congrArg some hc1997) rfl rfl (v := V.ptr [10] 0 0) (.fn rfl) ?_
            refine SafeOps.quiet0 E_good (congrArg some hc1997) rfl rfl (v := V.int .i64 x_1986.Op) (.load rfl rfl (.box rfl rfl) rfl) ?_
            refine SafeOps.quiet0 E_good (congrArg some hc1997) rfl rfl (v := V.ptr [10] 0 1) (.fn rfl) ?_
            refine SafeOps.quiet0 E_good (congrArg some hc1997) rfl rfl (v := V.int .i64 x_1986.A) (.load rfl rfl (.box rfl rfl) rfl) ?_
            refine SafeOps.quiet0 E_good (congrArg some hc1997) rfl rfl (v := V.ptr [10] 0 2) (.fn rfl) ?_
            refine SafeOps.quiet0 E_good (congrArg some hc1997) rfl rfl (v := V.int .i64 x_1986.B) (.load rfl rfl (.box rfl rfl) rfl) ?_
            refine SafeOps.quiet0 E_good (congrArg some hc1997) rfl rfl (v := V.agg [V.int .i64 x_1986.Op, V.int .i64 x_1986.A, V.int .i64 x_1986.B]) (.fn rfl) ?_
            refine SafeOps.quiet0 E_good (congrArg some hc1997) rfl rfl (v := V.bool (!(api_Effect.beq x_1990 (api_Effect.mk x_1986.Op x_1986.A x_1986.B)))) (.neA rfl rfl rfl rfl okT33 rfl) ?_
            refine SafeOps.quiet0 E_good (congrArg (fun b => some (!b)) hc1996) rfl rfl (v := V.bool (!(api_Effect.beq x_1990 (api_Effect.mk x_1986.Op x_1986.A x_1986.B)))) (.pickK rfl hc1997 rfl) ?_
            exact SafeOps.drop' 10 rfl rfl rfl K
          · skip
            refine SafeOps.skip (congrArg some hc1997) rfl rfl ?_
            refine SafeOps.skip (congrArg some hc1997) rfl rfl ?_
            refine SafeOps.skip (congrArg some hc1997) rfl rfl ?_
            refine SafeOps.skip (congrArg some hc1997) rfl rfl ?_
            refine SafeOps.skip (congrArg some hc1997) rfl rfl ?_
            refine SafeOps.skip (congrArg some hc1997) rfl rfl ?_
            refine SafeOps.skip (congrArg some hc1997) rfl rfl ?_
            refine SafeOps.skip (congrArg some hc1997) rfl rfl ?_
            refine SafeOps.skip (congrArg some hc1997) rfl rfl ?_
            refine SafeOps.quiet0 E_good (congrArg (fun b => some (!b)) hc1996) rfl rfl (v := V.bool false) (.pickK rfl hc1997 rfl) ?_
            exact SafeOps.drop' 10 rfl rfl rfl K
          refine SafeOps.quiet0 E_good rfl rfl rfl (v := V.bool ((x_1986.Op != 1) && (!(api_Effect.beq x_1990 (api_Effect.mk x_1986.Op x_1986.A x_1986.B))))) (.pickK rfl hc1996 rfl) ?_
          exact SafeOps.drop' 6 rfl rfl rfl K
        refine SafeOps.nil ?_
        repeat (first | refine Safe.seq ?_ | refine Safe.skip ?_ | with_reducible refine thenQ.n ?_ | with_reducible refine blockQ.n ?_)
        refine ifG h (fun hc1998 h => ?_) (fun hc1998 h => ?_)
        · skip
          refine Safe.condK rfl hc1998 ?_
          repeat (first | refine Safe.seq ?_ | refine Safe.skip ?_ | with_reducible refine thenQ.n ?_ | with_reducible refine blockQ.n ?_)
          refine Safe.region ?_
          refine SafeOps.quiet0 E_good rfl rfl rfl (v := V.bool false) (.fn rfl) ?_
          refine SafeOps.nil ?_
          repeat (first | refine Safe.seq ?_ | refine Safe.skip ?_ | with_reducible refine thenQ.n ?_ | with_reducible refine blockQ.n ?_)
          refine Safe.ret ?_
          repeat (first | with_reducible refine thenQ.r ?_ | with_reducible refine blockQ.r ?_)
          obtain rfl := Option.some.inj h
          exact retQ.gen (vs := [V.bool false]) rfl (.tmp (v := V.bool false) rfl .nil) (.free rfl) (by simp) (.inr rfl)
        · skip
          refine Safe.condN rfl hc1998 ?_
          repeat (first | refine Safe.seq ?_ | refine Safe.skip ?_ | with_reducible refine thenQ.n ?_ | with_reducible refine blockQ.n ?_)
          refine Safe.region ?_
          refine SafeOps.quiet0 E_good rfl rfl rfl (v := V.agg [V.int .i64 a0_1944.Id, V.int .i64 a0_1944.Tenant, V.int .i64 a0_1944.Prog, V.int .i64 a0_1944.Pc, V.int .i64 a0_1944.Unit, V.int .i64 a0_1944.Keeps.a0, V.int .i64 a0_1944.Keeps.a1, V.int .i64 a0_1944.Keeps.a2, V.int .i64 a0_1944.Keeps.a3, V.int .i64 a0_1944.State, V.int .i64 a0_1944.Ran]) (.load rfl rfl (.box rfl rfl) rfl) ?_
          refine SafeOps.quiet1 E_good rfl rfl rfl (.alloc rfl rfl) rfl ?_
          refine SafeOps.store (z := Obj.box [V.int .i64 a0_1944.Id, V.int .i64 a0_1944.Tenant, V.int .i64 a0_1944.Prog, V.int .i64 a0_1944.Pc, V.int .i64 a0_1944.Unit, V.int .i64 a0_1944.Keeps.a0, V.int .i64 a0_1944.Keeps.a1, V.int .i64 a0_1944.Keeps.a2, V.int .i64 a0_1944.Keeps.a3, V.int .i64 a0_1944.State, V.int .i64 a0_1944.Ran]) E_good rfl rfl rfl rfl rfl rfl rfl (.boxM (c := 11) rfl rfl (Nat.le_of_ble_eq_true rfl) rfl) ?_
          refine SafeOps.nil ?_
          repeat (first | refine Safe.seq ?_ | refine Safe.skip ?_ | with_reducible refine thenQ.n ?_ | with_reducible refine blockQ.n ?_)
          refine Safe.region ?_
          refine SafeOps.quiet0 E_good rfl rfl rfl (v := V.int .i64 a2_1946) (.fn rfl) ?_
          refine SafeOps.quiet0 E_good rfl rfl rfl (v := V.ptr [15] 0 0) (.fn rfl) ?_
          refine SafeOps.store (z := Obj.box [V.int .i64 a2_1946, V.int .i64 a0_1944.Tenant, V.int .i64 a0_1944.Prog, V.int .i64 a0_1944.Pc, V.int .i64 a0_1944.Unit, V.int .i64 a0_1944.Keeps.a0, V.int .i64 a0_1944.Keeps.a1, V.int .i64 a0_1944.Keeps.a2, V.int .i64 a0_1944.Keeps.a3, V.int .i64 a0_1944.State, V.int .i64 a0_1944.Ran]) E_good rfl rfl rfl rfl rfl rfl rfl (.boxM (c := 11) rfl rfl (Nat.le_of_ble_eq_true rfl) rfl) ?_
          refine SafeOps.nil ?_
          repeat (first | refine Safe.seq ?_ | refine Safe.skip ?_ | with_reducible refine thenQ.n ?_ | with_reducible refine blockQ.n ?_)
          refine Safe.region ?_
          refine SafeOps.quiet0 E_good rfl rfl rfl (v := V.int .i64 a3_1947) (.fn rfl) ?_
          refine SafeOps.quiet0 E_good rfl rfl rfl (v := V.ptr [15] 0 1) (.fn rfl) ?_
          refine SafeOps.store (z := Obj.box [V.int .i64 a2_1946, V.int .i64 a3_1947, V.int .i64 a0_1944.Prog, V.int .i64 a0_1944.Pc, V.int .i64 a0_1944.Unit, V.int .i64 a0_1944.Keeps.a0, V.int .i64 a0_1944.Keeps.a1, V.int .i64 a0_1944.Keeps.a2, V.int .i64 a0_1944.Keeps.a3, V.int .i64 a0_1944.State, V.int .i64 a0_1944.Ran]) E_good rfl rfl rfl rfl rfl rfl rfl (.boxM (c := 11) rfl rfl (Nat.le_of_ble_eq_true rfl) rfl) ?_
          refine SafeOps.nil ?_
          repeat (first | refine Safe.seq ?_ | refine Safe.skip ?_ | with_reducible refine thenQ.n ?_ | with_reducible refine blockQ.n ?_)
          refine Safe.region ?_
          refine SafeOps.quiet0 E_good rfl rfl rfl (v := V.agg [V.int .i64 a2_1946, V.int .i64 a3_1947, V.int .i64 a0_1944.Prog, V.int .i64 a0_1944.Pc, V.int .i64 a0_1944.Unit, V.int .i64 a0_1944.Keeps.a0, V.int .i64 a0_1944.Keeps.a1, V.int .i64 a0_1944.Keeps.a2, V.int .i64 a0_1944.Keeps.a3, V.int .i64 a0_1944.State, V.int .i64 a0_1944.Ran]) (.load rfl rfl (.box rfl rfl) rfl) ?_
          refine SafeOps.quiet0 E_good rfl rfl rfl (v := V.sl 3 (rws api_Instr.cells a1_1945)) (.fn rfl) ?_
          refine bindG h ?_
          rintro ⟨x_1999, x_2000, x_2001⟩ he2002 h
          refine SafeOps.quiet0 E_good rfl rfl rfl (v := V.tup [V.agg [V.int .i64 x_1999.Id, V.int .i64 x_1999.Tenant, V.int .i64 x_1999.Prog, V.int .i64 x_1999.Pc, V.int .i64 x_1999.Unit, V.int .i64 x_1999.Keeps.a0, V.int .i64 x_1999.Keeps.a1, V.int .i64 x_1999.Keeps.a2, V.int .i64 x_1999.Keeps.a3, V.int .i64 x_1999.State, V.int .i64 x_1999.Ran], V.agg [V.int .i64 x_2000.Kind, V.int .i64 x_2000.A, V.int .i64 x_2000.B], V.int .i64 x_2001]) (.callP rfl rfl (go_step_Do_sc (api_Task.mk a2_1946 a3_1947 a0_1944.Prog a0_1944.Pc a0_1944.Unit a0_1944.Keeps a0_1944.State a0_1944.Ran) a1_1945 _ he2002) rfl) ?_
          refine SafeOps.quiet0 E_good rfl rfl rfl (v := V.tup [V.agg [V.int .i64 x_1999.Id, V.int .i64 x_1999.Tenant, V.int .i64 x_1999.Prog, V.int .i64 x_1999.Pc, V.int .i64 x_1999.Unit, V.int .i64 x_1999.Keeps.a0, V.int .i64 x_1999.Keeps.a1, V.int .i64 x_1999.Keeps.a2, V.int .i64 x_1999.Keeps.a3, V.int .i64 x_1999.State, V.int .i64 x_1999.Ran], V.agg [V.int .i64 x_2000.Kind, V.int .i64 x_2000.A, V.int .i64 x_2000.B], V.int .i64 x_2001]) (.fn rfl) ?_
          refine SafeOps.quiet0 E_good rfl rfl rfl (v := V.agg [V.int .i64 x_1999.Id, V.int .i64 x_1999.Tenant, V.int .i64 x_1999.Prog, V.int .i64 x_1999.Pc, V.int .i64 x_1999.Unit, V.int .i64 x_1999.Keeps.a0, V.int .i64 x_1999.Keeps.a1, V.int .i64 x_1999.Keeps.a2, V.int .i64 x_1999.Keeps.a3, V.int .i64 x_1999.State, V.int .i64 x_1999.Ran]) (.fn rfl) ?_
          refine SafeOps.quiet0 E_good rfl rfl rfl (v := V.agg [V.int .i64 x_2000.Kind, V.int .i64 x_2000.A, V.int .i64 x_2000.B]) (.fn rfl) ?_
          refine SafeOps.quiet0 E_good rfl rfl rfl (v := V.int .i64 x_2001) (.fn rfl) ?_
          refine SafeOps.quiet1 E_good rfl rfl rfl (.alloc rfl rfl) rfl ?_
          refine SafeOps.quiet1 E_good rfl rfl rfl (.alloc rfl rfl) rfl ?_
          refine SafeOps.store (z := Obj.box [V.int .i64 x_1999.Id, V.int .i64 x_1999.Tenant, V.int .i64 x_1999.Prog, V.int .i64 x_1999.Pc, V.int .i64 x_1999.Unit, V.int .i64 x_1999.Keeps.a0, V.int .i64 x_1999.Keeps.a1, V.int .i64 x_1999.Keeps.a2, V.int .i64 x_1999.Keeps.a3, V.int .i64 x_1999.State, V.int .i64 x_1999.Ran]) E_good rfl rfl rfl rfl rfl rfl rfl (.boxM (c := 11) rfl rfl (Nat.le_of_ble_eq_true rfl) rfl) ?_
          refine SafeOps.store (z := Obj.box [V.int .i64 x_2000.Kind, V.int .i64 x_2000.A, V.int .i64 x_2000.B]) E_good rfl rfl rfl rfl rfl rfl rfl (.boxM (c := 3) rfl rfl (Nat.le_of_ble_eq_true rfl) rfl) ?_
          refine SafeOps.quiet0 E_good rfl rfl rfl (v := V.int .i64 x_2001) (.fn rfl) ?_
          refine SafeOps.nil ?_
          repeat (first | refine Safe.seq ?_ | refine Safe.skip ?_ | with_reducible refine thenQ.n ?_ | with_reducible refine blockQ.n ?_)
          refine Safe.region ?_
          refine SafeOps.quiet0 E_good rfl rfl rfl (v := V.int .i64 x_2001) (.fn rfl) ?_
          refine SafeOps.quiet0 E_good rfl rfl rfl (v := V.bool (x_2001 != 0)) (.fn rfl) ?_
          refine SafeOps.nil ?_
          repeat (first | refine Safe.seq ?_ | refine Safe.skip ?_ | with_reducible refine thenQ.n ?_ | with_reducible refine blockQ.n ?_)
          refine ifG h (fun hc2008 h => ?_) (fun hc2008 h => ?_)
          · skip
            refine Safe.condK rfl hc2008 ?_
            repeat (first | refine Safe.seq ?_ | refine Safe.skip ?_ | with_reducible refine thenQ.n ?_ | with_reducible refine blockQ.n ?_)
            refine Safe.region ?_
            refine SafeOps.quiet0 E_good rfl rfl rfl (v := V.bool x_1982) (.fn rfl) ?_
            refine SafeOps.quiet0 E_good rfl rfl rfl (v := V.bool x_1982) (.fn rfl) ?_
            refine ifG h (fun hc2009 h => ?_) (fun hc2009 h => ?_)
            · skip
              refine SafeOps.quiet0 E_good (congrArg some hc2009) rfl rfl (v := V.agg [V.int .i64 a2_1946, V.int .i64 a3_1947, V.int .i64 a0_1944.Prog, V.int .i64 a0_1944.Pc, V.int .i64 a0_1944.Unit, V.int .i64 a0_1944.Keeps.a0, V.int .i64 a0_1944.Keeps.a1, V.int .i64 a0_1944.Keeps.a2, V.int .i64 a0_1944.Keeps.a3, V.int .i64 a0_1944.State, V.int .i64 a0_1944.Ran]) (.load rfl rfl (.box rfl rfl) rfl) ?_
              refine bindG h ?_
              intro x_2012 he2013 h
              refine SafeOps.quiet0 E_good (congrArg some hc2009) rfl rfl (v := V.int .i64 x_2012) (.callP rfl rfl (go_life_Check_sc (api_Task.mk a2_1946 a3_1947 a0_1944.Prog a0_1944.Pc a0_1944.Unit a0_1944.Keeps a0_1944.State a0_1944.Ran) _ he2013) rfl) ?_
              refine SafeOps.quiet0 E_good (congrArg some hc2009) rfl rfl (v := V.int .i64 x_2001) (.fn rfl) ?_
              refine SafeOps.quiet0 E_good (congrArg some hc2009) rfl rfl (v := V.bool (x_2012 == x_2001)) (.fn rfl) ?_
              refine SafeOps.quiet0 E_good rfl rfl rfl (v := V.bool (x_2012 == x_2001)) (.pickK rfl hc2009 rfl) ?_
              refine SafeOps.quiet0 E_good rfl rfl rfl (v := V.bool (x_2012 == x_2001)) (.fn rfl) ?_
              refine SafeOps.nil ?_
              repeat (first | refine Safe.seq ?_ | refine Safe.skip ?_ | with_reducible refine thenQ.n ?_ | with_reducible refine blockQ.n ?_)
              refine Safe.ret ?_
              repeat (first | with_reducible refine thenQ.r ?_ | with_reducible refine blockQ.r ?_)
              obtain rfl := Option.some.inj h
              exact retQ.gen (vs := [V.bool (x_2012 == x_2001)]) rfl (.tmp (v := V.bool (x_2012 == x_2001)) rfl .nil) (.free rfl) (by simp) (.inr rfl)
            · skip
              refine SafeOps.skip (congrArg some hc2009) rfl rfl ?_
              refine SafeOps.skip (congrArg some hc2009) rfl rfl ?_
              refine SafeOps.skip (congrArg some hc2009) rfl rfl ?_
              refine SafeOps.skip (congrArg some hc2009) rfl rfl ?_
              refine SafeOps.quiet0 E_good rfl rfl rfl (v := V.bool false) (.pickK rfl hc2009 rfl) ?_
              refine SafeOps.quiet0 E_good rfl rfl rfl (v := V.bool false) (.fn rfl) ?_
              refine SafeOps.nil ?_
              repeat (first | refine Safe.seq ?_ | refine Safe.skip ?_ | with_reducible refine thenQ.n ?_ | with_reducible refine blockQ.n ?_)
              refine Safe.ret ?_
              repeat (first | with_reducible refine thenQ.r ?_ | with_reducible refine blockQ.r ?_)
              obtain rfl := Option.some.inj h
              exact retQ.gen (vs := [V.bool false]) rfl (.tmp (v := V.bool false) rfl .nil) (.free rfl) (by simp) (.inr rfl)
          · skip
            refine Safe.condN rfl hc2008 ?_
            repeat (first | refine Safe.seq ?_ | refine Safe.skip ?_ | with_reducible refine thenQ.n ?_ | with_reducible refine blockQ.n ?_)
            refine Safe.region ?_
            refine SafeOps.quiet0 E_good rfl rfl rfl (v := V.ptr [4] 0 0) (.fn rfl) ?_
            refine SafeOps.quiet0 E_good rfl rfl rfl (v := V.int .i64 a0_1944.Id) (.load rfl rfl (.box rfl rfl) rfl) ?_
            refine SafeOps.quiet0 E_good rfl rfl rfl (v := V.ptr [16] 0 0) (.fn rfl) ?_
            refine SafeOps.store (z := Obj.box [V.int .i64 a0_1944.Id, V.int .i64 x_1999.Tenant, V.int .i64 x_1999.Prog, V.int .i64 x_1999.Pc, V.int .i64 x_1999.Unit, V.int .i64 x_1999.Keeps.a0, V.int .i64 x_1999.Keeps.a1, V.int .i64 x_1999.Keeps.a2, V.int .i64 x_1999.Keeps.a3, V.int .i64 x_1999.State, V.int .i64 x_1999.Ran]) E_good rfl rfl rfl rfl rfl rfl rfl (.boxM (c := 11) rfl rfl (Nat.le_of_ble_eq_true rfl) rfl) ?_
            refine SafeOps.nil ?_
            repeat (first | refine Safe.seq ?_ | refine Safe.skip ?_ | with_reducible refine thenQ.n ?_ | with_reducible refine blockQ.n ?_)
            refine Safe.region ?_
            refine SafeOps.quiet0 E_good rfl rfl rfl (v := V.ptr [4] 0 1) (.fn rfl) ?_
            refine SafeOps.quiet0 E_good rfl rfl rfl (v := V.int .i64 a0_1944.Tenant) (.load rfl rfl (.box rfl rfl) rfl) ?_
            refine SafeOps.quiet0 E_good rfl rfl rfl (v := V.ptr [16] 0 1) (.fn rfl) ?_
            refine SafeOps.store (z := Obj.box [V.int .i64 a0_1944.Id, V.int .i64 a0_1944.Tenant, V.int .i64 x_1999.Prog, V.int .i64 x_1999.Pc, V.int .i64 x_1999.Unit, V.int .i64 x_1999.Keeps.a0, V.int .i64 x_1999.Keeps.a1, V.int .i64 x_1999.Keeps.a2, V.int .i64 x_1999.Keeps.a3, V.int .i64 x_1999.State, V.int .i64 x_1999.Ran]) E_good rfl rfl rfl rfl rfl rfl rfl (.boxM (c := 11) rfl rfl (Nat.le_of_ble_eq_true rfl) rfl) ?_
            refine SafeOps.nil ?_
            repeat (first | refine Safe.seq ?_ | refine Safe.skip ?_ | with_reducible refine thenQ.n ?_ | with_reducible refine blockQ.n ?_)
            refine Safe.region ?_
            refine SafeOps.quiet0 E_good rfl rfl rfl (v := V.bool x_1982) (.fn rfl) ?_
            refine SafeOps.quiet0 E_good rfl rfl rfl (v := V.bool x_1982) (.fn rfl) ?_
            refine SafeOps.bjoin 4 102 (b := (x_1982 && (api_Task.beq x_1989 (api_Task.mk a0_1944.Id a0_1944.Tenant x_1999.Prog x_1999.Pc x_1999.Unit x_1999.Keeps x_1999.State x_1999.Ran)))) (b1 := api_Task.beq x_1989 (api_Task.mk a0_1944.Id a0_1944.Tenant x_1999.Prog x_1999.Pc x_1999.Unit x_1999.Keeps x_1999.State x_1999.Ran)) (b0 := false) (fun hc2014 K => ?_) (fun hc2014 K => ?_) bj_and ?_
            · skip
              refine SafeOps.quiet0 E_good (congrArg some hc2014) rfl rfl (v := V.agg [V.int .i64 x_1989.Id, V.int .i64 x_1989.Tenant, V.int .i64 x_1989.Prog, V.int .i64 x_1989.Pc, V.int .i64 x_1989.Unit, V.int .i64 x_1989.Keeps.a0, V.int .i64 x_1989.Keeps.a1, V.int .i64 x_1989.Keeps.a2, V.int .i64 x_1989.Keeps.a3, V.int .i64 x_1989.State, V.int .i64 x_1989.Ran]) (.load rfl rfl (.box rfl rfl) rfl) ?_
              refine SafeOps.quiet0 E_good (congrArg some hc2014) rfl rfl (v := V.agg [V.int .i64 a0_1944.Id, V.int .i64 a0_1944.Tenant, V.int .i64 x_1999.Prog, V.int .i64 x_1999.Pc, V.int .i64 x_1999.Unit, V.int .i64 x_1999.Keeps.a0, V.int .i64 x_1999.Keeps.a1, V.int .i64 x_1999.Keeps.a2, V.int .i64 x_1999.Keeps.a3, V.int .i64 x_1999.State, V.int .i64 x_1999.Ran]) (.load rfl rfl (.box rfl rfl) rfl) ?_
              refine SafeOps.quiet0 E_good (congrArg some hc2014) rfl rfl (v := V.bool (api_Task.beq x_1989 (api_Task.mk a0_1944.Id a0_1944.Tenant x_1999.Prog x_1999.Pc x_1999.Unit x_1999.Keeps x_1999.State x_1999.Ran))) (.eqA rfl rfl rfl rfl okT29 rfl) ?_
              refine SafeOps.quiet0 E_good rfl rfl rfl (v := V.bool (api_Task.beq x_1989 (api_Task.mk a0_1944.Id a0_1944.Tenant x_1999.Prog x_1999.Pc x_1999.Unit x_1999.Keeps x_1999.State x_1999.Ran))) (.pickK rfl hc2014 rfl) ?_
              exact SafeOps.drop' 4 rfl rfl rfl K
            · skip
              refine SafeOps.skip (congrArg some hc2014) rfl rfl ?_
              refine SafeOps.skip (congrArg some hc2014) rfl rfl ?_
              refine SafeOps.skip (congrArg some hc2014) rfl rfl ?_
              refine SafeOps.quiet0 E_good rfl rfl rfl (v := V.bool false) (.pickK rfl hc2014 rfl) ?_
              exact SafeOps.drop' 4 rfl rfl rfl K
            refine SafeOps.quiet0 E_good rfl rfl rfl (v := V.bool (x_1982 && (api_Task.beq x_1989 (api_Task.mk a0_1944.Id a0_1944.Tenant x_1999.Prog x_1999.Pc x_1999.Unit x_1999.Keeps x_1999.State x_1999.Ran)))) (.fn rfl) ?_
            refine SafeOps.bjoin 4 107 (b := ((x_1982 && (api_Task.beq x_1989 (api_Task.mk a0_1944.Id a0_1944.Tenant x_1999.Prog x_1999.Pc x_1999.Unit x_1999.Keeps x_1999.State x_1999.Ran))) && (api_Effect.beq x_1990 x_2000))) (b1 := api_Effect.beq x_1990 x_2000) (b0 := false) (fun hc2015 K => ?_) (fun hc2015 K => ?_) bj_and ?_
            · skip
              refine SafeOps.quiet0 E_good (congrArg some hc2015) rfl rfl (v := V.agg [V.int .i64 x_1990.Kind, V.int .i64 x_1990.A, V.int .i64 x_1990.B]) (.load rfl rfl (.box rfl rfl) rfl) ?_
              refine SafeOps.quiet0 E_good (congrArg some hc2015) rfl rfl (v := V.agg [V.int .i64 x_2000.Kind, V.int .i64 x_2000.A, V.int .i64 x_2000.B]) (.load rfl rfl (.box rfl rfl) rfl) ?_
              refine SafeOps.quiet0 E_good (congrArg some hc2015) rfl rfl (v := V.bool (api_Effect.beq x_1990 x_2000)) (.eqA rfl rfl rfl rfl okT33 rfl) ?_
              refine SafeOps.quiet0 E_good rfl rfl rfl (v := V.bool (api_Effect.beq x_1990 x_2000)) (.pickK rfl hc2015 rfl) ?_
              exact SafeOps.drop' 4 rfl rfl rfl K
            · skip
              refine SafeOps.skip (congrArg some hc2015) rfl rfl ?_
              refine SafeOps.skip (congrArg some hc2015) rfl rfl ?_
              refine SafeOps.skip (congrArg some hc2015) rfl rfl ?_
              refine SafeOps.quiet0 E_good rfl rfl rfl (v := V.bool false) (.pickK rfl hc2015 rfl) ?_
              exact SafeOps.drop' 4 rfl rfl rfl K
            refine SafeOps.quiet0 E_good rfl rfl rfl (v := V.bool ((x_1982 && (api_Task.beq x_1989 (api_Task.mk a0_1944.Id a0_1944.Tenant x_1999.Prog x_1999.Pc x_1999.Unit x_1999.Keeps x_1999.State x_1999.Ran))) && (api_Effect.beq x_1990 x_2000))) (.fn rfl) ?_
            refine SafeOps.nil ?_
            repeat (first | refine Safe.seq ?_ | refine Safe.skip ?_ | with_reducible refine thenQ.n ?_ | with_reducible refine blockQ.n ?_)
            refine Safe.ret ?_
            repeat (first | with_reducible refine thenQ.r ?_ | with_reducible refine blockQ.r ?_)
            obtain rfl := Option.some.inj h
            exact retQ.gen (vs := [V.bool ((x_1982 && (api_Task.beq x_1989 (api_Task.mk a0_1944.Id a0_1944.Tenant x_1999.Prog x_1999.Pc x_1999.Unit x_1999.Keeps x_1999.State x_1999.Ran))) && (api_Effect.beq x_1990 x_2000))]) rfl (.tmp (v := V.bool ((x_1982 && (api_Task.beq x_1989 (api_Task.mk a0_1944.Id a0_1944.Tenant x_1999.Prog x_1999.Pc x_1999.Unit x_1999.Keeps x_1999.State x_1999.Ran))) && (api_Effect.beq x_1990 x_2000))) rfl .nil) (.free rfl) (by simp) (.inr rfl)

def go_ravelref12_state (a0_2043 : Int) : Bool :=
  ((decide (a0_2043 ≥ 1)) && (decide (a0_2043 ≤ 7)))

theorem go_ravelref12_state_sc (a0_2043 : Int) (r : Bool) (h : go_ravelref12_state a0_2043 = r) : SC Tryd.prog gl 39 [V.int .i64 a0_2043] (V.bool r) := by
  rw [go_ravelref12_state] at h
  refine SC.of E_good Tryd.func39 rfl (fun _ _ => Tryd.call39 _ _) rfl ?_
  repeat (first | refine Safe.seq ?_ | refine Safe.skip ?_ | with_reducible refine thenQ.n ?_ | with_reducible refine blockQ.n ?_)
  refine Safe.region ?_
  refine SafeOps.quiet0 E_good rfl rfl rfl (v := V.bool false) (.fn rfl) ?_
  refine SafeOps.nil ?_
  repeat (first | refine Safe.seq ?_ | refine Safe.skip ?_ | with_reducible refine thenQ.n ?_ | with_reducible refine blockQ.n ?_)
  refine Safe.region ?_
  refine SafeOps.quiet0 E_good rfl rfl rfl (v := V.int .i64 a0_2043) (.fn rfl) ?_
  refine SafeOps.quiet0 E_good rfl rfl rfl (v := V.bool (decide (a0_2043 ≥ 1))) (.fn rfl) ?_
  refine SafeOps.quiet0 E_good rfl rfl rfl (v := V.bool (decide (a0_2043 ≥ 1))) (.fn rfl) ?_
  refine SafeOps.bjoin 3 8 (b := ((decide (a0_2043 ≥ 1)) && (decide (a0_2043 ≤ 7)))) (b1 := decide (a0_2043 ≤ 7)) (b0 := false) (fun hc2045 K => ?_) (fun hc2045 K => ?_) bj_and ?_
  · skip
    refine SafeOps.quiet0 E_good (congrArg some hc2045) rfl rfl (v := V.int .i64 a0_2043) (.fn rfl) ?_
    refine SafeOps.quiet0 E_good (congrArg some hc2045) rfl rfl (v := V.bool (decide (a0_2043 ≤ 7))) (.fn rfl) ?_
    refine SafeOps.quiet0 E_good rfl rfl rfl (v := V.bool (decide (a0_2043 ≤ 7))) (.pickK rfl hc2045 rfl) ?_
    exact SafeOps.drop' 3 rfl rfl rfl K
  · skip
    refine SafeOps.skip (congrArg some hc2045) rfl rfl ?_
    refine SafeOps.skip (congrArg some hc2045) rfl rfl ?_
    refine SafeOps.quiet0 E_good rfl rfl rfl (v := V.bool false) (.pickK rfl hc2045 rfl) ?_
    exact SafeOps.drop' 3 rfl rfl rfl K
  refine SafeOps.quiet0 E_good rfl rfl rfl (v := V.bool ((decide (a0_2043 ≥ 1)) && (decide (a0_2043 ≤ 7)))) (.fn rfl) ?_
  refine SafeOps.nil ?_
  repeat (first | refine Safe.seq ?_ | refine Safe.skip ?_ | with_reducible refine thenQ.n ?_ | with_reducible refine blockQ.n ?_)
  refine Safe.ret ?_
  repeat (first | with_reducible refine thenQ.r ?_ | with_reducible refine blockQ.r ?_)
  obtain rfl := h
  exact retQ.gen (vs := [V.bool ((decide (a0_2043 ≥ 1)) && (decide (a0_2043 ≤ 7)))]) rfl (.tmp (v := V.bool ((decide (a0_2043 ≥ 1)) && (decide (a0_2043 ≤ 7)))) rfl .nil) (.free rfl) (by simp) (.inr rfl)

noncomputable def go_ravelref12_Check_s1 (a0_2033 : api_Task) : (Int) → Option ((Int) ⊕ (Int))
  | v66_14361 =>
    if (decide (v66_14361 < 4)) = true then
      if 0 ≤ v66_14361 ∧ v66_14361 < (4 : Int) then
        if (decide ((if v66_14361 = 0 then a0_2033.Keeps.a0 else (if v66_14361 = 1 then a0_2033.Keeps.a1 else (if v66_14361 = 2 then a0_2033.Keeps.a2 else a0_2033.Keeps.a3))) < (-1))) = true then
          inrO (
            some 1)
        else
          nextO (IntKind.i64.wrap (v66_14361 + 1))
      else none
    else
      inrO (
        some 0)

noncomputable def go_ravelref12_Check (a0_2033 : api_Task) : Option Int :=
  if ((((((((((((decide (a0_2033.Id < 0)) || (decide (a0_2033.Tenant < 0))) || (decide (a0_2033.Tenant > 15))) || (decide (a0_2033.Prog < 0))) || (decide (a0_2033.Prog > 15))) || (decide (a0_2033.Pc < 0))) || (decide (a0_2033.Pc > 32))) || (decide (a0_2033.Unit < 0))) || (decide (a0_2033.Unit > 99))) || (!(go_ravelref12_state a0_2033.State))) || (decide (a0_2033.Ran < 0))) || (decide (a0_2033.Ran > 1099511627776))) = true then
    some 1
  else
    whileO (go_ravelref12_Check_s1 a0_2033) 0

theorem go_ravelref12_Check_sc (a0_2033 : api_Task) (r : Int) (h : go_ravelref12_Check a0_2033 = some r) : SC Tryd.prog gl 36 [V.agg [V.int .i64 a0_2033.Id, V.int .i64 a0_2033.Tenant, V.int .i64 a0_2033.Prog, V.int .i64 a0_2033.Pc, V.int .i64 a0_2033.Unit, V.int .i64 a0_2033.Keeps.a0, V.int .i64 a0_2033.Keeps.a1, V.int .i64 a0_2033.Keeps.a2, V.int .i64 a0_2033.Keeps.a3, V.int .i64 a0_2033.State, V.int .i64 a0_2033.Ran]] (V.int .i64 r) := by
  rw [go_ravelref12_Check] at h
  refine SC.of E_good Tryd.func36 rfl (fun _ _ => Tryd.call36 _ _) rfl ?_
  repeat (first | refine Safe.seq ?_ | refine Safe.skip ?_ | with_reducible refine thenQ.n ?_ | with_reducible refine blockQ.n ?_)
  refine Safe.region ?_
  refine SafeOps.quiet1 E_good rfl rfl rfl (.box rfl rfl) rfl ?_
  refine SafeOps.quiet0 E_good rfl rfl rfl (v := V.int .i64 0) (.fn rfl) ?_
  refine SafeOps.nil ?_
  repeat (first | refine Safe.seq ?_ | refine Safe.skip ?_ | with_reducible refine thenQ.n ?_ | with_reducible refine blockQ.n ?_)
  refine Safe.region ?_
  refine SafeOps.quiet0 E_good rfl rfl rfl (v := V.ptr [1] 0 0) (.fn rfl) ?_
  refine SafeOps.quiet0 E_good rfl rfl rfl (v := V.int .i64 a0_2033.Id) (.load rfl rfl (.box rfl rfl) rfl) ?_
  refine SafeOps.quiet0 E_good rfl rfl rfl (v := V.bool (decide (a0_2033.Id < 0))) (.fn rfl) ?_
  refine SafeOps.quiet0 E_good rfl rfl rfl (v := V.bool (decide (a0_2033.Id < 0))) (.fn rfl) ?_
  refine SafeOps.bjoin 4 12 (b := ((decide (a0_2033.Id < 0)) || (decide (a0_2033.Tenant < 0)))) (b1 := true) (b0 := decide (a0_2033.Tenant < 0)) (fun hc14344 K => ?_) (fun hc14344 K => ?_) bj_or ?_
  · skip
    refine SafeOps.skip (congrArg (fun b => some (!b)) hc14344) rfl rfl ?_
    refine SafeOps.skip (congrArg (fun b => some (!b)) hc14344) rfl rfl ?_
    refine SafeOps.skip (congrArg (fun b => some (!b)) hc14344) rfl rfl ?_
    refine SafeOps.quiet0 E_good rfl rfl rfl (v := V.bool true) (.pickK rfl hc14344 rfl) ?_
    exact SafeOps.drop' 4 rfl rfl rfl K
  · skip
    refine SafeOps.quiet0 E_good (congrArg (fun b => some (!b)) hc14344) rfl rfl (v := V.ptr [1] 0 1) (.fn rfl) ?_
    refine SafeOps.quiet0 E_good (congrArg (fun b => some (!b)) hc14344) rfl rfl (v := V.int .i64 a0_2033.Tenant) (.load rfl rfl (.box rfl rfl) rfl) ?_
    refine SafeOps.quiet0 E_good (congrArg (fun b => some (!b)) hc14344) rfl rfl (v := V.bool (decide (a0_2033.Tenant < 0))) (.fn rfl) ?_
    refine SafeOps.quiet0 E_good rfl rfl rfl (v := V.bool (decide (a0_2033.Tenant < 0))) (.pickK rfl hc14344 rfl) ?_
    exact SafeOps.drop' 4 rfl rfl rfl K
  refine SafeOps.quiet0 E_good rfl rfl rfl (v := V.bool ((decide (a0_2033.Id < 0)) || (decide (a0_2033.Tenant < 0)))) (.fn rfl) ?_
  refine SafeOps.bjoin 4 17 (b := (((decide (a0_2033.Id < 0)) || (decide (a0_2033.Tenant < 0))) || (decide (a0_2033.Tenant > 15)))) (b1 := true) (b0 := decide (a0_2033.Tenant > 15)) (fun hc14345 K => ?_) (fun hc14345 K => ?_) bj_or ?_
  · skip
    refine SafeOps.skip (congrArg (fun b => some (!b)) hc14345) rfl rfl ?_
    refine SafeOps.skip (congrArg (fun b => some (!b)) hc14345) rfl rfl ?_
    refine SafeOps.skip (congrArg (fun b => some (!b)) hc14345) rfl rfl ?_
    refine SafeOps.quiet0 E_good rfl rfl rfl (v := V.bool true) (.pickK rfl hc14345 rfl) ?_
    exact SafeOps.drop' 4 rfl rfl rfl K
  · skip
    refine SafeOps.quiet0 E_good (congrArg (fun b => some (!b)) hc14345) rfl rfl (v := V.ptr [1] 0 1) (.fn rfl) ?_
    refine SafeOps.quiet0 E_good (congrArg (fun b => some (!b)) hc14345) rfl rfl (v := V.int .i64 a0_2033.Tenant) (.load rfl rfl (.box rfl rfl) rfl) ?_
    refine SafeOps.quiet0 E_good (congrArg (fun b => some (!b)) hc14345) rfl rfl (v := V.bool (decide (a0_2033.Tenant > 15))) (.fn rfl) ?_
    refine SafeOps.quiet0 E_good rfl rfl rfl (v := V.bool (decide (a0_2033.Tenant > 15))) (.pickK rfl hc14345 rfl) ?_
    exact SafeOps.drop' 4 rfl rfl rfl K
  refine SafeOps.quiet0 E_good rfl rfl rfl (v := V.bool (((decide (a0_2033.Id < 0)) || (decide (a0_2033.Tenant < 0))) || (decide (a0_2033.Tenant > 15)))) (.fn rfl) ?_
  refine SafeOps.bjoin 4 22 (b := ((((decide (a0_2033.Id < 0)) || (decide (a0_2033.Tenant < 0))) || (decide (a0_2033.Tenant > 15))) || (decide (a0_2033.Prog < 0)))) (b1 := true) (b0 := decide (a0_2033.Prog < 0)) (fun hc14346 K => ?_) (fun hc14346 K => ?_) bj_or ?_
  · skip
    refine SafeOps.skip (congrArg (fun b => some (!b)) hc14346) rfl rfl ?_
    refine SafeOps.skip (congrArg (fun b => some (!b)) hc14346) rfl rfl ?_
    refine SafeOps.skip (congrArg (fun b => some (!b)) hc14346) rfl rfl ?_
    refine SafeOps.quiet0 E_good rfl rfl rfl (v := V.bool true) (.pickK rfl hc14346 rfl) ?_
    exact SafeOps.drop' 4 rfl rfl rfl K
  · skip
    refine SafeOps.quiet0 E_good (congrArg (fun b => some (!b)) hc14346) rfl rfl (v := V.ptr [1] 0 2) (.fn rfl) ?_
    refine SafeOps.quiet0 E_good (congrArg (fun b => some (!b)) hc14346) rfl rfl (v := V.int .i64 a0_2033.Prog) (.load rfl rfl (.box rfl rfl) rfl) ?_
    refine SafeOps.quiet0 E_good (congrArg (fun b => some (!b)) hc14346) rfl rfl (v := V.bool (decide (a0_2033.Prog < 0))) (.fn rfl) ?_
    refine SafeOps.quiet0 E_good rfl rfl rfl (v := V.bool (decide (a0_2033.Prog < 0))) (.pickK rfl hc14346 rfl) ?_
    exact SafeOps.drop' 4 rfl rfl rfl K
  refine SafeOps.quiet0 E_good rfl rfl rfl (v := V.bool ((((decide (a0_2033.Id < 0)) || (decide (a0_2033.Tenant < 0))) || (decide (a0_2033.Tenant > 15))) || (decide (a0_2033.Prog < 0)))) (.fn rfl) ?_
  refine SafeOps.bjoin 4 27 (b := (((((decide (a0_2033.Id < 0)) || (decide (a0_2033.Tenant < 0))) || (decide (a0_2033.Tenant > 15))) || (decide (a0_2033.Prog < 0))) || (decide (a0_2033.Prog > 15)))) (b1 := true) (b0 := decide (a0_2033.Prog > 15)) (fun hc14347 K => ?_) (fun hc14347 K => ?_) bj_or ?_
  · skip
    refine SafeOps.skip (congrArg (fun b => some (!b)) hc14347) rfl rfl ?_
    refine SafeOps.skip (congrArg (fun b => some (!b)) hc14347) rfl rfl ?_
    refine SafeOps.skip (congrArg (fun b => some (!b)) hc14347) rfl rfl ?_
    refine SafeOps.quiet0 E_good rfl rfl rfl (v := V.bool true) (.pickK rfl hc14347 rfl) ?_
    exact SafeOps.drop' 4 rfl rfl rfl K
  · skip
    refine SafeOps.quiet0 E_good (congrArg (fun b => some (!b)) hc14347) rfl rfl (v := V.ptr [1] 0 2) (.fn rfl) ?_
    refine SafeOps.quiet0 E_good (congrArg (fun b => some (!b)) hc14347) rfl rfl (v := V.int .i64 a0_2033.Prog) (.load rfl rfl (.box rfl rfl) rfl) ?_
    refine SafeOps.quiet0 E_good (congrArg (fun b => some (!b)) hc14347) rfl rfl (v := V.bool (decide (a0_2033.Prog > 15))) (.fn rfl) ?_
    refine SafeOps.quiet0 E_good rfl rfl rfl (v := V.bool (decide (a0_2033.Prog > 15))) (.pickK rfl hc14347 rfl) ?_
    exact SafeOps.drop' 4 rfl rfl rfl K
  refine SafeOps.quiet0 E_good rfl rfl rfl (v := V.bool (((((decide (a0_2033.Id < 0)) || (decide (a0_2033.Tenant < 0))) || (decide (a0_2033.Tenant > 15))) || (decide (a0_2033.Prog < 0))) || (decide (a0_2033.Prog > 15)))) (.fn rfl) ?_
  refine SafeOps.bjoin 4 32 (b := ((((((decide (a0_2033.Id < 0)) || (decide (a0_2033.Tenant < 0))) || (decide (a0_2033.Tenant > 15))) || (decide (a0_2033.Prog < 0))) || (decide (a0_2033.Prog > 15))) || (decide (a0_2033.Pc < 0)))) (b1 := true) (b0 := decide (a0_2033.Pc < 0)) (fun hc14348 K => ?_) (fun hc14348 K => ?_) bj_or ?_
  · skip
    refine SafeOps.skip (congrArg (fun b => some (!b)) hc14348) rfl rfl ?_
    refine SafeOps.skip (congrArg (fun b => some (!b)) hc14348) rfl rfl ?_
    refine SafeOps.skip (congrArg (fun b => some (!b)) hc14348) rfl rfl ?_
    refine SafeOps.quiet0 E_good rfl rfl rfl (v := V.bool true) (.pickK rfl hc14348 rfl) ?_
    exact SafeOps.drop' 4 rfl rfl rfl K
  · skip
    refine SafeOps.quiet0 E_good (congrArg (fun b => some (!b)) hc14348) rfl rfl (v := V.ptr [1] 0 3) (.fn rfl) ?_
    refine SafeOps.quiet0 E_good (congrArg (fun b => some (!b)) hc14348) rfl rfl (v := V.int .i64 a0_2033.Pc) (.load rfl rfl (.box rfl rfl) rfl) ?_
    refine SafeOps.quiet0 E_good (congrArg (fun b => some (!b)) hc14348) rfl rfl (v := V.bool (decide (a0_2033.Pc < 0))) (.fn rfl) ?_
    refine SafeOps.quiet0 E_good rfl rfl rfl (v := V.bool (decide (a0_2033.Pc < 0))) (.pickK rfl hc14348 rfl) ?_
    exact SafeOps.drop' 4 rfl rfl rfl K
  refine SafeOps.quiet0 E_good rfl rfl rfl (v := V.bool ((((((decide (a0_2033.Id < 0)) || (decide (a0_2033.Tenant < 0))) || (decide (a0_2033.Tenant > 15))) || (decide (a0_2033.Prog < 0))) || (decide (a0_2033.Prog > 15))) || (decide (a0_2033.Pc < 0)))) (.fn rfl) ?_
  refine SafeOps.bjoin 4 37 (b := (((((((decide (a0_2033.Id < 0)) || (decide (a0_2033.Tenant < 0))) || (decide (a0_2033.Tenant > 15))) || (decide (a0_2033.Prog < 0))) || (decide (a0_2033.Prog > 15))) || (decide (a0_2033.Pc < 0))) || (decide (a0_2033.Pc > 32)))) (b1 := true) (b0 := decide (a0_2033.Pc > 32)) (fun hc14349 K => ?_) (fun hc14349 K => ?_) bj_or ?_
  · skip
    refine SafeOps.skip (congrArg (fun b => some (!b)) hc14349) rfl rfl ?_
    refine SafeOps.skip (congrArg (fun b => some (!b)) hc14349) rfl rfl ?_
    refine SafeOps.skip (congrArg (fun b => some (!b)) hc14349) rfl rfl ?_
    refine SafeOps.quiet0 E_good rfl rfl rfl (v := V.bool true) (.pickK rfl hc14349 rfl) ?_
    exact SafeOps.drop' 4 rfl rfl rfl K
  · skip
    refine SafeOps.quiet0 E_good (congrArg (fun b => some (!b)) hc14349) rfl rfl (v := V.ptr [1] 0 3) (.fn rfl) ?_
    refine SafeOps.quiet0 E_good (congrArg (fun b => some (!b)) hc14349) rfl rfl (v := V.int .i64 a0_2033.Pc) (.load rfl rfl (.box rfl rfl) rfl) ?_
    refine SafeOps.quiet0 E_good (congrArg (fun b => some (!b)) hc14349) rfl rfl (v := V.bool (decide (a0_2033.Pc > 32))) (.fn rfl) ?_
    refine SafeOps.quiet0 E_good rfl rfl rfl (v := V.bool (decide (a0_2033.Pc > 32))) (.pickK rfl hc14349 rfl) ?_
    exact SafeOps.drop' 4 rfl rfl rfl K
  refine SafeOps.quiet0 E_good rfl rfl rfl (v := V.bool (((((((decide (a0_2033.Id < 0)) || (decide (a0_2033.Tenant < 0))) || (decide (a0_2033.Tenant > 15))) || (decide (a0_2033.Prog < 0))) || (decide (a0_2033.Prog > 15))) || (decide (a0_2033.Pc < 0))) || (decide (a0_2033.Pc > 32)))) (.fn rfl) ?_
  refine SafeOps.bjoin 4 42 (b := ((((((((decide (a0_2033.Id < 0)) || (decide (a0_2033.Tenant < 0))) || (decide (a0_2033.Tenant > 15))) || (decide (a0_2033.Prog < 0))) || (decide (a0_2033.Prog > 15))) || (decide (a0_2033.Pc < 0))) || (decide (a0_2033.Pc > 32))) || (decide (a0_2033.Unit < 0)))) (b1 := true) (b0 := decide (a0_2033.Unit < 0)) (fun hc14350 K => ?_) (fun hc14350 K => ?_) bj_or ?_
  · skip
    refine SafeOps.skip (congrArg (fun b => some (!b)) hc14350) rfl rfl ?_
    refine SafeOps.skip (congrArg (fun b => some (!b)) hc14350) rfl rfl ?_
    refine SafeOps.skip (congrArg (fun b => some (!b)) hc14350) rfl rfl ?_
    refine SafeOps.quiet0 E_good rfl rfl rfl (v := V.bool true) (.pickK rfl hc14350 rfl) ?_
    exact SafeOps.drop' 4 rfl rfl rfl K
  · skip
    refine SafeOps.quiet0 E_good (congrArg (fun b => some (!b)) hc14350) rfl rfl (v := V.ptr [1] 0 4) (.fn rfl) ?_
    refine SafeOps.quiet0 E_good (congrArg (fun b => some (!b)) hc14350) rfl rfl (v := V.int .i64 a0_2033.Unit) (.load rfl rfl (.box rfl rfl) rfl) ?_
    refine SafeOps.quiet0 E_good (congrArg (fun b => some (!b)) hc14350) rfl rfl (v := V.bool (decide (a0_2033.Unit < 0))) (.fn rfl) ?_
    refine SafeOps.quiet0 E_good rfl rfl rfl (v := V.bool (decide (a0_2033.Unit < 0))) (.pickK rfl hc14350 rfl) ?_
    exact SafeOps.drop' 4 rfl rfl rfl K
  refine SafeOps.quiet0 E_good rfl rfl rfl (v := V.bool ((((((((decide (a0_2033.Id < 0)) || (decide (a0_2033.Tenant < 0))) || (decide (a0_2033.Tenant > 15))) || (decide (a0_2033.Prog < 0))) || (decide (a0_2033.Prog > 15))) || (decide (a0_2033.Pc < 0))) || (decide (a0_2033.Pc > 32))) || (decide (a0_2033.Unit < 0)))) (.fn rfl) ?_
  refine SafeOps.bjoin 4 47 (b := (((((((((decide (a0_2033.Id < 0)) || (decide (a0_2033.Tenant < 0))) || (decide (a0_2033.Tenant > 15))) || (decide (a0_2033.Prog < 0))) || (decide (a0_2033.Prog > 15))) || (decide (a0_2033.Pc < 0))) || (decide (a0_2033.Pc > 32))) || (decide (a0_2033.Unit < 0))) || (decide (a0_2033.Unit > 99)))) (b1 := true) (b0 := decide (a0_2033.Unit > 99)) (fun hc14351 K => ?_) (fun hc14351 K => ?_) bj_or ?_
  · skip
    refine SafeOps.skip (congrArg (fun b => some (!b)) hc14351) rfl rfl ?_
    refine SafeOps.skip (congrArg (fun b => some (!b)) hc14351) rfl rfl ?_
    refine SafeOps.skip (congrArg (fun b => some (!b)) hc14351) rfl rfl ?_
    refine SafeOps.quiet0 E_good rfl rfl rfl (v := V.bool true) (.pickK rfl hc14351 rfl) ?_
    exact SafeOps.drop' 4 rfl rfl rfl K
  · skip
    refine SafeOps.quiet0 E_good (congrArg (fun b => some (!b)) hc14351) rfl rfl (v := V.ptr [1] 0 4) (.fn rfl) ?_
    refine SafeOps.quiet0 E_good (congrArg (fun b => some (!b)) hc14351) rfl rfl (v := V.int .i64 a0_2033.Unit) (.load rfl rfl (.box rfl rfl) rfl) ?_
    refine SafeOps.quiet0 E_good (congrArg (fun b => some (!b)) hc14351) rfl rfl (v := V.bool (decide (a0_2033.Unit > 99))) (.fn rfl) ?_
    refine SafeOps.quiet0 E_good rfl rfl rfl (v := V.bool (decide (a0_2033.Unit > 99))) (.pickK rfl hc14351 rfl) ?_
    exact SafeOps.drop' 4 rfl rfl rfl K
  refine SafeOps.quiet0 E_good rfl rfl rfl (v := V.bool (((((((((decide (a0_2033.Id < 0)) || (decide (a0_2033.Tenant < 0))) || (decide (a0_2033.Tenant > 15))) || (decide (a0_2033.Prog < 0))) || (decide (a0_2033.Prog > 15))) || (decide (a0_2033.Pc < 0))) || (decide (a0_2033.Pc > 32))) || (decide (a0_2033.Unit < 0))) || (decide (a0_2033.Unit > 99)))) (.fn rfl) ?_
  refine SafeOps.bjoin 5 53 (b := ((((((((((decide (a0_2033.Id < 0)) || (decide (a0_2033.Tenant < 0))) || (decide (a0_2033.Tenant > 15))) || (decide (a0_2033.Prog < 0))) || (decide (a0_2033.Prog > 15))) || (decide (a0_2033.Pc < 0))) || (decide (a0_2033.Pc > 32))) || (decide (a0_2033.Unit < 0))) || (decide (a0_2033.Unit > 99))) || (!(go_ravelref12_state a0_2033.State)))) (b1 := true) (b0 := (!(go_ravelref12_state a0_2033.State))) (fun hc14352 K => ?_) (fun hc14352 K => ?_) bj_or ?_
  · skip
    refine SafeOps.skip (congrArg (fun b => some (!b)) hc14352) rfl rfl ?_
    refine SafeOps.skip (congrArg (fun b => some (!b)) hc14352) rfl rfl ?_
    refine SafeOps.skip (congrArg (fun b => some (!b)) hc14352) rfl rfl ?_
    refine SafeOps.skip (congrArg (fun b => some (!b)) hc14352) rfl rfl ?_
    refine SafeOps.quiet0 E_good rfl rfl rfl (v := V.bool true) (.pickK rfl hc14352 rfl) ?_
    exact SafeOps.drop' 5 rfl rfl rfl K
  · skip
    refine SafeOps.quiet0 E_good (congrArg (fun b => some (!b)) hc14352) rfl rfl (v := V.ptr [1] 0 9) (.fn rfl) ?_
    refine SafeOps.quiet0 E_good (congrArg (fun b => some (!b)) hc14352) rfl rfl (v := V.int .i64 a0_2033.State) (.load rfl rfl (.box rfl rfl) rfl) ?_
    refine SafeOps.quiet0 E_good (congrArg (fun b => some (!b)) hc14352) rfl rfl (v := V.bool (go_ravelref12_state a0_2033.State)) (.callP rfl rfl (go_ravelref12_state_sc a0_2033.State _ rfl) rfl) ?_
    refine SafeOps.quiet0 E_good (congrArg (fun b => some (!b)) hc14352) rfl rfl (v := V.bool (!(go_ravelref12_state a0_2033.State))) (.fn rfl) ?_
    refine SafeOps.quiet0 E_good rfl rfl rfl (v := V.bool (!(go_ravelref12_state a0_2033.State))) (.pickK rfl hc14352 rfl) ?_
    exact SafeOps.drop' 5 rfl rfl rfl K
  refine SafeOps.quiet0 E_good rfl rfl rfl (v := V.bool ((((((((((decide (a0_2033.Id < 0)) || (decide (a0_2033.Tenant < 0))) || (decide (a0_2033.Tenant > 15))) || (decide (a0_2033.Prog < 0))) || (decide (a0_2033.Prog > 15))) || (decide (a0_2033.Pc < 0))) || (decide (a0_2033.Pc > 32))) || (decide (a0_2033.Unit < 0))) || (decide (a0_2033.Unit > 99))) || (!(go_ravelref12_state a0_2033.State)))) (.fn rfl) ?_
  refine SafeOps.bjoin 4 58 (b := (((((((((((decide (a0_2033.Id < 0)) || (decide (a0_2033.Tenant < 0))) || (decide (a0_2033.Tenant > 15))) || (decide (a0_2033.Prog < 0))) || (decide (a0_2033.Prog > 15))) || (decide (a0_2033.Pc < 0))) || (decide (a0_2033.Pc > 32))) || (decide (a0_2033.Unit < 0))) || (decide (a0_2033.Unit > 99))) || (!(go_ravelref12_state a0_2033.State))) || (decide (a0_2033.Ran < 0)))) (b1 := true) (b0 := decide (a0_2033.Ran < 0)) (fun hc14353 K => ?_) (fun hc14353 K => ?_) bj_or ?_
  · skip
    refine SafeOps.skip (congrArg (fun b => some (!b)) hc14353) rfl rfl ?_
    refine SafeOps.skip (congrArg (fun b => some (!b)) hc14353) rfl rfl ?_
    refine SafeOps.skip (congrArg (fun b => some (!b)) hc14353) rfl rfl ?_
    refine SafeOps.quiet0 E_good rfl rfl rfl (v := V.bool true) (.pickK rfl hc14353 rfl) ?_
    exact SafeOps.drop' 4 rfl rfl rfl K
  · skip
    refine SafeOps.quiet0 E_good (congrArg (fun b => some (!b)) hc14353) rfl rfl (v := V.ptr [1] 0 10) (.fn rfl) ?_
    refine SafeOps.quiet0 E_good (congrArg (fun b => some (!b)) hc14353) rfl rfl (v := V.int .i64 a0_2033.Ran) (.load rfl rfl (.box rfl rfl) rfl) ?_
    refine SafeOps.quiet0 E_good (congrArg (fun b => some (!b)) hc14353) rfl rfl (v := V.bool (decide (a0_2033.Ran < 0))) (.fn rfl) ?_
    refine SafeOps.quiet0 E_good rfl rfl rfl (v := V.bool (decide (a0_2033.Ran < 0))) (.pickK rfl hc14353 rfl) ?_
    exact SafeOps.drop' 4 rfl rfl rfl K
  refine SafeOps.quiet0 E_good rfl rfl rfl (v := V.bool (((((((((((decide (a0_2033.Id < 0)) || (decide (a0_2033.Tenant < 0))) || (decide (a0_2033.Tenant > 15))) || (decide (a0_2033.Prog < 0))) || (decide (a0_2033.Prog > 15))) || (decide (a0_2033.Pc < 0))) || (decide (a0_2033.Pc > 32))) || (decide (a0_2033.Unit < 0))) || (decide (a0_2033.Unit > 99))) || (!(go_ravelref12_state a0_2033.State))) || (decide (a0_2033.Ran < 0)))) (.fn rfl) ?_
  refine SafeOps.bjoin 4 63 (b := ((((((((((((decide (a0_2033.Id < 0)) || (decide (a0_2033.Tenant < 0))) || (decide (a0_2033.Tenant > 15))) || (decide (a0_2033.Prog < 0))) || (decide (a0_2033.Prog > 15))) || (decide (a0_2033.Pc < 0))) || (decide (a0_2033.Pc > 32))) || (decide (a0_2033.Unit < 0))) || (decide (a0_2033.Unit > 99))) || (!(go_ravelref12_state a0_2033.State))) || (decide (a0_2033.Ran < 0))) || (decide (a0_2033.Ran > 1099511627776)))) (b1 := true) (b0 := decide (a0_2033.Ran > 1099511627776)) (fun hc14354 K => ?_) (fun hc14354 K => ?_) bj_or ?_
  · skip
    refine SafeOps.skip (congrArg (fun b => some (!b)) hc14354) rfl rfl ?_
    refine SafeOps.skip (congrArg (fun b => some (!b)) hc14354) rfl rfl ?_
    refine SafeOps.skip (congrArg (fun b => some (!b)) hc14354) rfl rfl ?_
    refine SafeOps.quiet0 E_good rfl rfl rfl (v := V.bool true) (.pickK rfl hc14354 rfl) ?_
    exact SafeOps.drop' 4 rfl rfl rfl K
  · skip
    refine SafeOps.quiet0 E_good (congrArg (fun b => some (!b)) hc14354) rfl rfl (v := V.ptr [1] 0 10) (.fn rfl) ?_
    refine SafeOps.quiet0 E_good (congrArg (fun b => some (!b)) hc14354) rfl rfl (v := V.int .i64 a0_2033.Ran) (.load rfl rfl (.box rfl rfl) rfl) ?_
    refine SafeOps.quiet0 E_good (congrArg (fun b => some (!b)) hc14354) rfl rfl (v := V.bool (decide (a0_2033.Ran > 1099511627776))) (.fn rfl) ?_
    refine SafeOps.quiet0 E_good rfl rfl rfl (v := V.bool (decide (a0_2033.Ran > 1099511627776))) (.pickK rfl hc14354 rfl) ?_
    exact SafeOps.drop' 4 rfl rfl rfl K
  refine SafeOps.nil ?_
  repeat (first | refine Safe.seq ?_ | refine Safe.skip ?_ | with_reducible refine thenQ.n ?_ | with_reducible refine blockQ.n ?_)
  refine ifG h (fun hc14355 h => ?_) (fun hc14355 h => ?_)
  · skip
    refine Safe.condK rfl hc14355 ?_
    repeat (first | refine Safe.seq ?_ | refine Safe.skip ?_ | with_reducible refine thenQ.n ?_ | with_reducible refine blockQ.n ?_)
    refine Safe.region ?_
    refine SafeOps.quiet0 E_good rfl rfl rfl (v := V.int .i64 1) (.fn rfl) ?_
    refine SafeOps.nil ?_
    repeat (first | refine Safe.seq ?_ | refine Safe.skip ?_ | with_reducible refine thenQ.n ?_ | with_reducible refine blockQ.n ?_)
    refine Safe.ret ?_
    repeat (first | with_reducible refine thenQ.r ?_ | with_reducible refine blockQ.r ?_)
    obtain rfl := Option.some.inj h
    exact retQ.gen (vs := [V.int .i64 1]) rfl (.tmp (v := V.int .i64 1) rfl .nil) (.free rfl) (by simp) (.inr rfl)
  · skip
    refine Safe.condN rfl hc14355 ?_
    repeat (first | refine Safe.seq ?_ | refine Safe.skip ?_ | with_reducible refine thenQ.n ?_ | with_reducible refine blockQ.n ?_)
    refine Safe.region ?_
    refine SafeOps.quiet0 E_good rfl rfl rfl (v := V.ptr [1] 0 5) (.fn rfl) ?_
    refine SafeOps.quiet0 E_good rfl rfl rfl (v := V.agg [V.int .i64 a0_2033.Keeps.a0, V.int .i64 a0_2033.Keeps.a1, V.int .i64 a0_2033.Keeps.a2, V.int .i64 a0_2033.Keeps.a3]) (.load rfl rfl (.box rfl rfl) rfl) ?_
    refine SafeOps.quiet0 E_good rfl rfl rfl (v := V.int .i64 0) (.fn rfl) ?_
    refine SafeOps.nil ?_
    repeat (first | refine Safe.seq ?_ | refine Safe.skip ?_ | with_reducible refine thenQ.n ?_ | with_reducible refine blockQ.n ?_)
    refine Safe.block ?_
    repeat (first | refine Safe.seq ?_ | refine Safe.skip ?_ | with_reducible refine thenQ.n ?_ | with_reducible refine blockQ.n ?_)
    refine Safe.loopW (fun (v66_14361 : Int) => ⟨Tryd.f36.ntmps, [(65, V.agg [V.int .i64 a0_2033.Keeps.a0, V.int .i64 a0_2033.Keeps.a1, V.int .i64 a0_2033.Keeps.a2, V.int .i64 a0_2033.Keeps.a3]), (66, V.int .i64 v66_14361)], [], [], []⟩) h (.cov ⟨rfl, rfl, (upT_cons (.refl _) (upT_cons (.refl _) upT_nil)), upOb_nil, upOut_nil, rfl⟩) ?_
    intro v66_14361 ohr14362 h hr14362
    replace h : go_ravelref12_Check_s1 a0_2033 v66_14361 = some ohr14362 := h
    rw [go_ravelref12_Check_s1] at h
    repeat (first | refine Safe.seq ?_ | refine Safe.skip ?_ | with_reducible refine thenQ.n ?_ | with_reducible refine blockQ.n ?_)
    refine Safe.region ?_
    refine SafeOps.quiet0 E_good rfl rfl rfl (v := V.bool (decide (v66_14361 < 4))) (.fn rfl) ?_
    refine SafeOps.nil ?_
    repeat (first | refine Safe.seq ?_ | refine Safe.skip ?_ | with_reducible refine thenQ.n ?_ | with_reducible refine blockQ.n ?_)
    refine ifG h (fun hc14363 h => ?_) (fun hc14363 h => ?_)
    · skip
      refine Safe.condK rfl hc14363 ?_
      repeat (first | refine Safe.seq ?_ | refine Safe.skip ?_ | with_reducible refine thenQ.n ?_ | with_reducible refine blockQ.n ?_)
      refine Safe.block ?_
      repeat (first | refine Safe.seq ?_ | refine Safe.skip ?_ | with_reducible refine thenQ.n ?_ | with_reducible refine blockQ.n ?_)
      refine Safe.region ?_
      refine okG h (fun hb14364 h => ?_)
      refine SafeOps.quiet0 E_good rfl rfl rfl (v := V.int .i64 (if v66_14361 = 0 then a0_2033.Keeps.a0 else (if v66_14361 = 1 then a0_2033.Keeps.a1 else (if v66_14361 = 2 then a0_2033.Keeps.a2 else a0_2033.Keeps.a3)))) (.idxVM (us := [V.int .i64 (if v66_14361 = 0 then a0_2033.Keeps.a0 else (if v66_14361 = 1 then a0_2033.Keeps.a1 else (if v66_14361 = 2 then a0_2033.Keeps.a2 else a0_2033.Keeps.a3)))]) rfl rfl rfl rfl rfl 4 rfl hb14364 (by have hq : v66_14361 = 0 ∨ v66_14361 = 1 ∨ v66_14361 = 2 ∨ v66_14361 = 3 := (by omega); rcases hq with hq | hq | hq | hq <;> simp only [hq] <;> rfl) rfl) ?_
      refine SafeOps.quiet0 E_good rfl rfl rfl (v := V.int .i64 (if v66_14361 = 0 then a0_2033.Keeps.a0 else (if v66_14361 = 1 then a0_2033.Keeps.a1 else (if v66_14361 = 2 then a0_2033.Keeps.a2 else a0_2033.Keeps.a3)))) (.fn rfl) ?_
      refine SafeOps.nil ?_
      repeat (first | refine Safe.seq ?_ | refine Safe.skip ?_ | with_reducible refine thenQ.n ?_ | with_reducible refine blockQ.n ?_)
      refine Safe.region ?_
      refine SafeOps.quiet0 E_good rfl rfl rfl (v := V.int .i64 (if v66_14361 = 0 then a0_2033.Keeps.a0 else (if v66_14361 = 1 then a0_2033.Keeps.a1 else (if v66_14361 = 2 then a0_2033.Keeps.a2 else a0_2033.Keeps.a3)))) (.fn rfl) ?_
      refine SafeOps.quiet0 E_good rfl rfl rfl (v := V.bool (decide ((if v66_14361 = 0 then a0_2033.Keeps.a0 else (if v66_14361 = 1 then a0_2033.Keeps.a1 else (if v66_14361 = 2 then a0_2033.Keeps.a2 else a0_2033.Keeps.a3))) < (-1)))) (.fn rfl) ?_
      refine SafeOps.nil ?_
      repeat (first | refine Safe.seq ?_ | refine Safe.skip ?_ | with_reducible refine thenQ.n ?_ | with_reducible refine blockQ.n ?_)
      refine ifG h (fun hc14365 h => ?_) (fun hc14365 h => ?_)
      · skip
        refine Safe.condK rfl hc14365 ?_
        repeat (first | refine Safe.seq ?_ | refine Safe.skip ?_ | with_reducible refine thenQ.n ?_ | with_reducible refine blockQ.n ?_)
        refine Safe.region ?_
        refine SafeOps.quiet0 E_good rfl rfl rfl (v := V.int .i64 1) (.fn rfl) ?_
        refine SafeOps.nil ?_
        repeat (first | refine Safe.seq ?_ | refine Safe.skip ?_ | with_reducible refine thenQ.n ?_ | with_reducible refine blockQ.n ?_)
        refine Safe.ret ?_
        repeat (first | with_reducible refine thenQ.r ?_ | with_reducible refine blockQ.r ?_)
        replace h := inr_out h hr14362
        obtain rfl := Option.some.inj h
        exact retQ.gen (vs := [V.int .i64 1]) rfl (.tmp (v := V.int .i64 1) rfl .nil) (.free rfl) (by simp) (.inr rfl)
      · skip
        refine Safe.condN rfl hc14365 ?_
        repeat (first | refine Safe.seq ?_ | refine Safe.skip ?_ | with_reducible refine thenQ.n ?_ | with_reducible refine blockQ.n ?_)
        refine Safe.region ?_
        refine SafeOps.quiet0 E_good rfl rfl rfl (v := V.int .i64 (IntKind.i64.wrap (v66_14361 + 1))) (.fn rfl) ?_
        refine SafeOps.quiet0 E_good rfl rfl rfl (v := V.int .i64 (IntKind.i64.wrap (v66_14361 + 1))) (.fn rfl) ?_
        refine SafeOps.nil ?_
        repeat (first | refine Safe.seq ?_ | refine Safe.skip ?_ | with_reducible refine thenQ.n ?_ | with_reducible refine blockQ.n ?_)
        exact ⟨_, next_out h, (.cov ⟨rfl, rfl, (upT_cons (.refl _) (upT_cons (.refl _) upT_nil)), upOb_nil, upOut_nil, rfl⟩)⟩
    · skip
      refine Safe.condN rfl hc14363 ?_
      repeat (first | refine Safe.seq ?_ | refine Safe.skip ?_ | with_reducible refine thenQ.n ?_ | with_reducible refine blockQ.n ?_)
      refine Safe.exit ?_
      repeat (first | with_reducible refine thenQ.e ?_ | with_reducible refine blockQ.x rfl ?_ | with_reducible refine blockQ.y rfl ?_)
      replace h := inr_out h hr14362
      repeat (first | refine Safe.seq ?_ | refine Safe.skip ?_ | with_reducible refine thenQ.n ?_ | with_reducible refine blockQ.n ?_)
      refine Safe.region ?_
      refine SafeOps.quiet0 E_good rfl rfl rfl (v := V.int .i64 0) (.fn rfl) ?_
      refine SafeOps.nil ?_
      repeat (first | refine Safe.seq ?_ | refine Safe.skip ?_ | with_reducible refine thenQ.n ?_ | with_reducible refine blockQ.n ?_)
      refine Safe.ret ?_
      repeat (first | with_reducible refine thenQ.r ?_ | with_reducible refine blockQ.r ?_)
      obtain rfl := Option.some.inj h
      exact retQ.gen (vs := [V.int .i64 0]) rfl (.tmp (v := V.int .i64 0) rfl .nil) (.free rfl) (by simp) (.inr rfl)

def go_ravelref04_in (a0_14380 : Int) (a1_14381 : Int) (a2_14382 : Int) : Bool :=
  ((decide (a0_14380 ≥ a1_14381)) && (decide (a0_14380 ≤ a2_14382)))

theorem go_ravelref04_in_sc (a0_14380 : Int) (a1_14381 : Int) (a2_14382 : Int) (r : Bool) (h : go_ravelref04_in a0_14380 a1_14381 a2_14382 = r) : SC Tryd.prog gl 41 [V.int .i64 a0_14380, V.int .i64 a1_14381, V.int .i64 a2_14382] (V.bool r) := by
  rw [go_ravelref04_in] at h
  refine SC.of E_good Tryd.func41 rfl (fun _ _ => Tryd.call41 _ _) rfl ?_
  repeat (first | refine Safe.seq ?_ | refine Safe.skip ?_ | with_reducible refine thenQ.n ?_ | with_reducible refine blockQ.n ?_)
  refine Safe.region ?_
  refine SafeOps.quiet0 E_good rfl rfl rfl (v := V.bool false) (.fn rfl) ?_
  refine SafeOps.nil ?_
  repeat (first | refine Safe.seq ?_ | refine Safe.skip ?_ | with_reducible refine thenQ.n ?_ | with_reducible refine blockQ.n ?_)
  refine Safe.region ?_
  refine SafeOps.quiet0 E_good rfl rfl rfl (v := V.int .i64 a0_14380) (.fn rfl) ?_
  refine SafeOps.quiet0 E_good rfl rfl rfl (v := V.int .i64 a1_14381) (.fn rfl) ?_
  refine SafeOps.quiet0 E_good rfl rfl rfl (v := V.bool (decide (a0_14380 ≥ a1_14381))) (.fn rfl) ?_
  refine SafeOps.quiet0 E_good rfl rfl rfl (v := V.bool (decide (a0_14380 ≥ a1_14381))) (.fn rfl) ?_
  refine SafeOps.bjoin 4 14 (b := ((decide (a0_14380 ≥ a1_14381)) && (decide (a0_14380 ≤ a2_14382)))) (b1 := decide (a0_14380 ≤ a2_14382)) (b0 := false) (fun hc14384 K => ?_) (fun hc14384 K => ?_) bj_and ?_
  · skip
    refine SafeOps.quiet0 E_good (congrArg some hc14384) rfl rfl (v := V.int .i64 a0_14380) (.fn rfl) ?_
    refine SafeOps.quiet0 E_good (congrArg some hc14384) rfl rfl (v := V.int .i64 a2_14382) (.fn rfl) ?_
    refine SafeOps.quiet0 E_good (congrArg some hc14384) rfl rfl (v := V.bool (decide (a0_14380 ≤ a2_14382))) (.fn rfl) ?_
    refine SafeOps.quiet0 E_good rfl rfl rfl (v := V.bool (decide (a0_14380 ≤ a2_14382))) (.pickK rfl hc14384 rfl) ?_
    exact SafeOps.drop' 4 rfl rfl rfl K
  · skip
    refine SafeOps.skip (congrArg some hc14384) rfl rfl ?_
    refine SafeOps.skip (congrArg some hc14384) rfl rfl ?_
    refine SafeOps.skip (congrArg some hc14384) rfl rfl ?_
    refine SafeOps.quiet0 E_good rfl rfl rfl (v := V.bool false) (.pickK rfl hc14384 rfl) ?_
    exact SafeOps.drop' 4 rfl rfl rfl K
  refine SafeOps.quiet0 E_good rfl rfl rfl (v := V.bool ((decide (a0_14380 ≥ a1_14381)) && (decide (a0_14380 ≤ a2_14382)))) (.fn rfl) ?_
  refine SafeOps.nil ?_
  repeat (first | refine Safe.seq ?_ | refine Safe.skip ?_ | with_reducible refine thenQ.n ?_ | with_reducible refine blockQ.n ?_)
  refine Safe.ret ?_
  repeat (first | with_reducible refine thenQ.r ?_ | with_reducible refine blockQ.r ?_)
  obtain rfl := h
  exact retQ.gen (vs := [V.bool ((decide (a0_14380 ≥ a1_14381)) && (decide (a0_14380 ≤ a2_14382)))]) rfl (.tmp (v := V.bool ((decide (a0_14380 ≥ a1_14381)) && (decide (a0_14380 ≤ a2_14382)))) rfl .nil) (.free rfl) (by simp) (.inr rfl)

def go_ravelref04_may (a0_14379 : api_Instr) : Bool :=
  if (a0_14379.Op == 1) = true then
    ((go_ravelref04_in a0_14379.A 1 100) && (a0_14379.B == 0))
  else
    if (a0_14379.Op == 2) = true then
      ((go_ravelref04_in a0_14379.A 0 15) && (go_ravelref04_in a0_14379.B 0 3))
    else
      if ((a0_14379.Op == 3) || (a0_14379.Op == 9)) = true then
        ((a0_14379.A == 0) && (a0_14379.B == 0))
      else
        if (a0_14379.Op == 4) = true then
          ((go_ravelref04_in a0_14379.A 1 1000) && (a0_14379.B == 0))
        else
          if (a0_14379.Op == 5) = true then
            ((go_ravelref04_in a0_14379.A 0 15) && (a0_14379.B == 0))
          else
            if (a0_14379.Op == 6) = true then
              ((go_ravelref04_in a0_14379.A 0 3) && (a0_14379.B == 0))
            else
              ((((a0_14379.Op == 7) || (a0_14379.Op == 8)) && (go_ravelref04_in a0_14379.A 0 7)) && (a0_14379.B == 0))

theorem go_ravelref04_may_sc (a0_14379 : api_Instr) (r : Bool) (h : go_ravelref04_may a0_14379 = r) : SC Tryd.prog gl 40 [V.agg [V.int .i64 a0_14379.Op, V.int .i64 a0_14379.A, V.int .i64 a0_14379.B]] (V.bool r) := by
  rw [go_ravelref04_may] at h
  refine SC.of E_good Tryd.func40 rfl (fun _ _ => Tryd.call40 _ _) rfl ?_
  repeat (first | refine Safe.seq ?_ | refine Safe.skip ?_ | with_reducible refine thenQ.n ?_ | with_reducible refine blockQ.n ?_)
  refine Safe.region ?_
  refine SafeOps.quiet1 E_good rfl rfl rfl (.box rfl rfl) rfl ?_
  refine SafeOps.quiet0 E_good rfl rfl rfl (v := V.bool false) (.fn rfl) ?_
  refine SafeOps.nil ?_
  repeat (first | refine Safe.seq ?_ | refine Safe.skip ?_ | with_reducible refine thenQ.n ?_ | with_reducible refine blockQ.n ?_)
  refine Safe.region ?_
  refine SafeOps.quiet0 E_good rfl rfl rfl (v := V.ptr [1] 0 0) (.fn rfl) ?_
  refine SafeOps.quiet0 E_good rfl rfl rfl (v := V.int .i64 a0_14379.Op) (.load rfl rfl (.box rfl rfl) rfl) ?_
  refine SafeOps.quiet0 E_good rfl rfl rfl (v := V.bool (a0_14379.Op == 1)) (.fn rfl) ?_
  refine SafeOps.nil ?_
  repeat (first | refine Safe.seq ?_ | refine Safe.skip ?_ | with_reducible refine thenQ.n ?_ | with_reducible refine blockQ.n ?_)
  refine ifG h (fun hc14408 h => ?_) (fun hc14408 h => ?_)
  · skip
    refine Safe.condK rfl hc14408 ?_
    repeat (first | refine Safe.seq ?_ | refine Safe.skip ?_ | with_reducible refine thenQ.n ?_ | with_reducible refine blockQ.n ?_)
    refine Safe.region ?_
    refine SafeOps.quiet0 E_good rfl rfl rfl (v := V.ptr [1] 0 1) (.fn rfl) ?_
    refine SafeOps.quiet0 E_good rfl rfl rfl (v := V.int .i64 a0_14379.A) (.load rfl rfl (.box rfl rfl) rfl) ?_
    refine SafeOps.quiet0 E_good rfl rfl rfl (v := V.bool (go_ravelref04_in a0_14379.A 1 100)) (.callP rfl rfl (go_ravelref04_in_sc a0_14379.A 1 100 _ rfl) rfl) ?_
    refine SafeOps.quiet0 E_good rfl rfl rfl (v := V.bool (go_ravelref04_in a0_14379.A 1 100)) (.fn rfl) ?_
    refine SafeOps.bjoin 4 13 (b := ((go_ravelref04_in a0_14379.A 1 100) && (a0_14379.B == 0))) (b1 := (a0_14379.B == 0)) (b0 := false) (fun hc14409 K => ?_) (fun hc14409 K => ?_) bj_and ?_
    · skip
      refine SafeOps.quiet0 E_good (congrArg some hc14409) rfl rfl (v := V.ptr [1] 0 2) (.fn rfl) ?_
      refine SafeOps.quiet0 E_good (congrArg some hc14409) rfl rfl (v := V.int .i64 a0_14379.B) (.load rfl rfl (.box rfl rfl) rfl) ?_
      refine SafeOps.quiet0 E_good (congrArg some hc14409) rfl rfl (v := V.bool (a0_14379.B == 0)) (.fn rfl) ?_
      refine SafeOps.quiet0 E_good rfl rfl rfl (v := V.bool (a0_14379.B == 0)) (.pickK rfl hc14409 rfl) ?_
      exact SafeOps.drop' 4 rfl rfl rfl K
    · skip
      refine SafeOps.skip (congrArg some hc14409) rfl rfl ?_
      refine SafeOps.skip (congrArg some hc14409) rfl rfl ?_
      refine SafeOps.skip (congrArg some hc14409) rfl rfl ?_
      refine SafeOps.quiet0 E_good rfl rfl rfl (v := V.bool false) (.pickK rfl hc14409 rfl) ?_
      exact SafeOps.drop' 4 rfl rfl rfl K
    refine SafeOps.quiet0 E_good rfl rfl rfl (v := V.bool ((go_ravelref04_in a0_14379.A 1 100) && (a0_14379.B == 0))) (.fn rfl) ?_
    refine SafeOps.nil ?_
    repeat (first | refine Safe.seq ?_ | refine Safe.skip ?_ | with_reducible refine thenQ.n ?_ | with_reducible refine blockQ.n ?_)
    refine Safe.ret ?_
    repeat (first | with_reducible refine thenQ.r ?_ | with_reducible refine blockQ.r ?_)
    obtain rfl := h
    exact retQ.gen (vs := [V.bool ((go_ravelref04_in a0_14379.A 1 100) && (a0_14379.B == 0))]) rfl (.tmp (v := V.bool ((go_ravelref04_in a0_14379.A 1 100) && (a0_14379.B == 0))) rfl .nil) (.free rfl) (by simp) (.inr rfl)
  · skip
    refine Safe.condN rfl hc14408 ?_
    repeat (first | refine Safe.seq ?_ | refine Safe.skip ?_ | with_reducible refine thenQ.n ?_ | with_reducible refine blockQ.n ?_)
    refine Safe.region ?_
    refine SafeOps.quiet0 E_good rfl rfl rfl (v := V.ptr [1] 0 0) (.fn rfl) ?_
    refine SafeOps.quiet0 E_good rfl rfl rfl (v := V.int .i64 a0_14379.Op) (.load rfl rfl (.box rfl rfl) rfl) ?_
    refine SafeOps.quiet0 E_good rfl rfl rfl (v := V.bool (a0_14379.Op == 2)) (.fn rfl) ?_
    refine SafeOps.nil ?_
    repeat (first | refine Safe.seq ?_ | refine Safe.skip ?_ | with_reducible refine thenQ.n ?_ | with_reducible refine blockQ.n ?_)
    refine ifG h (fun hc14411 h => ?_) (fun hc14411 h => ?_)
    · skip
      refine Safe.condK rfl hc14411 ?_
      repeat (first | refine Safe.seq ?_ | refine Safe.skip ?_ | with_reducible refine thenQ.n ?_ | with_reducible refine blockQ.n ?_)
      refine Safe.region ?_
      refine SafeOps.quiet0 E_good rfl rfl rfl (v := V.ptr [1] 0 1) (.fn rfl) ?_
      refine SafeOps.quiet0 E_good rfl rfl rfl (v := V.int .i64 a0_14379.A) (.load rfl rfl (.box rfl rfl) rfl) ?_
      refine SafeOps.quiet0 E_good rfl rfl rfl (v := V.bool (go_ravelref04_in a0_14379.A 0 15)) (.callP rfl rfl (go_ravelref04_in_sc a0_14379.A 0 15 _ rfl) rfl) ?_
      refine SafeOps.quiet0 E_good rfl rfl rfl (v := V.bool (go_ravelref04_in a0_14379.A 0 15)) (.fn rfl) ?_
      refine SafeOps.bjoin 4 24 (b := ((go_ravelref04_in a0_14379.A 0 15) && (go_ravelref04_in a0_14379.B 0 3))) (b1 := go_ravelref04_in a0_14379.B 0 3) (b0 := false) (fun hc14412 K => ?_) (fun hc14412 K => ?_) bj_and ?_
      · skip
        refine SafeOps.quiet0 E_good (congrArg some hc14412) rfl rfl (v := V.ptr [1] 0 2) (.fn rfl) ?_
        refine SafeOps.quiet0 E_good (congrArg some hc14412) rfl rfl (v := V.int .i64 a0_14379.B) (.load rfl rfl (.box rfl rfl) rfl) ?_
        refine SafeOps.quiet0 E_good (congrArg some hc14412) rfl rfl (v := V.bool (go_ravelref04_in a0_14379.B 0 3)) (.callP rfl rfl (go_ravelref04_in_sc a0_14379.B 0 3 _ rfl) rfl) ?_
        refine SafeOps.quiet0 E_good rfl rfl rfl (v := V.bool (go_ravelref04_in a0_14379.B 0 3)) (.pickK rfl hc14412 rfl) ?_
        exact SafeOps.drop' 4 rfl rfl rfl K
      · skip
        refine SafeOps.skip (congrArg some hc14412) rfl rfl ?_
        refine SafeOps.skip (congrArg some hc14412) rfl rfl ?_
        refine SafeOps.skip (congrArg some hc14412) rfl rfl ?_
        refine SafeOps.quiet0 E_good rfl rfl rfl (v := V.bool false) (.pickK rfl hc14412 rfl) ?_
        exact SafeOps.drop' 4 rfl rfl rfl K
      refine SafeOps.quiet0 E_good rfl rfl rfl (v := V.bool ((go_ravelref04_in a0_14379.A 0 15) && (go_ravelref04_in a0_14379.B 0 3))) (.fn rfl) ?_
      refine SafeOps.nil ?_
      repeat (first | refine Safe.seq ?_ | refine Safe.skip ?_ | with_reducible refine thenQ.n ?_ | with_reducible refine blockQ.n ?_)
      refine Safe.ret ?_
      repeat (first | with_reducible refine thenQ.r ?_ | with_reducible refine blockQ.r ?_)
      obtain rfl := h
      exact retQ.gen (vs := [V.bool ((go_ravelref04_in a0_14379.A 0 15) && (go_ravelref04_in a0_14379.B 0 3))]) rfl (.tmp (v := V.bool ((go_ravelref04_in a0_14379.A 0 15) && (go_ravelref04_in a0_14379.B 0 3))) rfl .nil) (.free rfl) (by simp) (.inr rfl)
    · skip
      refine Safe.condN rfl hc14411 ?_
      repeat (first | refine Safe.seq ?_ | refine Safe.skip ?_ | with_reducible refine thenQ.n ?_ | with_reducible refine blockQ.n ?_)
      refine Safe.region ?_
      refine SafeOps.quiet0 E_good rfl rfl rfl (v := V.ptr [1] 0 0) (.fn rfl) ?_
      refine SafeOps.quiet0 E_good rfl rfl rfl (v := V.int .i64 a0_14379.Op) (.load rfl rfl (.box rfl rfl) rfl) ?_
      refine SafeOps.quiet0 E_good rfl rfl rfl (v := V.bool (a0_14379.Op == 3)) (.fn rfl) ?_
      refine SafeOps.quiet0 E_good rfl rfl rfl (v := V.bool (a0_14379.Op == 3)) (.fn rfl) ?_
      refine SafeOps.bjoin 4 32 (b := ((a0_14379.Op == 3) || (a0_14379.Op == 9))) (b1 := true) (b0 := (a0_14379.Op == 9)) (fun hc14413 K => ?_) (fun hc14413 K => ?_) bj_or ?_
      · skip
        refine SafeOps.skip (congrArg (fun b => some (!b)) hc14413) rfl rfl ?_
        refine SafeOps.skip (congrArg (fun b => some (!b)) hc14413) rfl rfl ?_
        refine SafeOps.skip (congrArg (fun b => some (!b)) hc14413) rfl rfl ?_
        refine SafeOps.quiet0 E_good rfl rfl rfl (v := V.bool true) (.pickK rfl hc14413 rfl) ?_
        exact SafeOps.drop' 4 rfl rfl rfl K
      · skip
        refine SafeOps.quiet0 E_good (congrArg (fun b => some (!b)) hc14413) rfl rfl (v := V.ptr [1] 0 0) (.fn rfl) ?_
        refine SafeOps.quiet0 E_good (congrArg (fun b => some (!b)) hc14413) rfl rfl (v := V.int .i64 a0_14379.Op) (.load rfl rfl (.box rfl rfl) rfl) ?_
        refine SafeOps.quiet0 E_good (congrArg (fun b => some (!b)) hc14413) rfl rfl (v := V.bool (a0_14379.Op == 9)) (.fn rfl) ?_
        refine SafeOps.quiet0 E_good rfl rfl rfl (v := V.bool (a0_14379.Op == 9)) (.pickK rfl hc14413 rfl) ?_
        exact SafeOps.drop' 4 rfl rfl rfl K
      refine SafeOps.nil ?_
      repeat (first | refine Safe.seq ?_ | refine Safe.skip ?_ | with_reducible refine thenQ.n ?_ | with_reducible refine blockQ.n ?_)
      refine ifG h (fun hc14415 h => ?_) (fun hc14415 h => ?_)
      · skip
        refine Safe.condK rfl hc14415 ?_
        repeat (first | refine Safe.seq ?_ | refine Safe.skip ?_ | with_reducible refine thenQ.n ?_ | with_reducible refine blockQ.n ?_)
        refine Safe.region ?_
        refine SafeOps.quiet0 E_good rfl rfl rfl (v := V.ptr [1] 0 1) (.fn rfl) ?_
        refine SafeOps.quiet0 E_good rfl rfl rfl (v := V.int .i64 a0_14379.A) (.load rfl rfl (.box rfl rfl) rfl) ?_
        refine SafeOps.quiet0 E_good rfl rfl rfl (v := V.bool (a0_14379.A == 0)) (.fn rfl) ?_
        refine SafeOps.quiet0 E_good rfl rfl rfl (v := V.bool (a0_14379.A == 0)) (.fn rfl) ?_
        refine SafeOps.bjoin 4 40 (b := ((a0_14379.A == 0) && (a0_14379.B == 0))) (b1 := (a0_14379.B == 0)) (b0 := false) (fun hc14416 K => ?_) (fun hc14416 K => ?_) bj_and ?_
        · skip
          refine SafeOps.quiet0 E_good (congrArg some hc14416) rfl rfl (v := V.ptr [1] 0 2) (.fn rfl) ?_
          refine SafeOps.quiet0 E_good (congrArg some hc14416) rfl rfl (v := V.int .i64 a0_14379.B) (.load rfl rfl (.box rfl rfl) rfl) ?_
          refine SafeOps.quiet0 E_good (congrArg some hc14416) rfl rfl (v := V.bool (a0_14379.B == 0)) (.fn rfl) ?_
          refine SafeOps.quiet0 E_good rfl rfl rfl (v := V.bool (a0_14379.B == 0)) (.pickK rfl hc14416 rfl) ?_
          exact SafeOps.drop' 4 rfl rfl rfl K
        · skip
          refine SafeOps.skip (congrArg some hc14416) rfl rfl ?_
          refine SafeOps.skip (congrArg some hc14416) rfl rfl ?_
          refine SafeOps.skip (congrArg some hc14416) rfl rfl ?_
          refine SafeOps.quiet0 E_good rfl rfl rfl (v := V.bool false) (.pickK rfl hc14416 rfl) ?_
          exact SafeOps.drop' 4 rfl rfl rfl K
        refine SafeOps.quiet0 E_good rfl rfl rfl (v := V.bool ((a0_14379.A == 0) && (a0_14379.B == 0))) (.fn rfl) ?_
        refine SafeOps.nil ?_
        repeat (first | refine Safe.seq ?_ | refine Safe.skip ?_ | with_reducible refine thenQ.n ?_ | with_reducible refine blockQ.n ?_)
        refine Safe.ret ?_
        repeat (first | with_reducible refine thenQ.r ?_ | with_reducible refine blockQ.r ?_)
        obtain rfl := h
        exact retQ.gen (vs := [V.bool ((a0_14379.A == 0) && (a0_14379.B == 0))]) rfl (.tmp (v := V.bool ((a0_14379.A == 0) && (a0_14379.B == 0))) rfl .nil) (.free rfl) (by simp) (.inr rfl)
      · skip
        refine Safe.condN rfl hc14415 ?_
        repeat (first | refine Safe.seq ?_ | refine Safe.skip ?_ | with_reducible refine thenQ.n ?_ | with_reducible refine blockQ.n ?_)
        refine Safe.region ?_
        refine SafeOps.quiet0 E_good rfl rfl rfl (v := V.ptr [1] 0 0) (.fn rfl) ?_
        refine SafeOps.quiet0 E_good rfl rfl rfl (v := V.int .i64 a0_14379.Op) (.load rfl rfl (.box rfl rfl) rfl) ?_
        refine SafeOps.quiet0 E_good rfl rfl rfl (v := V.bool (a0_14379.Op == 4)) (.fn rfl) ?_
        refine SafeOps.nil ?_
        repeat (first | refine Safe.seq ?_ | refine Safe.skip ?_ | with_reducible refine thenQ.n ?_ | with_reducible refine blockQ.n ?_)
        refine ifG h (fun hc14418 h => ?_) (fun hc14418 h => ?_)
        · skip
          refine Safe.condK rfl hc14418 ?_
          repeat (first | refine Safe.seq ?_ | refine Safe.skip ?_ | with_reducible refine thenQ.n ?_ | with_reducible refine blockQ.n ?_)
          refine Safe.region ?_
          refine SafeOps.quiet0 E_good rfl rfl rfl (v := V.ptr [1] 0 1) (.fn rfl) ?_
          refine SafeOps.quiet0 E_good rfl rfl rfl (v := V.int .i64 a0_14379.A) (.load rfl rfl (.box rfl rfl) rfl) ?_
          refine SafeOps.quiet0 E_good rfl rfl rfl (v := V.bool (go_ravelref04_in a0_14379.A 1 1000)) (.callP rfl rfl (go_ravelref04_in_sc a0_14379.A 1 1000 _ rfl) rfl) ?_
          refine SafeOps.quiet0 E_good rfl rfl rfl (v := V.bool (go_ravelref04_in a0_14379.A 1 1000)) (.fn rfl) ?_
          refine SafeOps.bjoin 4 51 (b := ((go_ravelref04_in a0_14379.A 1 1000) && (a0_14379.B == 0))) (b1 := (a0_14379.B == 0)) (b0 := false) (fun hc14419 K => ?_) (fun hc14419 K => ?_) bj_and ?_
          · skip
            refine SafeOps.quiet0 E_good (congrArg some hc14419) rfl rfl (v := V.ptr [1] 0 2) (.fn rfl) ?_
            refine SafeOps.quiet0 E_good (congrArg some hc14419) rfl rfl (v := V.int .i64 a0_14379.B) (.load rfl rfl (.box rfl rfl) rfl) ?_
            refine SafeOps.quiet0 E_good (congrArg some hc14419) rfl rfl (v := V.bool (a0_14379.B == 0)) (.fn rfl) ?_
            refine SafeOps.quiet0 E_good rfl rfl rfl (v := V.bool (a0_14379.B == 0)) (.pickK rfl hc14419 rfl) ?_
            exact SafeOps.drop' 4 rfl rfl rfl K
          · skip
            refine SafeOps.skip (congrArg some hc14419) rfl rfl ?_
            refine SafeOps.skip (congrArg some hc14419) rfl rfl ?_
            refine SafeOps.skip (congrArg some hc14419) rfl rfl ?_
            refine SafeOps.quiet0 E_good rfl rfl rfl (v := V.bool false) (.pickK rfl hc14419 rfl) ?_
            exact SafeOps.drop' 4 rfl rfl rfl K
          refine SafeOps.quiet0 E_good rfl rfl rfl (v := V.bool ((go_ravelref04_in a0_14379.A 1 1000) && (a0_14379.B == 0))) (.fn rfl) ?_
          refine SafeOps.nil ?_
          repeat (first | refine Safe.seq ?_ | refine Safe.skip ?_ | with_reducible refine thenQ.n ?_ | with_reducible refine blockQ.n ?_)
          refine Safe.ret ?_
          repeat (first | with_reducible refine thenQ.r ?_ | with_reducible refine blockQ.r ?_)
          obtain rfl := h
          exact retQ.gen (vs := [V.bool ((go_ravelref04_in a0_14379.A 1 1000) && (a0_14379.B == 0))]) rfl (.tmp (v := V.bool ((go_ravelref04_in a0_14379.A 1 1000) && (a0_14379.B == 0))) rfl .nil) (.free rfl) (by simp) (.inr rfl)
        · skip
          refine Safe.condN rfl hc14418 ?_
          repeat (first | refine Safe.seq ?_ | refine Safe.skip ?_ | with_reducible refine thenQ.n ?_ | with_reducible refine blockQ.n ?_)
          refine Safe.region ?_
          refine SafeOps.quiet0 E_good rfl rfl rfl (v := V.ptr [1] 0 0) (.fn rfl) ?_
          refine SafeOps.quiet0 E_good rfl rfl rfl (v := V.int .i64 a0_14379.Op) (.load rfl rfl (.box rfl rfl) rfl) ?_
          refine SafeOps.quiet0 E_good rfl rfl rfl (v := V.bool (a0_14379.Op == 5)) (.fn rfl) ?_
          refine SafeOps.nil ?_
          repeat (first | refine Safe.seq ?_ | refine Safe.skip ?_ | with_reducible refine thenQ.n ?_ | with_reducible refine blockQ.n ?_)
          refine ifG h (fun hc14421 h => ?_) (fun hc14421 h => ?_)
          · skip
            refine Safe.condK rfl hc14421 ?_
            repeat (first | refine Safe.seq ?_ | refine Safe.skip ?_ | with_reducible refine thenQ.n ?_ | with_reducible refine blockQ.n ?_)
            refine Safe.region ?_
            refine SafeOps.quiet0 E_good rfl rfl rfl (v := V.ptr [1] 0 1) (.fn rfl) ?_
            refine SafeOps.quiet0 E_good rfl rfl rfl (v := V.int .i64 a0_14379.A) (.load rfl rfl (.box rfl rfl) rfl) ?_
            refine SafeOps.quiet0 E_good rfl rfl rfl (v := V.bool (go_ravelref04_in a0_14379.A 0 15)) (.callP rfl rfl (go_ravelref04_in_sc a0_14379.A 0 15 _ rfl) rfl) ?_
            refine SafeOps.quiet0 E_good rfl rfl rfl (v := V.bool (go_ravelref04_in a0_14379.A 0 15)) (.fn rfl) ?_
            refine SafeOps.bjoin 4 62 (b := ((go_ravelref04_in a0_14379.A 0 15) && (a0_14379.B == 0))) (b1 := (a0_14379.B == 0)) (b0 := false) (fun hc14422 K => ?_) (fun hc14422 K => ?_) bj_and ?_
            · skip
              refine SafeOps.quiet0 E_good (congrArg some hc14422) rfl rfl (v := V.ptr [1] 0 2) (.fn rfl) ?_
              refine SafeOps.quiet0 E_good (congrArg some hc14422) rfl rfl (v := V.int .i64 a0_14379.B) (.load rfl rfl (.box rfl rfl) rfl) ?_
              refine SafeOps.quiet0 E_good (congrArg some hc14422) rfl rfl (v := V.bool (a0_14379.B == 0)) (.fn rfl) ?_
              refine SafeOps.quiet0 E_good rfl rfl rfl (v := V.bool (a0_14379.B == 0)) (.pickK rfl hc14422 rfl) ?_
              exact SafeOps.drop' 4 rfl rfl rfl K
            · skip
              refine SafeOps.skip (congrArg some hc14422) rfl rfl ?_
              refine SafeOps.skip (congrArg some hc14422) rfl rfl ?_
              refine SafeOps.skip (congrArg some hc14422) rfl rfl ?_
              refine SafeOps.quiet0 E_good rfl rfl rfl (v := V.bool false) (.pickK rfl hc14422 rfl) ?_
              exact SafeOps.drop' 4 rfl rfl rfl K
            refine SafeOps.quiet0 E_good rfl rfl rfl (v := V.bool ((go_ravelref04_in a0_14379.A 0 15) && (a0_14379.B == 0))) (.fn rfl) ?_
            refine SafeOps.nil ?_
            repeat (first | refine Safe.seq ?_ | refine Safe.skip ?_ | with_reducible refine thenQ.n ?_ | with_reducible refine blockQ.n ?_)
            refine Safe.ret ?_
            repeat (first | with_reducible refine thenQ.r ?_ | with_reducible refine blockQ.r ?_)
            obtain rfl := h
            exact retQ.gen (vs := [V.bool ((go_ravelref04_in a0_14379.A 0 15) && (a0_14379.B == 0))]) rfl (.tmp (v := V.bool ((go_ravelref04_in a0_14379.A 0 15) && (a0_14379.B == 0))) rfl .nil) (.free rfl) (by simp) (.inr rfl)
          · skip
            refine Safe.condN rfl hc14421 ?_
            repeat (first | refine Safe.seq ?_ | refine Safe.skip ?_ | with_reducible refine thenQ.n ?_ | with_reducible refine blockQ.n ?_)
            refine Safe.region ?_
            refine SafeOps.quiet0 E_good rfl rfl rfl (v := V.ptr [1] 0 0) (.fn rfl) ?_
            refine SafeOps.quiet0 E_good rfl rfl rfl (v := V.int .i64 a0_14379.Op) (.load rfl rfl (.box rfl rfl) rfl) ?_
            refine SafeOps.quiet0 E_good rfl rfl rfl (v := V.bool (a0_14379.Op == 6)) (.fn rfl) ?_
            refine SafeOps.nil ?_
            repeat (first | refine Safe.seq ?_ | refine Safe.skip ?_ | with_reducible refine thenQ.n ?_ | with_reducible refine blockQ.n ?_)
            refine ifG h (fun hc14424 h => ?_) (fun hc14424 h => ?_)
            · skip
              refine Safe.condK rfl hc14424 ?_
              repeat (first | refine Safe.seq ?_ | refine Safe.skip ?_ | with_reducible refine thenQ.n ?_ | with_reducible refine blockQ.n ?_)
              refine Safe.region ?_
              refine SafeOps.quiet0 E_good rfl rfl rfl (v := V.ptr [1] 0 1) (.fn rfl) ?_
              refine SafeOps.quiet0 E_good rfl rfl rfl (v := V.int .i64 a0_14379.A) (.load rfl rfl (.box rfl rfl) rfl) ?_
              refine SafeOps.quiet0 E_good rfl rfl rfl (v := V.bool (go_ravelref04_in a0_14379.A 0 3)) (.callP rfl rfl (go_ravelref04_in_sc a0_14379.A 0 3 _ rfl) rfl) ?_
              refine SafeOps.quiet0 E_good rfl rfl rfl (v := V.bool (go_ravelref04_in a0_14379.A 0 3)) (.fn rfl) ?_
              refine SafeOps.bjoin 4 73 (b := ((go_ravelref04_in a0_14379.A 0 3) && (a0_14379.B == 0))) (b1 := (a0_14379.B == 0)) (b0 := false) (fun hc14425 K => ?_) (fun hc14425 K => ?_) bj_and ?_
              · skip
                refine SafeOps.quiet0 E_good (congrArg some hc14425) rfl rfl (v := V.ptr [1] 0 2) (.fn rfl) ?_
                refine SafeOps.quiet0 E_good (congrArg some hc14425) rfl rfl (v := V.int .i64 a0_14379.B) (.load rfl rfl (.box rfl rfl) rfl) ?_
                refine SafeOps.quiet0 E_good (congrArg some hc14425) rfl rfl (v := V.bool (a0_14379.B == 0)) (.fn rfl) ?_
                refine SafeOps.quiet0 E_good rfl rfl rfl (v := V.bool (a0_14379.B == 0)) (.pickK rfl hc14425 rfl) ?_
                exact SafeOps.drop' 4 rfl rfl rfl K
              · skip
                refine SafeOps.skip (congrArg some hc14425) rfl rfl ?_
                refine SafeOps.skip (congrArg some hc14425) rfl rfl ?_
                refine SafeOps.skip (congrArg some hc14425) rfl rfl ?_
                refine SafeOps.quiet0 E_good rfl rfl rfl (v := V.bool false) (.pickK rfl hc14425 rfl) ?_
                exact SafeOps.drop' 4 rfl rfl rfl K
              refine SafeOps.quiet0 E_good rfl rfl rfl (v := V.bool ((go_ravelref04_in a0_14379.A 0 3) && (a0_14379.B == 0))) (.fn rfl) ?_
              refine SafeOps.nil ?_
              repeat (first | refine Safe.seq ?_ | refine Safe.skip ?_ | with_reducible refine thenQ.n ?_ | with_reducible refine blockQ.n ?_)
              refine Safe.ret ?_
              repeat (first | with_reducible refine thenQ.r ?_ | with_reducible refine blockQ.r ?_)
              obtain rfl := h
              exact retQ.gen (vs := [V.bool ((go_ravelref04_in a0_14379.A 0 3) && (a0_14379.B == 0))]) rfl (.tmp (v := V.bool ((go_ravelref04_in a0_14379.A 0 3) && (a0_14379.B == 0))) rfl .nil) (.free rfl) (by simp) (.inr rfl)
            · skip
              refine Safe.condN rfl hc14424 ?_
              repeat (first | refine Safe.seq ?_ | refine Safe.skip ?_ | with_reducible refine thenQ.n ?_ | with_reducible refine blockQ.n ?_)
              refine Safe.region ?_
              refine SafeOps.quiet0 E_good rfl rfl rfl (v := V.ptr [1] 0 0) (.fn rfl) ?_
              refine SafeOps.quiet0 E_good rfl rfl rfl (v := V.int .i64 a0_14379.Op) (.load rfl rfl (.box rfl rfl) rfl) ?_
              refine SafeOps.quiet0 E_good rfl rfl rfl (v := V.bool (a0_14379.Op == 7)) (.fn rfl) ?_
              refine SafeOps.quiet0 E_good rfl rfl rfl (v := V.bool (a0_14379.Op == 7)) (.fn rfl) ?_
              refine SafeOps.bjoin 4 81 (b := ((a0_14379.Op == 7) || (a0_14379.Op == 8))) (b1 := true) (b0 := (a0_14379.Op == 8)) (fun hc14426 K => ?_) (fun hc14426 K => ?_) bj_or ?_
              · skip
                refine SafeOps.skip (congrArg (fun b => some (!b)) hc14426) rfl rfl ?_
                refine SafeOps.skip (congrArg (fun b => some (!b)) hc14426) rfl rfl ?_
                refine SafeOps.skip (congrArg (fun b => some (!b)) hc14426) rfl rfl ?_
                refine SafeOps.quiet0 E_good rfl rfl rfl (v := V.bool true) (.pickK rfl hc14426 rfl) ?_
                exact SafeOps.drop' 4 rfl rfl rfl K
              · skip
                refine SafeOps.quiet0 E_good (congrArg (fun b => some (!b)) hc14426) rfl rfl (v := V.ptr [1] 0 0) (.fn rfl) ?_
                refine SafeOps.quiet0 E_good (congrArg (fun b => some (!b)) hc14426) rfl rfl (v := V.int .i64 a0_14379.Op) (.load rfl rfl (.box rfl rfl) rfl) ?_
                refine SafeOps.quiet0 E_good (congrArg (fun b => some (!b)) hc14426) rfl rfl (v := V.bool (a0_14379.Op == 8)) (.fn rfl) ?_
                refine SafeOps.quiet0 E_good rfl rfl rfl (v := V.bool (a0_14379.Op == 8)) (.pickK rfl hc14426 rfl) ?_
                exact SafeOps.drop' 4 rfl rfl rfl K
              refine SafeOps.quiet0 E_good rfl rfl rfl (v := V.bool ((a0_14379.Op == 7) || (a0_14379.Op == 8))) (.fn rfl) ?_
              refine SafeOps.bjoin 4 86 (b := (((a0_14379.Op == 7) || (a0_14379.Op == 8)) && (go_ravelref04_in a0_14379.A 0 7))) (b1 := go_ravelref04_in a0_14379.A 0 7) (b0 := false) (fun hc14427 K => ?_) (fun hc14427 K => ?_) bj_and ?_
              · skip
                refine SafeOps.quiet0 E_good (congrArg some hc14427) rfl rfl (v := V.ptr [1] 0 1) (.fn rfl) ?_
                refine SafeOps.quiet0 E_good (congrArg some hc14427) rfl rfl (v := V.int .i64 a0_14379.A) (.load rfl rfl (.box rfl rfl) rfl) ?_
                refine SafeOps.quiet0 E_good (congrArg some hc14427) rfl rfl (v := V.bool (go_ravelref04_in a0_14379.A 0 7)) (.callP rfl rfl (go_ravelref04_in_sc a0_14379.A 0 7 _ rfl) rfl) ?_
                refine SafeOps.quiet0 E_good rfl rfl rfl (v := V.bool (go_ravelref04_in a0_14379.A 0 7)) (.pickK rfl hc14427 rfl) ?_
                exact SafeOps.drop' 4 rfl rfl rfl K
              · skip
                refine SafeOps.skip (congrArg some hc14427) rfl rfl ?_
                refine SafeOps.skip (congrArg some hc14427) rfl rfl ?_
                refine SafeOps.skip (congrArg some hc14427) rfl rfl ?_
                refine SafeOps.quiet0 E_good rfl rfl rfl (v := V.bool false) (.pickK rfl hc14427 rfl) ?_
                exact SafeOps.drop' 4 rfl rfl rfl K
              refine SafeOps.quiet0 E_good rfl rfl rfl (v := V.bool (((a0_14379.Op == 7) || (a0_14379.Op == 8)) && (go_ravelref04_in a0_14379.A 0 7))) (.fn rfl) ?_
              refine SafeOps.bjoin 4 91 (b := ((((a0_14379.Op == 7) || (a0_14379.Op == 8)) && (go_ravelref04_in a0_14379.A 0 7)) && (a0_14379.B == 0))) (b1 := (a0_14379.B == 0)) (b0 := false) (fun hc14428 K => ?_) (fun hc14428 K => ?_) bj_and ?_
              · skip
                refine SafeOps.quiet0 E_good (congrArg some hc14428) rfl rfl (v := V.ptr [1] 0 2) (.fn rfl) ?_
                refine SafeOps.quiet0 E_good (congrArg some hc14428) rfl rfl (v := V.int .i64 a0_14379.B) (.load rfl rfl (.box rfl rfl) rfl) ?_
                refine SafeOps.quiet0 E_good (congrArg some hc14428) rfl rfl (v := V.bool (a0_14379.B == 0)) (.fn rfl) ?_
                refine SafeOps.quiet0 E_good rfl rfl rfl (v := V.bool (a0_14379.B == 0)) (.pickK rfl hc14428 rfl) ?_
                exact SafeOps.drop' 4 rfl rfl rfl K
              · skip
                refine SafeOps.skip (congrArg some hc14428) rfl rfl ?_
                refine SafeOps.skip (congrArg some hc14428) rfl rfl ?_
                refine SafeOps.skip (congrArg some hc14428) rfl rfl ?_
                refine SafeOps.quiet0 E_good rfl rfl rfl (v := V.bool false) (.pickK rfl hc14428 rfl) ?_
                exact SafeOps.drop' 4 rfl rfl rfl K
              refine SafeOps.quiet0 E_good rfl rfl rfl (v := V.bool ((((a0_14379.Op == 7) || (a0_14379.Op == 8)) && (go_ravelref04_in a0_14379.A 0 7)) && (a0_14379.B == 0))) (.fn rfl) ?_
              refine SafeOps.nil ?_
              repeat (first | refine Safe.seq ?_ | refine Safe.skip ?_ | with_reducible refine thenQ.n ?_ | with_reducible refine blockQ.n ?_)
              refine Safe.ret ?_
              repeat (first | with_reducible refine thenQ.r ?_ | with_reducible refine blockQ.r ?_)
              obtain rfl := h
              exact retQ.gen (vs := [V.bool ((((a0_14379.Op == 7) || (a0_14379.Op == 8)) && (go_ravelref04_in a0_14379.A 0 7)) && (a0_14379.B == 0))]) rfl (.tmp (v := V.bool ((((a0_14379.Op == 7) || (a0_14379.Op == 8)) && (go_ravelref04_in a0_14379.A 0 7)) && (a0_14379.B == 0))) rfl .nil) (.free rfl) (by simp) (.inr rfl)

noncomputable def go_ravelref04_Check_s1 (a0_14369 : List api_Instr) : (Int) → Option ((Int) ⊕ (Int))
  | v15_14448 =>
    if (decide (v15_14448 < (a0_14369.length : Int))) = true then
      if 0 ≤ v15_14448 ∧ v15_14448 < (a0_14369.length : Int) then
        if (!(go_ravelref04_may (gt a0_14369 v15_14448))) = true then
          inrO (
            some 1)
        else
          nextO (IntKind.i64.wrap (v15_14448 + 1))
      else none
    else
      inrO (
        some 0)

noncomputable def go_ravelref04_Check (a0_14369 : List api_Instr) : Option Int :=
  if ((decide ((a0_14369.length : Int) < 1)) || (decide ((a0_14369.length : Int) > 32))) = true then
    some 1
  else
    whileO (go_ravelref04_Check_s1 a0_14369) 0

theorem go_ravelref04_Check_sc (a0_14369 : List api_Instr) (r : Int) (h : go_ravelref04_Check a0_14369 = some r) : SC Tryd.prog gl 37 [V.sl 3 (rws api_Instr.cells a0_14369)] (V.int .i64 r) := by
  rw [go_ravelref04_Check] at h
  refine SC.of E_good Tryd.func37 rfl (fun _ _ => Tryd.call37 _ _) rfl ?_
  repeat (first | refine Safe.seq ?_ | refine Safe.skip ?_ | with_reducible refine thenQ.n ?_ | with_reducible refine blockQ.n ?_)
  refine Safe.region ?_
  refine SafeOps.quiet0 E_good rfl rfl rfl (v := V.int .i64 0) (.fn rfl) ?_
  refine SafeOps.nil ?_
  repeat (first | refine Safe.seq ?_ | refine Safe.skip ?_ | with_reducible refine thenQ.n ?_ | with_reducible refine blockQ.n ?_)
  refine Safe.region ?_
  refine SafeOps.quiet0 E_good rfl rfl rfl (v := V.sl 3 (rws api_Instr.cells a0_14369)) (.fn rfl) ?_
  refine SafeOps.quiet0 E_good rfl rfl rfl (v := V.int .i64 (a0_14369.length : Int)) (.fnE rfl lenE) ?_
  refine SafeOps.quiet0 E_good rfl rfl rfl (v := V.bool (decide ((a0_14369.length : Int) < 1))) (.fn rfl) ?_
  refine SafeOps.quiet0 E_good rfl rfl rfl (v := V.bool (decide ((a0_14369.length : Int) < 1))) (.fn rfl) ?_
  refine SafeOps.bjoin 4 12 (b := ((decide ((a0_14369.length : Int) < 1)) || (decide ((a0_14369.length : Int) > 32)))) (b1 := true) (b0 := decide ((a0_14369.length : Int) > 32)) (fun hc14439 K => ?_) (fun hc14439 K => ?_) bj_or ?_
  · skip
    refine SafeOps.skip (congrArg (fun b => some (!b)) hc14439) rfl rfl ?_
    refine SafeOps.skip (congrArg (fun b => some (!b)) hc14439) rfl rfl ?_
    refine SafeOps.skip (congrArg (fun b => some (!b)) hc14439) rfl rfl ?_
    refine SafeOps.quiet0 E_good rfl rfl rfl (v := V.bool true) (.pickK rfl hc14439 rfl) ?_
    exact SafeOps.drop' 4 rfl rfl rfl K
  · skip
    refine SafeOps.quiet0 E_good (congrArg (fun b => some (!b)) hc14439) rfl rfl (v := V.sl 3 (rws api_Instr.cells a0_14369)) (.fn rfl) ?_
    refine SafeOps.quiet0 E_good (congrArg (fun b => some (!b)) hc14439) rfl rfl (v := V.int .i64 (a0_14369.length : Int)) (.fnE rfl lenE) ?_
    refine SafeOps.quiet0 E_good (congrArg (fun b => some (!b)) hc14439) rfl rfl (v := V.bool (decide ((a0_14369.length : Int) > 32))) (.fn rfl) ?_
    refine SafeOps.quiet0 E_good rfl rfl rfl (v := V.bool (decide ((a0_14369.length : Int) > 32))) (.pickK rfl hc14439 rfl) ?_
    exact SafeOps.drop' 4 rfl rfl rfl K
  refine SafeOps.nil ?_
  repeat (first | refine Safe.seq ?_ | refine Safe.skip ?_ | with_reducible refine thenQ.n ?_ | with_reducible refine blockQ.n ?_)
  refine ifG h (fun hc14440 h => ?_) (fun hc14440 h => ?_)
  · skip
    refine Safe.condK rfl hc14440 ?_
    repeat (first | refine Safe.seq ?_ | refine Safe.skip ?_ | with_reducible refine thenQ.n ?_ | with_reducible refine blockQ.n ?_)
    refine Safe.region ?_
    refine SafeOps.quiet0 E_good rfl rfl rfl (v := V.int .i64 1) (.fn rfl) ?_
    refine SafeOps.nil ?_
    repeat (first | refine Safe.seq ?_ | refine Safe.skip ?_ | with_reducible refine thenQ.n ?_ | with_reducible refine blockQ.n ?_)
    refine Safe.ret ?_
    repeat (first | with_reducible refine thenQ.r ?_ | with_reducible refine blockQ.r ?_)
    obtain rfl := Option.some.inj h
    exact retQ.gen (vs := [V.int .i64 1]) rfl (.tmp (v := V.int .i64 1) rfl .nil) (.free rfl) (by simp) (.inr rfl)
  · skip
    refine Safe.condN rfl hc14440 ?_
    repeat (first | refine Safe.seq ?_ | refine Safe.skip ?_ | with_reducible refine thenQ.n ?_ | with_reducible refine blockQ.n ?_)
    refine Safe.region ?_
    refine SafeOps.quiet0 E_good rfl rfl rfl (v := V.sl 3 (rws api_Instr.cells a0_14369)) (.fn rfl) ?_
    refine SafeOps.quiet0 E_good rfl rfl rfl (v := V.int .i64 (a0_14369.length : Int)) (.fnE rfl lenE) ?_
    refine SafeOps.quiet0 E_good rfl rfl rfl (v := V.int .i64 0) (.fn rfl) ?_
    refine SafeOps.nil ?_
    repeat (first | refine Safe.seq ?_ | refine Safe.skip ?_ | with_reducible refine thenQ.n ?_ | with_reducible refine blockQ.n ?_)
    refine Safe.block ?_
    repeat (first | refine Safe.seq ?_ | refine Safe.skip ?_ | with_reducible refine thenQ.n ?_ | with_reducible refine blockQ.n ?_)
    refine Safe.loopW (fun (v15_14448 : Int) => ⟨Tryd.f37.ntmps, [(13, V.sl 3 (rws api_Instr.cells a0_14369)), (14, V.int .i64 (a0_14369.length : Int)), (15, V.int .i64 v15_14448)], [], [], []⟩) h (.cov ⟨rfl, rfl, (upT_cons (.refl _) (upT_cons (.refl _) (upT_cons (.refl _) upT_nil))), upOb_nil, upOut_nil, rfl⟩) ?_
    intro v15_14448 ohr14449 h hr14449
    replace h : go_ravelref04_Check_s1 a0_14369 v15_14448 = some ohr14449 := h
    rw [go_ravelref04_Check_s1] at h
    repeat (first | refine Safe.seq ?_ | refine Safe.skip ?_ | with_reducible refine thenQ.n ?_ | with_reducible refine blockQ.n ?_)
    refine Safe.region ?_
    refine SafeOps.quiet0 E_good rfl rfl rfl (v := V.bool (decide (v15_14448 < (a0_14369.length : Int)))) (.fn rfl) ?_
    refine SafeOps.nil ?_
    repeat (first | refine Safe.seq ?_ | refine Safe.skip ?_ | with_reducible refine thenQ.n ?_ | with_reducible refine blockQ.n ?_)
    refine ifG h (fun hc14450 h => ?_) (fun hc14450 h => ?_)
    · skip
      refine Safe.condK rfl hc14450 ?_
      repeat (first | refine Safe.seq ?_ | refine Safe.skip ?_ | with_reducible refine thenQ.n ?_ | with_reducible refine blockQ.n ?_)
      refine Safe.block ?_
      repeat (first | refine Safe.seq ?_ | refine Safe.skip ?_ | with_reducible refine thenQ.n ?_ | with_reducible refine blockQ.n ?_)
      refine Safe.region ?_
      refine okG h (fun hb14451 h => ?_)
      refine SafeOps.quiet0 E_good rfl rfl rfl (v := V.spt 3 (rws api_Instr.cells a0_14369) (Int.toNat v15_14448) 0) (.idxSlM (f := api_Instr.cells) rfl rfl rfl rfl rfl hb14451) ?_
      refine SafeOps.quiet0 E_good rfl rfl rfl (v := V.agg [V.int .i64 ((gt a0_14369 v15_14448).Op), V.int .i64 ((gt a0_14369 v15_14448).A), V.int .i64 ((gt a0_14369 v15_14448).B)]) (.load rfl rfl (.sptM (f := api_Instr.cells) hb14451 rfl) rfl) ?_
      refine SafeOps.quiet1 E_good rfl rfl rfl (.alloc rfl rfl) rfl ?_
      refine SafeOps.store (z := Obj.box [V.int .i64 ((gt a0_14369 v15_14448).Op), V.int .i64 ((gt a0_14369 v15_14448).A), V.int .i64 ((gt a0_14369 v15_14448).B)]) E_good rfl rfl rfl rfl rfl rfl rfl (.boxM (c := 3) rfl rfl (Nat.le_of_ble_eq_true rfl) rfl) ?_
      refine SafeOps.nil ?_
      repeat (first | refine Safe.seq ?_ | refine Safe.skip ?_ | with_reducible refine thenQ.n ?_ | with_reducible refine blockQ.n ?_)
      refine Safe.region ?_
      refine SafeOps.quiet0 E_good rfl rfl rfl (v := V.agg [V.int .i64 ((gt a0_14369 v15_14448).Op), V.int .i64 ((gt a0_14369 v15_14448).A), V.int .i64 ((gt a0_14369 v15_14448).B)]) (.load rfl rfl (.box rfl rfl) rfl) ?_
      refine SafeOps.quiet0 E_good rfl rfl rfl (v := V.bool (go_ravelref04_may (gt a0_14369 v15_14448))) (.callP rfl rfl (go_ravelref04_may_sc (gt a0_14369 v15_14448) _ rfl) rfl) ?_
      refine SafeOps.quiet0 E_good rfl rfl rfl (v := V.bool (!(go_ravelref04_may (gt a0_14369 v15_14448)))) (.fn rfl) ?_
      refine SafeOps.nil ?_
      repeat (first | refine Safe.seq ?_ | refine Safe.skip ?_ | with_reducible refine thenQ.n ?_ | with_reducible refine blockQ.n ?_)
      refine ifG h (fun hc14452 h => ?_) (fun hc14452 h => ?_)
      · skip
        refine Safe.condK rfl hc14452 ?_
        repeat (first | refine Safe.seq ?_ | refine Safe.skip ?_ | with_reducible refine thenQ.n ?_ | with_reducible refine blockQ.n ?_)
        refine Safe.region ?_
        refine SafeOps.quiet0 E_good rfl rfl rfl (v := V.int .i64 1) (.fn rfl) ?_
        refine SafeOps.nil ?_
        repeat (first | refine Safe.seq ?_ | refine Safe.skip ?_ | with_reducible refine thenQ.n ?_ | with_reducible refine blockQ.n ?_)
        refine Safe.ret ?_
        repeat (first | with_reducible refine thenQ.r ?_ | with_reducible refine blockQ.r ?_)
        replace h := inr_out h hr14449
        obtain rfl := Option.some.inj h
        exact retQ.gen (vs := [V.int .i64 1]) rfl (.tmp (v := V.int .i64 1) rfl .nil) (.free rfl) (by simp) (.inr rfl)
      · skip
        refine Safe.condN rfl hc14452 ?_
        repeat (first | refine Safe.seq ?_ | refine Safe.skip ?_ | with_reducible refine thenQ.n ?_ | with_reducible refine blockQ.n ?_)
        refine Safe.region ?_
        refine SafeOps.quiet0 E_good rfl rfl rfl (v := V.int .i64 (IntKind.i64.wrap (v15_14448 + 1))) (.fn rfl) ?_
        refine SafeOps.quiet0 E_good rfl rfl rfl (v := V.int .i64 (IntKind.i64.wrap (v15_14448 + 1))) (.fn rfl) ?_
        refine SafeOps.nil ?_
        repeat (first | refine Safe.seq ?_ | refine Safe.skip ?_ | with_reducible refine thenQ.n ?_ | with_reducible refine blockQ.n ?_)
        exact ⟨_, next_out h, (.cov ⟨rfl, rfl, (upT_cons (.refl _) (upT_cons (.refl _) (upT_cons (.refl _) upT_nil))), upOb_nil, upOut_nil, rfl⟩)⟩
    · skip
      refine Safe.condN rfl hc14450 ?_
      repeat (first | refine Safe.seq ?_ | refine Safe.skip ?_ | with_reducible refine thenQ.n ?_ | with_reducible refine blockQ.n ?_)
      refine Safe.exit ?_
      repeat (first | with_reducible refine thenQ.e ?_ | with_reducible refine blockQ.x rfl ?_ | with_reducible refine blockQ.y rfl ?_)
      replace h := inr_out h hr14449
      repeat (first | refine Safe.seq ?_ | refine Safe.skip ?_ | with_reducible refine thenQ.n ?_ | with_reducible refine blockQ.n ?_)
      refine Safe.region ?_
      refine SafeOps.quiet0 E_good rfl rfl rfl (v := V.int .i64 0) (.fn rfl) ?_
      refine SafeOps.nil ?_
      repeat (first | refine Safe.seq ?_ | refine Safe.skip ?_ | with_reducible refine thenQ.n ?_ | with_reducible refine blockQ.n ?_)
      refine Safe.ret ?_
      repeat (first | with_reducible refine thenQ.r ?_ | with_reducible refine blockQ.r ?_)
      obtain rfl := Option.some.inj h
      exact retQ.gen (vs := [V.int .i64 0]) rfl (.tmp (v := V.int .i64 0) rfl .nil) (.free rfl) (by simp) (.inr rfl)

noncomputable def go_ravelref13_Fits_j1 (a0_2031 : api_Task) (a1_2032 : List api_Instr) (b_14471 : Bool) : Option Bool :=
  if (b_14471 || (decide (a0_2031.Pc > (a1_2032.length : Int)))) = true then
    some false
  else
    if (a0_2031.Unit == 0) = true then
      some true
    else
      if (decide (a0_2031.Pc < (a1_2032.length : Int))) = true then
        if 0 ≤ a0_2031.Pc ∧ a0_2031.Pc < (a1_2032.length : Int) then
          if (((gt a1_2032 a0_2031.Pc).Op) == 1) = true then
            if 0 ≤ a0_2031.Pc ∧ a0_2031.Pc < (a1_2032.length : Int) then
              some (decide (a0_2031.Unit < ((gt a1_2032 a0_2031.Pc).A)))
            else none
          else
            some false
        else none
      else
        some false

noncomputable def go_ravelref13_Fits (a0_2031 : api_Task) (a1_2032 : List api_Instr) : Option Bool :=
  (go_ravelref12_Check a0_2031).bind fun x_14466 =>
  if (x_14466 != 0) = true then
    go_ravelref13_Fits_j1 a0_2031 a1_2032 true
  else
    (go_ravelref04_Check a1_2032).bind fun x_14480 =>
    go_ravelref13_Fits_j1 a0_2031 a1_2032 (x_14480 != 0)

theorem go_ravelref13_Fits_sc (a0_2031 : api_Task) (a1_2032 : List api_Instr) (r : Bool) (h : go_ravelref13_Fits a0_2031 a1_2032 = some r) : SC Tryd.prog gl 29 [V.agg [V.int .i64 a0_2031.Id, V.int .i64 a0_2031.Tenant, V.int .i64 a0_2031.Prog, V.int .i64 a0_2031.Pc, V.int .i64 a0_2031.Unit, V.int .i64 a0_2031.Keeps.a0, V.int .i64 a0_2031.Keeps.a1, V.int .i64 a0_2031.Keeps.a2, V.int .i64 a0_2031.Keeps.a3, V.int .i64 a0_2031.State, V.int .i64 a0_2031.Ran], V.sl 3 (rws api_Instr.cells a1_2032)] (V.bool r) := by
  rw [go_ravelref13_Fits] at h
  refine SC.of E_good Tryd.func29 rfl (fun _ _ => Tryd.call29 _ _) rfl ?_
  repeat (first | refine Safe.seq ?_ | refine Safe.skip ?_ | with_reducible refine thenQ.n ?_ | with_reducible refine blockQ.n ?_)
  refine Safe.region ?_
  refine SafeOps.quiet1 E_good rfl rfl rfl (.box rfl rfl) rfl ?_
  refine SafeOps.quiet0 E_good rfl rfl rfl (v := V.bool false) (.fn rfl) ?_
  refine SafeOps.nil ?_
  repeat (first | refine Safe.seq ?_ | refine Safe.skip ?_ | with_reducible refine thenQ.n ?_ | with_reducible refine blockQ.n ?_)
  refine Safe.region ?_
  refine SafeOps.quiet0 E_good rfl rfl rfl (v := V.agg [V.int .i64 a0_2031.Id, V.int .i64 a0_2031.Tenant, V.int .i64 a0_2031.Prog, V.int .i64 a0_2031.Pc, V.int .i64 a0_2031.Unit, V.int .i64 a0_2031.Keeps.a0, V.int .i64 a0_2031.Keeps.a1, V.int .i64 a0_2031.Keeps.a2, V.int .i64 a0_2031.Keeps.a3, V.int .i64 a0_2031.State, V.int .i64 a0_2031.Ran]) (.load rfl rfl (.box rfl rfl) rfl) ?_
  refine bindG h ?_
  intro x_14466 he14467 h
  refine SafeOps.quiet0 E_good rfl rfl rfl (v := V.int .i64 x_14466) (.callP rfl rfl (go_ravelref12_Check_sc a0_2031 _ he14467) rfl) ?_
  refine SafeOps.quiet0 E_good rfl rfl rfl (v := V.bool (x_14466 != 0)) (.fn rfl) ?_
  refine SafeOps.quiet0 E_good rfl rfl rfl (v := V.bool (x_14466 != 0)) (.fn rfl) ?_
  refine SafeOps.bsplit 4 12 (fun b_14471 => go_ravelref13_Fits_j1 a0_2031 a1_2032 b_14471 = some r) (fun HJ14472 => ?_) (fun b_14471 h => ?_)
  · refine ifG h (fun hc14468 h => ?_) (fun hc14468 h => ?_)
    · skip
      refine SafeOps.skip (congrArg (fun b => some (!b)) hc14468) rfl rfl ?_
      refine SafeOps.skip (congrArg (fun b => some (!b)) hc14468) rfl rfl ?_
      refine SafeOps.skip (congrArg (fun b => some (!b)) hc14468) rfl rfl ?_
      refine SafeOps.quiet0 E_good rfl rfl rfl (v := V.bool true) (.pickK rfl hc14468 rfl) ?_
      exact SafeOps.drop' 4 rfl rfl rfl (HJ14472 _ h)
    · skip
      refine SafeOps.quiet0 E_good (congrArg (fun b => some (!b)) hc14468) rfl rfl (v := V.sl 3 (rws api_Instr.cells a1_2032)) (.fn rfl) ?_
      refine bindG h ?_
      intro x_14480 he14481 h
      refine SafeOps.quiet0 E_good (congrArg (fun b => some (!b)) hc14468) rfl rfl (v := V.int .i64 x_14480) (.callP rfl rfl (go_ravelref04_Check_sc a1_2032 _ he14481) rfl) ?_
      refine SafeOps.quiet0 E_good (congrArg (fun b => some (!b)) hc14468) rfl rfl (v := V.bool (x_14480 != 0)) (.fn rfl) ?_
      refine SafeOps.quiet0 E_good rfl rfl rfl (v := V.bool (x_14480 != 0)) (.pickK rfl hc14468 rfl) ?_
      exact SafeOps.drop' 4 rfl rfl rfl (HJ14472 _ h)
  · replace h : go_ravelref13_Fits_j1 a0_2031 a1_2032 b_14471 = some r := h
    rw [go_ravelref13_Fits_j1] at h
    refine SafeOps.quiet0 E_good rfl rfl rfl (v := V.bool b_14471) (.fn rfl) ?_
    refine SafeOps.bjoin 6 19 (b := (b_14471 || (decide (a0_2031.Pc > (a1_2032.length : Int))))) (b1 := true) (b0 := decide (a0_2031.Pc > (a1_2032.length : Int))) (fun hc14473 K => ?_) (fun hc14473 K => ?_) bj_or ?_
    · skip
      refine SafeOps.skip (congrArg (fun b => some (!b)) hc14473) rfl rfl ?_
      refine SafeOps.skip (congrArg (fun b => some (!b)) hc14473) rfl rfl ?_
      refine SafeOps.skip (congrArg (fun b => some (!b)) hc14473) rfl rfl ?_
      refine SafeOps.skip (congrArg (fun b => some (!b)) hc14473) rfl rfl ?_
      refine SafeOps.skip (congrArg (fun b => some (!b)) hc14473) rfl rfl ?_
      refine SafeOps.quiet0 E_good rfl rfl rfl (v := V.bool true) (.pickK rfl hc14473 rfl) ?_
      exact SafeOps.drop' 6 rfl rfl rfl K
    · skip
      refine SafeOps.quiet0 E_good (congrArg (fun b => some (!b)) hc14473) rfl rfl (v := V.ptr [2] 0 3) (.fn rfl) ?_
      refine SafeOps.quiet0 E_good (congrArg (fun b => some (!b)) hc14473) rfl rfl (v := V.int .i64 a0_2031.Pc) (.load rfl rfl (.box rfl rfl) rfl) ?_
      refine SafeOps.quiet0 E_good (congrArg (fun b => some (!b)) hc14473) rfl rfl (v := V.sl 3 (rws api_Instr.cells a1_2032)) (.fn rfl) ?_
      refine SafeOps.quiet0 E_good (congrArg (fun b => some (!b)) hc14473) rfl rfl (v := V.int .i64 (a1_2032.length : Int)) (.fnE rfl lenE) ?_
      refine SafeOps.quiet0 E_good (congrArg (fun b => some (!b)) hc14473) rfl rfl (v := V.bool (decide (a0_2031.Pc > (a1_2032.length : Int)))) (.fn rfl) ?_
      refine SafeOps.quiet0 E_good rfl rfl rfl (v := V.bool (decide (a0_2031.Pc > (a1_2032.length : Int)))) (.pickK rfl hc14473 rfl) ?_
      exact SafeOps.drop' 6 rfl rfl rfl K
    refine SafeOps.nil ?_
    repeat (first | refine Safe.seq ?_ | refine Safe.skip ?_ | with_reducible refine thenQ.n ?_ | with_reducible refine blockQ.n ?_)
    refine ifG h (fun hc14474 h => ?_) (fun hc14474 h => ?_)
    · skip
      refine Safe.condK rfl hc14474 ?_
      repeat (first | refine Safe.seq ?_ | refine Safe.skip ?_ | with_reducible refine thenQ.n ?_ | with_reducible refine blockQ.n ?_)
      refine Safe.region ?_
      refine SafeOps.quiet0 E_good rfl rfl rfl (v := V.bool false) (.fn rfl) ?_
      refine SafeOps.nil ?_
      repeat (first | refine Safe.seq ?_ | refine Safe.skip ?_ | with_reducible refine thenQ.n ?_ | with_reducible refine blockQ.n ?_)
      refine Safe.ret ?_
      repeat (first | with_reducible refine thenQ.r ?_ | with_reducible refine blockQ.r ?_)
      obtain rfl := Option.some.inj h
      exact retQ.gen (vs := [V.bool false]) rfl (.tmp (v := V.bool false) rfl .nil) (.free rfl) (by simp) (.inr rfl)
    · skip
      refine Safe.condN rfl hc14474 ?_
      repeat (first | refine Safe.seq ?_ | refine Safe.skip ?_ | with_reducible refine thenQ.n ?_ | with_reducible refine blockQ.n ?_)
      refine Safe.region ?_
      refine SafeOps.quiet0 E_good rfl rfl rfl (v := V.ptr [2] 0 4) (.fn rfl) ?_
      refine SafeOps.quiet0 E_good rfl rfl rfl (v := V.int .i64 a0_2031.Unit) (.load rfl rfl (.box rfl rfl) rfl) ?_
      refine SafeOps.quiet0 E_good rfl rfl rfl (v := V.bool (a0_2031.Unit == 0)) (.fn rfl) ?_
      refine SafeOps.nil ?_
      repeat (first | refine Safe.seq ?_ | refine Safe.skip ?_ | with_reducible refine thenQ.n ?_ | with_reducible refine blockQ.n ?_)
      refine ifG h (fun hc14475 h => ?_) (fun hc14475 h => ?_)
      · skip
        refine Safe.condK rfl hc14475 ?_
        repeat (first | refine Safe.seq ?_ | refine Safe.skip ?_ | with_reducible refine thenQ.n ?_ | with_reducible refine blockQ.n ?_)
        refine Safe.region ?_
        refine SafeOps.quiet0 E_good rfl rfl rfl (v := V.bool true) (.fn rfl) ?_
        refine SafeOps.nil ?_
        repeat (first | refine Safe.seq ?_ | refine Safe.skip ?_ | with_reducible refine thenQ.n ?_ | with_reducible refine blockQ.n ?_)
        refine Safe.ret ?_
        repeat (first | with_reducible refine thenQ.r ?_ | with_reducible refine blockQ.r ?_)
        obtain rfl := Option.some.inj h
        exact retQ.gen (vs := [V.bool true]) rfl (.tmp (v := V.bool true) rfl .nil) (.free rfl) (by simp) (.inr rfl)
      · skip
        refine Safe.condN rfl hc14475 ?_
        repeat (first | refine Safe.seq ?_ | refine Safe.skip ?_ | with_reducible refine thenQ.n ?_ | with_reducible refine blockQ.n ?_)
        refine Safe.regionD (n := 26) [] [] E_good mixed rfl ?_
        refine DAny.take (i := 0) rfl (by kernel_rfl) [] (by kernel_rfl) (by kernel_rfl) (by kernel_rfl) rfl rfl rfl (v := V.ptr [2] 0 3) (fun _ hz => (.fn rfl)) ?_
        refine DAny.take (i := 1) rfl (by kernel_rfl) [] (by kernel_rfl) (by kernel_rfl) (by kernel_rfl) rfl rfl rfl (v := V.int .i64 a0_2031.Pc) (fun _ hz => (.load rfl rfl (.box (hz _ _ rfl rfl) rfl) rfl)) ?_
        refine DAny.take (i := 2) rfl (by kernel_rfl) [] (by kernel_rfl) (by kernel_rfl) (by kernel_rfl) rfl rfl rfl (v := V.sl 3 (rws api_Instr.cells a1_2032)) (fun _ hz => (.fn rfl)) ?_
        refine DAny.take (i := 3) rfl (by kernel_rfl) [] (by kernel_rfl) (by kernel_rfl) (by kernel_rfl) rfl rfl rfl (v := V.int .i64 (a1_2032.length : Int)) (fun _ hz => (.fnE rfl lenE)) ?_
        refine DAny.take (i := 4) rfl (by kernel_rfl) [] (by kernel_rfl) (by kernel_rfl) (by kernel_rfl) rfl rfl rfl (v := V.bool (decide (a0_2031.Pc < (a1_2032.length : Int)))) (fun _ hz => (.fn rfl)) ?_
        refine DAny.take (i := 5) rfl (by kernel_rfl) [] (by kernel_rfl) (by kernel_rfl) (by kernel_rfl) rfl rfl rfl (v := V.bool (decide (a0_2031.Pc < (a1_2032.length : Int)))) (fun _ hz => (.fn rfl)) ?_
        refine ifG h (fun hc14476 h => ?_) (fun hc14476 h => ?_)
        · skip
          refine DAny.take (i := 6) rfl (by kernel_rfl) [] (by kernel_rfl) (by kernel_rfl) (by kernel_rfl) (congrArg some hc14476) rfl rfl (v := V.sl 3 (rws api_Instr.cells a1_2032)) (fun _ hz => (.fn rfl)) ?_
          refine DAny.take (i := 7) rfl (by kernel_rfl) [] (by kernel_rfl) (by kernel_rfl) (by kernel_rfl) (congrArg some hc14476) rfl rfl (v := V.ptr [2] 0 3) (fun _ hz => (.fn rfl)) ?_
          refine DAny.take (i := 8) rfl (by kernel_rfl) [] (by kernel_rfl) (by kernel_rfl) (by kernel_rfl) (congrArg some hc14476) rfl rfl (v := V.int .i64 a0_2031.Pc) (fun _ hz => (.load rfl rfl (.box (hz _ _ rfl rfl) rfl) rfl)) ?_
          refine okG h (fun hb14477 h => ?_)
          refine DAny.take (i := 9) rfl (by kernel_rfl) [] (by kernel_rfl) (by kernel_rfl) (by kernel_rfl) (congrArg some hc14476) rfl rfl (v := V.spt 3 (rws api_Instr.cells a1_2032) (Int.toNat a0_2031.Pc) 0) (fun _ hz => (.idxSlM (f := api_Instr.cells) rfl rfl rfl rfl rfl hb14477)) ?_
          refine DAny.take (i := 10) rfl (by kernel_rfl) [] (by kernel_rfl) (by kernel_rfl) (by kernel_rfl) (congrArg some hc14476) rfl rfl (v := V.spt 3 (rws api_Instr.cells a1_2032) (Int.toNat a0_2031.Pc) 0) (fun _ hz => (.fn rfl)) ?_
          refine DAny.take (i := 11) rfl (by kernel_rfl) [] (by kernel_rfl) (by kernel_rfl) (by kernel_rfl) (congrArg some hc14476) rfl rfl (v := V.int .i64 ((gt a1_2032 a0_2031.Pc).Op)) (fun _ hz => (.load rfl rfl (.sptM (f := api_Instr.cells) hb14477 rfl) rfl)) ?_
          refine DAny.take (i := 12) rfl (by kernel_rfl) [] (by kernel_rfl) (by kernel_rfl) (by kernel_rfl) (congrArg some hc14476) rfl rfl (v := V.bool (((gt a1_2032 a0_2031.Pc).Op) == 1)) (fun _ hz => (.fn rfl)) ?_
          refine DAny.take (i := 13) rfl (by kernel_rfl) [] (by kernel_rfl) (by kernel_rfl) (by kernel_rfl) rfl rfl rfl (v := V.bool (((gt a1_2032 a0_2031.Pc).Op) == 1)) (fun _ hz => (.pickK rfl hc14476 rfl)) ?_
          refine DAny.take (i := 14) rfl (by kernel_rfl) [] (by kernel_rfl) (by kernel_rfl) (by kernel_rfl) rfl rfl rfl (v := V.bool (((gt a1_2032 a0_2031.Pc).Op) == 1)) (fun _ hz => (.fn rfl)) ?_
          refine ifG h (fun hc14478 h => ?_) (fun hc14478 h => ?_)
          · skip
            refine DAny.take (i := 15) rfl (by kernel_rfl) [] (by kernel_rfl) (by kernel_rfl) (by kernel_rfl) (congrArg some hc14478) rfl rfl (v := V.ptr [2] 0 4) (fun _ hz => (.fn rfl)) ?_
            refine DAny.take (i := 16) rfl (by kernel_rfl) [] (by kernel_rfl) (by kernel_rfl) (by kernel_rfl) (congrArg some hc14478) rfl rfl (v := V.int .i64 a0_2031.Unit) (fun _ hz => (.load rfl rfl (.box (hz _ _ rfl rfl) rfl) rfl)) ?_
            refine DAny.take (i := 17) rfl (by kernel_rfl) [] (by kernel_rfl) (by kernel_rfl) (by kernel_rfl) (congrArg some hc14478) rfl rfl (v := V.sl 3 (rws api_Instr.cells a1_2032)) (fun _ hz => (.fn rfl)) ?_
            refine DAny.take (i := 18) rfl (by kernel_rfl) [] (by kernel_rfl) (by kernel_rfl) (by kernel_rfl) (congrArg some hc14478) rfl rfl (v := V.ptr [2] 0 3) (fun _ hz => (.fn rfl)) ?_
            refine DAny.take (i := 19) rfl (by kernel_rfl) [] (by kernel_rfl) (by kernel_rfl) (by kernel_rfl) (congrArg some hc14478) rfl rfl (v := V.int .i64 a0_2031.Pc) (fun _ hz => (.load rfl rfl (.box (hz _ _ rfl rfl) rfl) rfl)) ?_
            refine okG h (fun hb14479 h => ?_)
            refine DAny.take (i := 20) rfl (by kernel_rfl) [] (by kernel_rfl) (by kernel_rfl) (by kernel_rfl) (congrArg some hc14478) rfl rfl (v := V.spt 3 (rws api_Instr.cells a1_2032) (Int.toNat a0_2031.Pc) 0) (fun _ hz => (.idxSlM (f := api_Instr.cells) rfl rfl rfl rfl rfl hb14479)) ?_
            refine DAny.take (i := 21) rfl (by kernel_rfl) [] (by kernel_rfl) (by kernel_rfl) (by kernel_rfl) (congrArg some hc14478) rfl rfl (v := V.spt 3 (rws api_Instr.cells a1_2032) (Int.toNat a0_2031.Pc) 1) (fun _ hz => (.fn rfl)) ?_
            refine DAny.take (i := 22) rfl (by kernel_rfl) [] (by kernel_rfl) (by kernel_rfl) (by kernel_rfl) (congrArg some hc14478) rfl rfl (v := V.int .i64 ((gt a1_2032 a0_2031.Pc).A)) (fun _ hz => (.load rfl rfl (.sptM (f := api_Instr.cells) hb14479 rfl) rfl)) ?_
            refine DAny.take (i := 23) rfl (by kernel_rfl) [] (by kernel_rfl) (by kernel_rfl) (by kernel_rfl) (congrArg some hc14478) rfl rfl (v := V.bool (decide (a0_2031.Unit < ((gt a1_2032 a0_2031.Pc).A)))) (fun _ hz => (.fn rfl)) ?_
            refine DAny.take (i := 24) rfl (by kernel_rfl) [] (by kernel_rfl) (by kernel_rfl) (by kernel_rfl) rfl rfl rfl (v := V.bool (decide (a0_2031.Unit < ((gt a1_2032 a0_2031.Pc).A)))) (fun _ hz => (.pickK rfl hc14478 rfl)) ?_
            refine DAny.take (i := 25) rfl (by kernel_rfl) [] (by kernel_rfl) (by kernel_rfl) (by kernel_rfl) rfl rfl rfl (v := V.bool (decide (a0_2031.Unit < ((gt a1_2032 a0_2031.Pc).A)))) (fun _ hz => (.fn rfl)) ?_
            refine DAny.nil (by kernel_rfl) ?_
            repeat (first | refine Safe.seq ?_ | refine Safe.skip ?_ | with_reducible refine thenQ.n ?_ | with_reducible refine blockQ.n ?_)
            refine Safe.ret ?_
            repeat (first | with_reducible refine thenQ.r ?_ | with_reducible refine blockQ.r ?_)
            obtain rfl := Option.some.inj h
            exact retQ.gen (vs := [V.bool (decide (a0_2031.Unit < ((gt a1_2032 a0_2031.Pc).A)))]) rfl (.tmp (v := V.bool (decide (a0_2031.Unit < ((gt a1_2032 a0_2031.Pc).A)))) rfl .nil) (.free rfl) (by simp) (.inr rfl)
          · skip
            refine DAny.takeSkip (i := 15) rfl (by kernel_rfl) [] (by kernel_rfl) (by kernel_rfl) (by kernel_rfl) (congrArg some hc14478) rfl rfl ?_
            refine DAny.takeSkip (i := 16) rfl (by kernel_rfl) [] (by kernel_rfl) (by kernel_rfl) (by kernel_rfl) (congrArg some hc14478) rfl rfl ?_
            refine DAny.takeSkip (i := 17) rfl (by kernel_rfl) [] (by kernel_rfl) (by kernel_rfl) (by kernel_rfl) (congrArg some hc14478) rfl rfl ?_
            refine DAny.takeSkip (i := 18) rfl (by kernel_rfl) [] (by kernel_rfl) (by kernel_rfl) (by kernel_rfl) (congrArg some hc14478) rfl rfl ?_
            refine DAny.takeSkip (i := 19) rfl (by kernel_rfl) [] (by kernel_rfl) (by kernel_rfl) (by kernel_rfl) (congrArg some hc14478) rfl rfl ?_
            refine DAny.takeSkip (i := 20) rfl (by kernel_rfl) [] (by kernel_rfl) (by kernel_rfl) (by kernel_rfl) (congrArg some hc14478) rfl rfl ?_
            refine DAny.takeSkip (i := 21) rfl (by kernel_rfl) [] (by kernel_rfl) (by kernel_rfl) (by kernel_rfl) (congrArg some hc14478) rfl rfl ?_
            refine DAny.takeSkip (i := 22) rfl (by kernel_rfl) [] (by kernel_rfl) (by kernel_rfl) (by kernel_rfl) (congrArg some hc14478) rfl rfl ?_
            refine DAny.takeSkip (i := 23) rfl (by kernel_rfl) [] (by kernel_rfl) (by kernel_rfl) (by kernel_rfl) (congrArg some hc14478) rfl rfl ?_
            refine DAny.take (i := 24) rfl (by kernel_rfl) [] (by kernel_rfl) (by kernel_rfl) (by kernel_rfl) rfl rfl rfl (v := V.bool false) (fun _ hz => (.pickK rfl hc14478 rfl)) ?_
            refine DAny.take (i := 25) rfl (by kernel_rfl) [] (by kernel_rfl) (by kernel_rfl) (by kernel_rfl) rfl rfl rfl (v := V.bool false) (fun _ hz => (.fn rfl)) ?_
            refine DAny.nil (by kernel_rfl) ?_
            repeat (first | refine Safe.seq ?_ | refine Safe.skip ?_ | with_reducible refine thenQ.n ?_ | with_reducible refine blockQ.n ?_)
            refine Safe.ret ?_
            repeat (first | with_reducible refine thenQ.r ?_ | with_reducible refine blockQ.r ?_)
            obtain rfl := Option.some.inj h
            exact retQ.gen (vs := [V.bool false]) rfl (.tmp (v := V.bool false) rfl .nil) (.free rfl) (by simp) (.inr rfl)
        · skip
          refine DAny.takeSkip (i := 6) rfl (by kernel_rfl) [] (by kernel_rfl) (by kernel_rfl) (by kernel_rfl) (congrArg some hc14476) rfl rfl ?_
          refine DAny.takeSkip (i := 7) rfl (by kernel_rfl) [] (by kernel_rfl) (by kernel_rfl) (by kernel_rfl) (congrArg some hc14476) rfl rfl ?_
          refine DAny.takeSkip (i := 8) rfl (by kernel_rfl) [] (by kernel_rfl) (by kernel_rfl) (by kernel_rfl) (congrArg some hc14476) rfl rfl ?_
          refine DAny.takeSkip (i := 9) rfl (by kernel_rfl) [] (by kernel_rfl) (by kernel_rfl) (by kernel_rfl) (congrArg some hc14476) rfl rfl ?_
          refine DAny.takeSkip (i := 10) rfl (by kernel_rfl) [] (by kernel_rfl) (by kernel_rfl) (by kernel_rfl) (congrArg some hc14476) rfl rfl ?_
          refine DAny.takeSkip (i := 11) rfl (by kernel_rfl) [] (by kernel_rfl) (by kernel_rfl) (by kernel_rfl) (congrArg some hc14476) rfl rfl ?_
          refine DAny.takeSkip (i := 12) rfl (by kernel_rfl) [] (by kernel_rfl) (by kernel_rfl) (by kernel_rfl) (congrArg some hc14476) rfl rfl ?_
          refine DAny.take (i := 13) rfl (by kernel_rfl) [] (by kernel_rfl) (by kernel_rfl) (by kernel_rfl) rfl rfl rfl (v := V.bool false) (fun _ hz => (.pickK rfl hc14476 rfl)) ?_
          refine DAny.take (i := 14) rfl (by kernel_rfl) [] (by kernel_rfl) (by kernel_rfl) (by kernel_rfl) rfl rfl rfl (v := V.bool false) (fun _ hz => (.fn rfl)) ?_
          refine DAny.takeSkip (i := 15) rfl (by kernel_rfl) [] (by kernel_rfl) (by kernel_rfl) (by kernel_rfl) rfl rfl rfl ?_
          refine DAny.takeSkip (i := 16) rfl (by kernel_rfl) [] (by kernel_rfl) (by kernel_rfl) (by kernel_rfl) rfl rfl rfl ?_
          refine DAny.takeSkip (i := 17) rfl (by kernel_rfl) [] (by kernel_rfl) (by kernel_rfl) (by kernel_rfl) rfl rfl rfl ?_
          refine DAny.takeSkip (i := 18) rfl (by kernel_rfl) [] (by kernel_rfl) (by kernel_rfl) (by kernel_rfl) rfl rfl rfl ?_
          refine DAny.takeSkip (i := 19) rfl (by kernel_rfl) [] (by kernel_rfl) (by kernel_rfl) (by kernel_rfl) rfl rfl rfl ?_
          refine DAny.takeSkip (i := 20) rfl (by kernel_rfl) [] (by kernel_rfl) (by kernel_rfl) (by kernel_rfl) rfl rfl rfl ?_
          refine DAny.takeSkip (i := 21) rfl (by kernel_rfl) [] (by kernel_rfl) (by kernel_rfl) (by kernel_rfl) rfl rfl rfl ?_
          refine DAny.takeSkip (i := 22) rfl (by kernel_rfl) [] (by kernel_rfl) (by kernel_rfl) (by kernel_rfl) rfl rfl rfl ?_
          refine DAny.takeSkip (i := 23) rfl (by kernel_rfl) [] (by kernel_rfl) (by kernel_rfl) (by kernel_rfl) rfl rfl rfl ?_
          refine DAny.take (i := 24) rfl (by kernel_rfl) [] (by kernel_rfl) (by kernel_rfl) (by kernel_rfl) rfl rfl rfl (v := V.bool false) (fun _ hz => (.pickK rfl rfl rfl)) ?_
          refine DAny.take (i := 25) rfl (by kernel_rfl) [] (by kernel_rfl) (by kernel_rfl) (by kernel_rfl) rfl rfl rfl (v := V.bool false) (fun _ hz => (.fn rfl)) ?_
          refine DAny.nil (by kernel_rfl) ?_
          repeat (first | refine Safe.seq ?_ | refine Safe.skip ?_ | with_reducible refine thenQ.n ?_ | with_reducible refine blockQ.n ?_)
          refine Safe.ret ?_
          repeat (first | with_reducible refine thenQ.r ?_ | with_reducible refine blockQ.r ?_)
          obtain rfl := Option.some.inj h
          exact retQ.gen (vs := [V.bool false]) rfl (.tmp (v := V.bool false) rfl .nil) (.free rfl) (by simp) (.inr rfl)

noncomputable def go_ravelref13_Next (a0_2029 : api_Task) (a1_2030 : List api_Instr) : Option (api_Instr × Int) :=
  (go_ravelref13_Fits a0_2029 a1_2030).bind fun x_14487 =>
  if (!x_14487) = true then
    some (api_Instr.zero, 1)
  else
    if (a0_2029.Pc == (a1_2030.length : Int)) = true then
      some ((api_Instr.mk 9 0 0), 0)
    else
      if 0 ≤ a0_2029.Pc ∧ a0_2029.Pc < (a1_2030.length : Int) then
        some ((gt a1_2030 a0_2029.Pc), 0)
      else none

theorem go_ravelref13_Next_sc (a0_2029 : api_Task) (a1_2030 : List api_Instr) (r : api_Instr × Int) (h : go_ravelref13_Next a0_2029 a1_2030 = some r) : SC Tryd.prog gl 20 [V.agg [V.int .i64 a0_2029.Id, V.int .i64 a0_2029.Tenant, V.int .i64 a0_2029.Prog, V.int .i64 a0_2029.Pc, V.int .i64 a0_2029.Unit, V.int .i64 a0_2029.Keeps.a0, V.int .i64 a0_2029.Keeps.a1, V.int .i64 a0_2029.Keeps.a2, V.int .i64 a0_2029.Keeps.a3, V.int .i64 a0_2029.State, V.int .i64 a0_2029.Ran], V.sl 3 (rws api_Instr.cells a1_2030)] (V.tup [V.agg [V.int .i64 r.1.Op, V.int .i64 r.1.A, V.int .i64 r.1.B], V.int .i64 r.2]) := by
  rw [go_ravelref13_Next] at h
  refine SC.of E_good Tryd.func20 rfl (fun _ _ => Tryd.call20 _ _) rfl ?_
  repeat (first | refine Safe.seq ?_ | refine Safe.skip ?_ | with_reducible refine thenQ.n ?_ | with_reducible refine blockQ.n ?_)
  refine Safe.region ?_
  refine SafeOps.quiet1 E_good rfl rfl rfl (.box rfl rfl) rfl ?_
  refine SafeOps.quiet1 E_good rfl rfl rfl (.alloc rfl rfl) rfl ?_
  refine SafeOps.quiet0 E_good rfl rfl rfl (v := V.int .i64 0) (.fn rfl) ?_
  refine SafeOps.nil ?_
  repeat (first | refine Safe.seq ?_ | refine Safe.skip ?_ | with_reducible refine thenQ.n ?_ | with_reducible refine blockQ.n ?_)
  refine Safe.region ?_
  refine SafeOps.quiet0 E_good rfl rfl rfl (v := V.agg [V.int .i64 a0_2029.Id, V.int .i64 a0_2029.Tenant, V.int .i64 a0_2029.Prog, V.int .i64 a0_2029.Pc, V.int .i64 a0_2029.Unit, V.int .i64 a0_2029.Keeps.a0, V.int .i64 a0_2029.Keeps.a1, V.int .i64 a0_2029.Keeps.a2, V.int .i64 a0_2029.Keeps.a3, V.int .i64 a0_2029.State, V.int .i64 a0_2029.Ran]) (.load rfl rfl (.box rfl rfl) rfl) ?_
  refine SafeOps.quiet0 E_good rfl rfl rfl (v := V.sl 3 (rws api_Instr.cells a1_2030)) (.fn rfl) ?_
  refine bindG h ?_
  intro x_14487 he14488 h
  refine SafeOps.quiet0 E_good rfl rfl rfl (v := V.bool x_14487) (.callP rfl rfl (go_ravelref13_Fits_sc a0_2029 a1_2030 _ he14488) rfl) ?_
  refine SafeOps.quiet0 E_good rfl rfl rfl (v := V.bool (!x_14487)) (.fn rfl) ?_
  refine SafeOps.nil ?_
  repeat (first | refine Safe.seq ?_ | refine Safe.skip ?_ | with_reducible refine thenQ.n ?_ | with_reducible refine blockQ.n ?_)
  refine ifG h (fun hc14489 h => ?_) (fun hc14489 h => ?_)
  · skip
    refine Safe.condK rfl hc14489 ?_
    repeat (first | refine Safe.seq ?_ | refine Safe.skip ?_ | with_reducible refine thenQ.n ?_ | with_reducible refine blockQ.n ?_)
    refine Safe.region ?_
    refine SafeOps.quiet0 E_good rfl rfl rfl (v := V.agg [V.int .i64 0, V.int .i64 0, V.int .i64 0]) (.fn rfl) ?_
    refine SafeOps.store (z := Obj.box [V.int .i64 0, V.int .i64 0, V.int .i64 0]) E_good rfl rfl rfl rfl rfl rfl rfl (.boxM (c := 3) rfl rfl (Nat.le_of_ble_eq_true rfl) rfl) ?_
    refine SafeOps.quiet0 E_good rfl rfl rfl (v := V.int .i64 1) (.fn rfl) ?_
    refine SafeOps.nil ?_
    repeat (first | refine Safe.seq ?_ | refine Safe.skip ?_ | with_reducible refine thenQ.n ?_ | with_reducible refine blockQ.n ?_)
    refine Safe.ret ?_
    repeat (first | with_reducible refine thenQ.r ?_ | with_reducible refine blockQ.r ?_)
    obtain rfl := Option.some.inj h
    exact retQ.gen (vs := [V.agg [V.int .i64 0, V.int .i64 0, V.int .i64 0], V.int .i64 1]) rfl (.cell (v := V.agg [V.int .i64 0, V.int .i64 0, V.int .i64 0]) rfl rfl (.box rfl rfl) rfl (.tmp (v := V.int .i64 1) rfl .nil)) (.free rfl) (by simp) (.inr rfl)
  · skip
    refine Safe.condN rfl hc14489 ?_
    repeat (first | refine Safe.seq ?_ | refine Safe.skip ?_ | with_reducible refine thenQ.n ?_ | with_reducible refine blockQ.n ?_)
    refine Safe.region ?_
    refine SafeOps.quiet0 E_good rfl rfl rfl (v := V.ptr [2] 0 3) (.fn rfl) ?_
    refine SafeOps.quiet0 E_good rfl rfl rfl (v := V.int .i64 a0_2029.Pc) (.load rfl rfl (.box rfl rfl) rfl) ?_
    refine SafeOps.quiet0 E_good rfl rfl rfl (v := V.sl 3 (rws api_Instr.cells a1_2030)) (.fn rfl) ?_
    refine SafeOps.quiet0 E_good rfl rfl rfl (v := V.int .i64 (a1_2030.length : Int)) (.fnE rfl lenE) ?_
    refine SafeOps.quiet0 E_good rfl rfl rfl (v := V.bool (a0_2029.Pc == (a1_2030.length : Int))) (.fn rfl) ?_
    refine SafeOps.nil ?_
    repeat (first | refine Safe.seq ?_ | refine Safe.skip ?_ | with_reducible refine thenQ.n ?_ | with_reducible refine blockQ.n ?_)
    refine ifG h (fun hc14490 h => ?_) (fun hc14490 h => ?_)
    · skip
      refine Safe.condK rfl hc14490 ?_
      repeat (first | refine Safe.seq ?_ | refine Safe.skip ?_ | with_reducible refine thenQ.n ?_ | with_reducible refine blockQ.n ?_)
      refine Safe.region ?_
      refine SafeOps.quiet0 E_good rfl rfl rfl (v := V.agg [V.int .i64 9, V.int .i64 0, V.int .i64 0]) (.fn rfl) ?_
      refine SafeOps.store (z := Obj.box [V.int .i64 9, V.int .i64 0, V.int .i64 0]) E_good rfl rfl rfl rfl rfl rfl rfl (.boxM (c := 3) rfl rfl (Nat.le_of_ble_eq_true rfl) rfl) ?_
      refine SafeOps.quiet0 E_good rfl rfl rfl (v := V.int .i64 0) (.fn rfl) ?_
      refine SafeOps.nil ?_
      repeat (first | refine Safe.seq ?_ | refine Safe.skip ?_ | with_reducible refine thenQ.n ?_ | with_reducible refine blockQ.n ?_)
      refine Safe.ret ?_
      repeat (first | with_reducible refine thenQ.r ?_ | with_reducible refine blockQ.r ?_)
      obtain rfl := Option.some.inj h
      exact retQ.gen (vs := [V.agg [V.int .i64 9, V.int .i64 0, V.int .i64 0], V.int .i64 0]) rfl (.cell (v := V.agg [V.int .i64 9, V.int .i64 0, V.int .i64 0]) rfl rfl (.box rfl rfl) rfl (.tmp (v := V.int .i64 0) rfl .nil)) (.free rfl) (by simp) (.inr rfl)
    · skip
      refine Safe.condN rfl hc14490 ?_
      repeat (first | refine Safe.seq ?_ | refine Safe.skip ?_ | with_reducible refine thenQ.n ?_ | with_reducible refine blockQ.n ?_)
      refine Safe.region ?_
      refine SafeOps.quiet0 E_good rfl rfl rfl (v := V.sl 3 (rws api_Instr.cells a1_2030)) (.fn rfl) ?_
      refine SafeOps.quiet0 E_good rfl rfl rfl (v := V.ptr [2] 0 3) (.fn rfl) ?_
      refine SafeOps.quiet0 E_good rfl rfl rfl (v := V.int .i64 a0_2029.Pc) (.load rfl rfl (.box rfl rfl) rfl) ?_
      refine okG h (fun hb14491 h => ?_)
      refine SafeOps.quiet0 E_good rfl rfl rfl (v := V.spt 3 (rws api_Instr.cells a1_2030) (Int.toNat a0_2029.Pc) 0) (.idxSlM (f := api_Instr.cells) rfl rfl rfl rfl rfl hb14491) ?_
      refine SafeOps.quiet0 E_good rfl rfl rfl (v := V.agg [V.int .i64 ((gt a1_2030 a0_2029.Pc).Op), V.int .i64 ((gt a1_2030 a0_2029.Pc).A), V.int .i64 ((gt a1_2030 a0_2029.Pc).B)]) (.load rfl rfl (.sptM (f := api_Instr.cells) hb14491 rfl) rfl) ?_
      refine SafeOps.store (z := Obj.box [V.int .i64 ((gt a1_2030 a0_2029.Pc).Op), V.int .i64 ((gt a1_2030 a0_2029.Pc).A), V.int .i64 ((gt a1_2030 a0_2029.Pc).B)]) E_good rfl rfl rfl rfl rfl rfl rfl (.boxM (c := 3) rfl rfl (Nat.le_of_ble_eq_true rfl) rfl) ?_
      refine SafeOps.quiet0 E_good rfl rfl rfl (v := V.int .i64 0) (.fn rfl) ?_
      refine SafeOps.nil ?_
      repeat (first | refine Safe.seq ?_ | refine Safe.skip ?_ | with_reducible refine thenQ.n ?_ | with_reducible refine blockQ.n ?_)
      refine Safe.ret ?_
      repeat (first | with_reducible refine thenQ.r ?_ | with_reducible refine blockQ.r ?_)
      obtain rfl := Option.some.inj h
      exact retQ.gen (vs := [V.agg [V.int .i64 ((gt a1_2030 a0_2029.Pc).Op), V.int .i64 ((gt a1_2030 a0_2029.Pc).A), V.int .i64 ((gt a1_2030 a0_2029.Pc).B)], V.int .i64 0]) rfl (.cell (v := V.agg [V.int .i64 ((gt a1_2030 a0_2029.Pc).Op), V.int .i64 ((gt a1_2030 a0_2029.Pc).A), V.int .i64 ((gt a1_2030 a0_2029.Pc).B)]) rfl rfl (.box rfl rfl) rfl (.tmp (v := V.int .i64 0) rfl .nil)) (.free rfl) (by simp) (.inr rfl)
end Go.Proofs.YtlekpilcgahaoaaDoor
