/- Helper lemmas for the claim's theorem: an abstract machine over the model, proved sound; no condition beyond each lemma's own. -/
import Derived.Test.YtbcapidhhbkkcaaT1
set_option linter.unusedVariables false
set_option linter.unusedSimpArgs false
set_option linter.unnecessarySimpa false
set_option linter.unusedSectionVars false
namespace Go.Proofs.Ytbcapidhhbkkcaa
open Go Go.AM
set_option maxRecDepth 100000
set_option maxHeartbeats 1000000
set_option linter.unusedVariables false
set_option linter.unusedSimpArgs false
variable {gl : List (Nat × List V)}
noncomputable def go_ravellaw08_HeapLeast_s2 (x_2046 : Bool) (x_2050 : List api_Timer) : ((List api_Timer) × Int) → Option (((List api_Timer) × Int) ⊕ (Bool))
  | (v6_2116, v33_2117) =>
    if (decide (v33_2117 < (x_2050.length : Int))) = true then
      if 0 ≤ v33_2117 ∧ v33_2117 < (x_2050.length : Int) then
        (go_heap_Least v6_2116).bind fun (x_2121, x_2122) =>
        (go_heap_Cancel v6_2116 x_2121.Id).bind fun (x_2124, x_2125) =>
        if (((x_2122 != 0) || (x_2125 != 0)) || (!(api_Timer.beq x_2121 (gt x_2050 v33_2117)))) = true then
          inrO (
            some false)
        else
          nextO (x_2124, IntKind.i64.wrap (v33_2117 + 1))
      else none
    else
      inrO (
        (go_heap_Least v6_2116).bind fun (x_2130, x_2131) =>
        some ((x_2046 && (x_2131 == 5)) && ((v6_2116.length : Int) == 0)))

noncomputable def go_ravellaw08_HeapLeast (a0_1917 : List api_Timer) : Option Bool :=
  (go_ravellaw08_live).bind fun x_2046 =>
  if (!x_2046) = true then
    some false
  else
    if (decide ((a0_1917.length : Int) > 300)) = true then
      some x_2046
    else
      (go_heap_Sorted a0_1917).bind fun (x_2050, x_2051) =>
      if (x_2051 != 0) = true then
        some x_2046
      else
        whileO (go_ravellaw08_HeapLeast_s2 x_2046 x_2050) (a0_1917, 0)

theorem go_ravellaw08_HeapLeast_sc (a0_1917 : List api_Timer) (r : Bool) (h : go_ravellaw08_HeapLeast a0_1917 = some r) : SC Try.prog gl 5 [V.sl 2 (rws api_Timer.cells a0_1917)] (V.bool r) := by
  rw [go_ravellaw08_HeapLeast] at h
  refine SC.of E_good Try.func5 rfl (fun _ _ => Try.call5 _ _) rfl ?_
  repeat (first | refine Safe.seq ?_ | refine Safe.skip ?_ | with_reducible refine thenQ.n ?_ | with_reducible refine blockQ.n ?_)
  refine Safe.region ?_
  refine SafeOps.quiet0 E_good rfl rfl rfl (v := V.bool false) (.fn rfl) ?_
  refine SafeOps.nil ?_
  repeat (first | refine Safe.seq ?_ | refine Safe.skip ?_ | with_reducible refine thenQ.n ?_ | with_reducible refine blockQ.n ?_)
  refine Safe.region ?_
  refine bindG h ?_
  intro x_2046 he2047 h
  refine SafeOps.quiet0 E_good rfl rfl rfl (v := V.bool x_2046) (.callP rfl rfl (go_ravellaw08_live_sc  _ he2047) rfl) ?_
  refine SafeOps.quiet0 E_good rfl rfl rfl (v := V.bool x_2046) (.fn rfl) ?_
  refine SafeOps.nil ?_
  repeat (first | refine Safe.seq ?_ | refine Safe.skip ?_ | with_reducible refine thenQ.n ?_ | with_reducible refine blockQ.n ?_)
  refine Safe.region ?_
  refine SafeOps.quiet0 E_good rfl rfl rfl (v := V.bool x_2046) (.fn rfl) ?_
  refine SafeOps.quiet0 E_good rfl rfl rfl (v := V.bool (!x_2046)) (.fn rfl) ?_
  refine SafeOps.nil ?_
  repeat (first | refine Safe.seq ?_ | refine Safe.skip ?_ | with_reducible refine thenQ.n ?_ | with_reducible refine blockQ.n ?_)
  refine ifG h (fun hc2048 h => ?_) (fun hc2048 h => ?_)
  · skip
    refine Safe.condK rfl hc2048 ?_
    repeat (first | refine Safe.seq ?_ | refine Safe.skip ?_ | with_reducible refine thenQ.n ?_ | with_reducible refine blockQ.n ?_)
    refine Safe.region ?_
    refine SafeOps.quiet0 E_good rfl rfl rfl (v := V.bool false) (.fn rfl) ?_
    refine SafeOps.nil ?_
    repeat (first | refine Safe.seq ?_ | refine Safe.skip ?_ | with_reducible refine thenQ.n ?_ | with_reducible refine blockQ.n ?_)
    refine Safe.ret ?_
    repeat (first | with_reducible refine thenQ.r ?_ | with_reducible refine blockQ.r ?_)
    obtain rfl := Option.some.inj h
    exact retQ.gen (vs := [V.bool false]) rfl (.tmp (v := V.bool false) rfl .nil) (.free rfl) (by simp) (.inr rfl)
  · skip
    refine Safe.condN rfl hc2048 ?_
    repeat (first | refine Safe.seq ?_ | refine Safe.skip ?_ | with_reducible refine thenQ.n ?_ | with_reducible refine blockQ.n ?_)
    refine Safe.region ?_
    refine SafeOps.quiet0 E_good rfl rfl rfl (v := V.sl 2 (rws api_Timer.cells a0_1917)) (.fn rfl) ?_
    refine SafeOps.quiet0 E_good rfl rfl rfl (v := V.int .i64 (a0_1917.length : Int)) (.fnE rfl lenE) ?_
    refine SafeOps.quiet0 E_good rfl rfl rfl (v := V.bool (decide ((a0_1917.length : Int) > 300))) (.fn rfl) ?_
    refine SafeOps.nil ?_
    repeat (first | refine Safe.seq ?_ | refine Safe.skip ?_ | with_reducible refine thenQ.n ?_ | with_reducible refine blockQ.n ?_)
    refine ifG h (fun hc2049 h => ?_) (fun hc2049 h => ?_)
    · skip
      refine Safe.condK rfl hc2049 ?_
      repeat (first | refine Safe.seq ?_ | refine Safe.skip ?_ | with_reducible refine thenQ.n ?_ | with_reducible refine blockQ.n ?_)
      refine Safe.region ?_
      refine SafeOps.quiet0 E_good rfl rfl rfl (v := V.bool x_2046) (.fn rfl) ?_
      refine SafeOps.quiet0 E_good rfl rfl rfl (v := V.bool x_2046) (.fn rfl) ?_
      refine SafeOps.nil ?_
      repeat (first | refine Safe.seq ?_ | refine Safe.skip ?_ | with_reducible refine thenQ.n ?_ | with_reducible refine blockQ.n ?_)
      refine Safe.ret ?_
      repeat (first | with_reducible refine thenQ.r ?_ | with_reducible refine blockQ.r ?_)
      obtain rfl := Option.some.inj h
      exact retQ.gen (vs := [V.bool x_2046]) rfl (.tmp (v := V.bool x_2046) rfl .nil) (.free rfl) (by simp) (.inr rfl)
    · skip
      refine Safe.condN rfl hc2049 ?_
      repeat (first | refine Safe.seq ?_ | refine Safe.skip ?_ | with_reducible refine thenQ.n ?_ | with_reducible refine blockQ.n ?_)
      refine Safe.region ?_
      refine SafeOps.quiet0 E_good rfl rfl rfl (v := V.sl 2 (rws api_Timer.cells a0_1917)) (.fn rfl) ?_
      refine bindG h ?_
      rintro ⟨x_2050, x_2051⟩ he2052 h
      refine SafeOps.quiet E_good rfl rfl rfl (v := V.tup [V.ref [24, 0] 0 (rws api_Timer.cells x_2050).length, V.int .i64 x_2051]) (.callP rfl rfl (go_heap_Sorted_sc a0_1917 _ he2052) rfl) rfl ?_
      refine SafeOps.quiet0 E_good rfl rfl rfl (v := V.tup [V.ref [24, 0] 0 (rws api_Timer.cells x_2050).length, V.int .i64 x_2051]) (.fn rfl) ?_
      refine SafeOps.quiet0 E_good rfl rfl rfl (v := V.ref [24, 0] 0 (rws api_Timer.cells x_2050).length) (.fn rfl) ?_
      refine SafeOps.quiet0 E_good rfl rfl rfl (v := V.int .i64 x_2051) (.fn rfl) ?_
      refine SafeOps.quiet0 E_good rfl rfl rfl (v := V.ref [24, 0] 0 (rws api_Timer.cells x_2050).length) (.fn rfl) ?_
      refine SafeOps.quiet0 E_good rfl rfl rfl (v := V.int .i64 x_2051) (.fn rfl) ?_
      refine SafeOps.nil ?_
      repeat (first | refine Safe.seq ?_ | refine Safe.skip ?_ | with_reducible refine thenQ.n ?_ | with_reducible refine blockQ.n ?_)
      refine Safe.region ?_
      refine SafeOps.quiet0 E_good rfl rfl rfl (v := V.int .i64 x_2051) (.fn rfl) ?_
      refine SafeOps.quiet0 E_good rfl rfl rfl (v := V.bool (x_2051 != 0)) (.fn rfl) ?_
      refine SafeOps.nil ?_
      repeat (first | refine Safe.seq ?_ | refine Safe.skip ?_ | with_reducible refine thenQ.n ?_ | with_reducible refine blockQ.n ?_)
      refine ifG h (fun hc2053 h => ?_) (fun hc2053 h => ?_)
      · skip
        refine Safe.condK rfl hc2053 ?_
        repeat (first | refine Safe.seq ?_ | refine Safe.skip ?_ | with_reducible refine thenQ.n ?_ | with_reducible refine blockQ.n ?_)
        refine Safe.region ?_
        refine SafeOps.quiet0 E_good rfl rfl rfl (v := V.bool x_2046) (.fn rfl) ?_
        refine SafeOps.quiet0 E_good rfl rfl rfl (v := V.bool x_2046) (.fn rfl) ?_
        refine SafeOps.nil ?_
        repeat (first | refine Safe.seq ?_ | refine Safe.skip ?_ | with_reducible refine thenQ.n ?_ | with_reducible refine blockQ.n ?_)
        refine Safe.ret ?_
        repeat (first | with_reducible refine thenQ.r ?_ | with_reducible refine blockQ.r ?_)
        obtain rfl := Option.some.inj h
        exact retQ.gen (vs := [V.bool x_2046]) rfl (.tmp (v := V.bool x_2046) rfl .nil) (.free rfl) (by simp) (.inr rfl)
      · skip
        refine Safe.condN rfl hc2053 ?_
        repeat (first | refine Safe.seq ?_ | refine Safe.skip ?_ | with_reducible refine thenQ.n ?_ | with_reducible refine blockQ.n ?_)
        refine Safe.region ?_
        refine SafeOps.quiet0 E_good rfl rfl rfl (v := V.sl 2 (rws api_Timer.cells a0_1917)) (.fn rfl) ?_
        refine SafeOps.quiet0 E_good rfl rfl rfl (v := V.sl 2 (rws api_Timer.cells a0_1917)) (.fn rfl) ?_
        refine SafeOps.nil ?_
        repeat (first | refine Safe.seq ?_ | refine Safe.skip ?_ | with_reducible refine thenQ.n ?_ | with_reducible refine blockQ.n ?_)
        refine Safe.region ?_
        refine SafeOps.quiet0 E_good rfl rfl rfl (v := V.ref [24, 0] 0 (rws api_Timer.cells x_2050).length) (.fn rfl) ?_
        refine SafeOps.quiet0 E_good rfl rfl rfl (v := V.int .i64 (x_2050.length : Int)) (.fnE rfl lenE) ?_
        refine SafeOps.quiet0 E_good rfl rfl rfl (v := V.int .i64 0) (.fn rfl) ?_
        refine SafeOps.nil ?_
        repeat (first | refine Safe.seq ?_ | refine Safe.skip ?_ | with_reducible refine thenQ.n ?_ | with_reducible refine blockQ.n ?_)
        refine Safe.block ?_
        repeat (first | refine Safe.seq ?_ | refine Safe.skip ?_ | with_reducible refine thenQ.n ?_ | with_reducible refine blockQ.n ?_)
        refine Safe.loopW (fun ((v6_2116, v33_2117) : (List api_Timer) × Int) => ⟨Try.f5.ntmps, [(3, V.bool x_2046), (6, V.sl 2 (rws api_Timer.cells v6_2116)), (31, V.ref [24, 0] 0 (rws api_Timer.cells x_2050).length), (32, V.int .i64 (x_2050.length : Int)), (33, V.int .i64 v33_2117)], [([24, 0], Obj.rows 2 (rws api_Timer.cells x_2050) false)], [], []⟩) h (.cov ⟨rfl, rfl, (upT_cons (.refl _) (upT_cons (.refl _) (upT_cons (.refl _) (upT_cons (.refl _) (upT_cons (.refl _) upT_nil))))), (upOb_cons rfl (.refl _) upOb_nil), upOut_nil, rfl⟩) ?_
        rintro ⟨v6_2116, v33_2117⟩ ohr2118 h hr2118
        replace h : go_ravellaw08_HeapLeast_s2 x_2046 x_2050 (v6_2116, v33_2117) = some ohr2118 := h
        rw [go_ravellaw08_HeapLeast_s2] at h
        repeat (first | refine Safe.seq ?_ | refine Safe.skip ?_ | with_reducible refine thenQ.n ?_ | with_reducible refine blockQ.n ?_)
        refine Safe.region ?_
        refine SafeOps.quiet0 E_good rfl rfl rfl (v := V.bool (decide (v33_2117 < (x_2050.length : Int)))) (.fn rfl) ?_
        refine SafeOps.nil ?_
        repeat (first | refine Safe.seq ?_ | refine Safe.skip ?_ | with_reducible refine thenQ.n ?_ | with_reducible refine blockQ.n ?_)
        refine ifG h (fun hc2119 h => ?_) (fun hc2119 h => ?_)
        · skip
          refine Safe.condK rfl hc2119 ?_
          repeat (first | refine Safe.seq ?_ | refine Safe.skip ?_ | with_reducible refine thenQ.n ?_ | with_reducible refine blockQ.n ?_)
          refine Safe.block ?_
          repeat (first | refine Safe.seq ?_ | refine Safe.skip ?_ | with_reducible refine thenQ.n ?_ | with_reducible refine blockQ.n ?_)
          refine Safe.region ?_
          refine okG h (fun hb2120 h => ?_)
          refine SafeOps.quiet0 E_good rfl rfl rfl (v := V.ptr [24, 0] (0 + Int.toNat v33_2117) 0) (.idxRefM (f := api_Timer.cells) (xs := x_2050) rfl rfl rfl rfl rfl rfl hb2120) ?_
          refine SafeOps.quiet0 E_good rfl rfl rfl (v := V.agg [V.int .i64 ((gt x_2050 v33_2117).At), V.int .i64 ((gt x_2050 v33_2117).Id)]) (.load rfl rfl (.rowsM (f := api_Timer.cells) (xs := x_2050) hb2120 rfl rfl) rfl) ?_
          refine SafeOps.quiet1 E_good rfl rfl rfl (.alloc rfl rfl) rfl ?_
          refine SafeOps.store (z := Obj.box [V.int .i64 ((gt x_2050 v33_2117).At), V.int .i64 ((gt x_2050 v33_2117).Id)]) E_good rfl rfl rfl rfl rfl rfl rfl (.boxM (c := 2) rfl rfl (Nat.le_of_ble_eq_true rfl) rfl) ?_
          refine SafeOps.nil ?_
          repeat (first | refine Safe.seq ?_ | refine Safe.skip ?_ | with_reducible refine thenQ.n ?_ | with_reducible refine blockQ.n ?_)
          refine Safe.region ?_
          refine SafeOps.quiet0 E_good rfl rfl rfl (v := V.sl 2 (rws api_Timer.cells v6_2116)) (.fn rfl) ?_
          refine bindG h ?_
          rintro ⟨x_2121, x_2122⟩ he2123 h
          refine SafeOps.quiet0 E_good rfl rfl rfl (v := V.tup [V.agg [V.int .i64 x_2121.At, V.int .i64 x_2121.Id], V.int .i64 x_2122]) (.callP rfl rfl (go_heap_Least_sc v6_2116 _ he2123) rfl) ?_
          refine SafeOps.quiet0 E_good rfl rfl rfl (v := V.tup [V.agg [V.int .i64 x_2121.At, V.int .i64 x_2121.Id], V.int .i64 x_2122]) (.fn rfl) ?_
          refine SafeOps.quiet0 E_good rfl rfl rfl (v := V.agg [V.int .i64 x_2121.At, V.int .i64 x_2121.Id]) (.fn rfl) ?_
          refine SafeOps.quiet0 E_good rfl rfl rfl (v := V.int .i64 x_2122) (.fn rfl) ?_
          refine SafeOps.quiet1 E_good rfl rfl rfl (.alloc rfl rfl) rfl ?_
          refine SafeOps.store (z := Obj.box [V.int .i64 x_2121.At, V.int .i64 x_2121.Id]) E_good rfl rfl rfl rfl rfl rfl rfl (.boxM (c := 2) rfl rfl (Nat.le_of_ble_eq_true rfl) rfl) ?_
          refine SafeOps.quiet0 E_good rfl rfl rfl (v := V.int .i64 x_2122) (.fn rfl) ?_
          refine SafeOps.nil ?_
          repeat (first | refine Safe.seq ?_ | refine Safe.skip ?_ | with_reducible refine thenQ.n ?_ | with_reducible refine blockQ.n ?_)
          refine Safe.region ?_
          refine SafeOps.quiet0 E_good rfl rfl rfl (v := V.sl 2 (rws api_Timer.cells v6_2116)) (.fn rfl) ?_
          refine SafeOps.quiet0 E_good rfl rfl rfl (v := V.ptr [9] 0 1) (.fn rfl) ?_
          refine SafeOps.quiet0 E_good rfl rfl rfl (v := V.int .i64 x_2121.Id) (.load rfl rfl (.box rfl rfl) rfl) ?_
          refine bindG h ?_
          rintro ⟨x_2124, x_2125⟩ he2126 h
          refine SafeOps.quiet E_good rfl rfl rfl (v := V.tup [V.ref [46, 0] 0 (rws api_Timer.cells x_2124).length, V.int .i64 x_2125]) (.callP rfl rfl (go_heap_Cancel_sc v6_2116 x_2121.Id _ he2126) rfl) rfl ?_
          refine SafeOps.quiet0 E_good rfl rfl rfl (v := V.tup [V.ref [46, 0] 0 (rws api_Timer.cells x_2124).length, V.int .i64 x_2125]) (.fn rfl) ?_
          refine SafeOps.quiet0 E_good rfl rfl rfl (v := V.ref [46, 0] 0 (rws api_Timer.cells x_2124).length) (.fn rfl) ?_
          refine SafeOps.quiet0 E_good rfl rfl rfl (v := V.int .i64 x_2125) (.fn rfl) ?_
          refine SafeOps.quiet0 E_good rfl rfl rfl (v := V.ref [46, 0] 0 (rws api_Timer.cells x_2124).length) (.fn rfl) ?_
          refine SafeOps.quiet0 E_good rfl rfl rfl (v := V.int .i64 x_2125) (.fn rfl) ?_
          refine SafeOps.nil ?_
          repeat (first | refine Safe.seq ?_ | refine Safe.skip ?_ | with_reducible refine thenQ.n ?_ | with_reducible refine blockQ.n ?_)
          refine Safe.region ?_
          refine SafeOps.quiet0 E_good rfl rfl rfl (v := V.int .i64 x_2122) (.fn rfl) ?_
          refine SafeOps.quiet0 E_good rfl rfl rfl (v := V.bool (x_2122 != 0)) (.fn rfl) ?_
          refine SafeOps.quiet0 E_good rfl rfl rfl (v := V.bool (x_2122 != 0)) (.fn rfl) ?_
          refine SafeOps.bjoin 3 54 (b := ((x_2122 != 0) || (x_2125 != 0))) (b1 := true) (b0 := (x_2125 != 0)) (fun hc2127 K => ?_) (fun hc2127 K => ?_) bj_or ?_
          · skip
            refine SafeOps.skip (congrArg (fun b => some (!b)) hc2127) rfl rfl ?_
            refine SafeOps.skip (congrArg (fun b => some (!b)) hc2127) rfl rfl ?_
            refine SafeOps.quiet0 E_good rfl rfl rfl (v := V.bool true) (.pickK rfl hc2127 rfl) ?_
            exact SafeOps.drop' 3 rfl rfl rfl K
          · skip
            refine SafeOps.quiet0 E_good (congrArg (fun b => some (!b)) hc2127) rfl rfl (v := V.int .i64 x_2125) (.fn rfl) ?_
            refine SafeOps.quiet0 E_good (congrArg (fun b => some (!b)) hc2127) rfl rfl (v := V.bool (x_2125 != 0)) (.fn rfl) ?_
            refine SafeOps.quiet0 E_good rfl rfl rfl (v := V.bool (x_2125 != 0)) (.pickK rfl hc2127 rfl) ?_
            exact SafeOps.drop' 3 rfl rfl rfl K
          refine SafeOps.quiet0 E_good rfl rfl rfl (v := V.bool ((x_2122 != 0) || (x_2125 != 0))) (.fn rfl) ?_
          refine SafeOps.bjoin 4 59 (b := (((x_2122 != 0) || (x_2125 != 0)) || (!(api_Timer.beq x_2121 (gt x_2050 v33_2117))))) (b1 := true) (b0 := (!(api_Timer.beq x_2121 (gt x_2050 v33_2117)))) (fun hc2128 K => ?_) (fun hc2128 K => ?_) bj_or ?_
          · skip
            refine SafeOps.skip (congrArg (fun b => some (!b)) hc2128) rfl rfl ?_
            refine SafeOps.skip (congrArg (fun b => some (!b)) hc2128) rfl rfl ?_
            refine SafeOps.skip (congrArg (fun b => some (!b)) hc2128) rfl rfl ?_
            refine SafeOps.quiet0 E_good rfl rfl rfl (v := V.bool true) (.pickK rfl hc2128 rfl) ?_
            exact SafeOps.drop' 4 rfl rfl rfl K
          · skip
            refine SafeOps.quiet0 E_good (congrArg (fun b => some (!b)) hc2128) rfl rfl (v := V.agg [V.int .i64 x_2121.At, V.int .i64 x_2121.Id]) (.load rfl rfl (.box rfl rfl) rfl) ?_
            refine SafeOps.quiet0 E_good (congrArg (fun b => some (!b)) hc2128) rfl rfl (v := V.agg [V.int .i64 ((gt x_2050 v33_2117).At), V.int .i64 ((gt x_2050 v33_2117).Id)]) (.load rfl rfl (.box rfl rfl) rfl) ?_
            refine SafeOps.quiet0 E_good (congrArg (fun b => some (!b)) hc2128) rfl rfl (v := V.bool (!(api_Timer.beq x_2121 (gt x_2050 v33_2117)))) (.neA rfl rfl rfl rfl okT24 rfl) ?_
            refine SafeOps.quiet0 E_good rfl rfl rfl (v := V.bool (!(api_Timer.beq x_2121 (gt x_2050 v33_2117)))) (.pickK rfl hc2128 rfl) ?_
            exact SafeOps.drop' 4 rfl rfl rfl K
          refine SafeOps.nil ?_
          repeat (first | refine Safe.seq ?_ | refine Safe.skip ?_ | with_reducible refine thenQ.n ?_ | with_reducible refine blockQ.n ?_)
          refine ifG h (fun hc2129 h => ?_) (fun hc2129 h => ?_)
          · skip
            refine Safe.condK rfl hc2129 ?_
            repeat (first | refine Safe.seq ?_ | refine Safe.skip ?_ | with_reducible refine thenQ.n ?_ | with_reducible refine blockQ.n ?_)
            refine Safe.region ?_
            refine SafeOps.quiet0 E_good rfl rfl rfl (v := V.bool false) (.fn rfl) ?_
            refine SafeOps.nil ?_
            repeat (first | refine Safe.seq ?_ | refine Safe.skip ?_ | with_reducible refine thenQ.n ?_ | with_reducible refine blockQ.n ?_)
            refine Safe.ret ?_
            repeat (first | with_reducible refine thenQ.r ?_ | with_reducible refine blockQ.r ?_)
            replace h := inr_out h hr2118
            obtain rfl := Option.some.inj h
            exact retQ.gen (vs := [V.bool false]) rfl (.tmp (v := V.bool false) rfl .nil) (.free rfl) (by simp) (.inr rfl)
          · skip
            refine Safe.condN rfl hc2129 ?_
            repeat (first | refine Safe.seq ?_ | refine Safe.skip ?_ | with_reducible refine thenQ.n ?_ | with_reducible refine blockQ.n ?_)
            refine Safe.region ?_
            refine SafeOps.quiet0 E_good rfl rfl rfl (v := V.ref [46, 0] 0 (rws api_Timer.cells x_2124).length) (.fn rfl) ?_
            refine SafeOps.quiet0 E_good rfl rfl rfl (v := V.ref [46, 0] 0 (rws api_Timer.cells x_2124).length) (.fn rfl) ?_
            refine SafeOps.nil ?_
            repeat (first | refine Safe.seq ?_ | refine Safe.skip ?_ | with_reducible refine thenQ.n ?_ | with_reducible refine blockQ.n ?_)
            refine Safe.region ?_
            refine SafeOps.quiet0 E_good rfl rfl rfl (v := V.int .i64 (IntKind.i64.wrap (v33_2117 + 1))) (.fn rfl) ?_
            refine SafeOps.quiet0 E_good rfl rfl rfl (v := V.int .i64 (IntKind.i64.wrap (v33_2117 + 1))) (.fn rfl) ?_
            refine SafeOps.nil ?_
            repeat (first | refine Safe.seq ?_ | refine Safe.skip ?_ | with_reducible refine thenQ.n ?_ | with_reducible refine blockQ.n ?_)
            exact ⟨_, next_out h, (.freeze [46, 0] rfl (.cov ⟨rfl, rfl, (upT_cons (.refl _) (upT_cons (.full rfl rfl) (upT_cons (.refl _) (upT_cons (.refl _) (upT_cons (.refl _) upT_nil))))), (upOb_cons rfl (.refl _) upOb_nil), upOut_nil, rfl⟩))⟩
        · skip
          refine Safe.condN rfl hc2119 ?_
          repeat (first | refine Safe.seq ?_ | refine Safe.skip ?_ | with_reducible refine thenQ.n ?_ | with_reducible refine blockQ.n ?_)
          refine Safe.exit ?_
          repeat (first | with_reducible refine thenQ.e ?_ | with_reducible refine blockQ.x rfl ?_ | with_reducible refine blockQ.y rfl ?_)
          replace h := inr_out h hr2118
          repeat (first | refine Safe.seq ?_ | refine Safe.skip ?_ | with_reducible refine thenQ.n ?_ | with_reducible refine blockQ.n ?_)
          refine Safe.region ?_
          refine SafeOps.quiet0 E_good rfl rfl rfl (v := V.sl 2 (rws api_Timer.cells v6_2116)) (.fn rfl) ?_
          refine bindG h ?_
          rintro ⟨x_2130, x_2131⟩ he2132 h
          refine SafeOps.quiet0 E_good rfl rfl rfl (v := V.tup [V.agg [V.int .i64 x_2130.At, V.int .i64 x_2130.Id], V.int .i64 x_2131]) (.callP rfl rfl (go_heap_Least_sc v6_2116 _ he2132) rfl) ?_
          refine SafeOps.quiet0 E_good rfl rfl rfl (v := V.tup [V.agg [V.int .i64 x_2130.At, V.int .i64 x_2130.Id], V.int .i64 x_2131]) (.fn rfl) ?_
          refine SafeOps.quiet0 E_good rfl rfl rfl (v := V.agg [V.int .i64 x_2130.At, V.int .i64 x_2130.Id]) (.fn rfl) ?_
          refine SafeOps.quiet0 E_good rfl rfl rfl (v := V.int .i64 x_2131) (.fn rfl) ?_
          refine SafeOps.quiet1 E_good rfl rfl rfl (.alloc rfl rfl) rfl ?_
          refine SafeOps.store (z := Obj.box [V.int .i64 x_2130.At, V.int .i64 x_2130.Id]) E_good rfl rfl rfl rfl rfl rfl rfl (.boxM (c := 2) rfl rfl (Nat.le_of_ble_eq_true rfl) rfl) ?_
          refine SafeOps.quiet0 E_good rfl rfl rfl (v := V.int .i64 x_2131) (.fn rfl) ?_
          refine SafeOps.nil ?_
          repeat (first | refine Safe.seq ?_ | refine Safe.skip ?_ | with_reducible refine thenQ.n ?_ | with_reducible refine blockQ.n ?_)
          refine Safe.region ?_
          refine SafeOps.quiet0 E_good rfl rfl rfl (v := V.bool x_2046) (.fn rfl) ?_
          refine SafeOps.quiet0 E_good rfl rfl rfl (v := V.bool x_2046) (.fn rfl) ?_
          refine SafeOps.bjoin 3 71 (b := (x_2046 && (x_2131 == 5))) (b1 := (x_2131 == 5)) (b0 := false) (fun hc2133 K => ?_) (fun hc2133 K => ?_) bj_and ?_
          · skip
            refine SafeOps.quiet0 E_good (congrArg some hc2133) rfl rfl (v := V.int .i64 x_2131) (.fn rfl) ?_
            refine SafeOps.quiet0 E_good (congrArg some hc2133) rfl rfl (v := V.bool (x_2131 == 5)) (.fn rfl) ?_
            refine SafeOps.quiet0 E_good rfl rfl rfl (v := V.bool (x_2131 == 5)) (.pickK rfl hc2133 rfl) ?_
            exact SafeOps.drop' 3 rfl rfl rfl K
          · skip
            refine SafeOps.skip (congrArg some hc2133) rfl rfl ?_
            refine SafeOps.skip (congrArg some hc2133) rfl rfl ?_
            refine SafeOps.quiet0 E_good rfl rfl rfl (v := V.bool false) (.pickK rfl hc2133 rfl) ?_
            exact SafeOps.drop' 3 rfl rfl rfl K
          refine SafeOps.quiet0 E_good rfl rfl rfl (v := V.bool (x_2046 && (x_2131 == 5))) (.fn rfl) ?_
          refine SafeOps.bjoin 4 76 (b := ((x_2046 && (x_2131 == 5)) && ((v6_2116.length : Int) == 0))) (b1 := ((v6_2116.length : Int) == 0)) (b0 := false) (fun hc2134 K => ?_) (fun hc2134 K => ?_) bj_and ?_
          · skip
            refine SafeOps.quiet0 E_good (congrArg some hc2134) rfl rfl (v := V.sl 2 (rws api_Timer.cells v6_2116)) (.fn rfl) ?_
            refine SafeOps.quiet0 E_good (congrArg some hc2134) rfl rfl (v := V.int .i64 (v6_2116.length : Int)) (.fnE rfl lenE) ?_
            refine SafeOps.quiet0 E_good (congrArg some hc2134) rfl rfl (v := V.bool ((v6_2116.length : Int) == 0)) (.fn rfl) ?_
            refine SafeOps.quiet0 E_good rfl rfl rfl (v := V.bool ((v6_2116.length : Int) == 0)) (.pickK rfl hc2134 rfl) ?_
            exact SafeOps.drop' 4 rfl rfl rfl K
          · skip
            refine SafeOps.skip (congrArg some hc2134) rfl rfl ?_
            refine SafeOps.skip (congrArg some hc2134) rfl rfl ?_
            refine SafeOps.skip (congrArg some hc2134) rfl rfl ?_
            refine SafeOps.quiet0 E_good rfl rfl rfl (v := V.bool false) (.pickK rfl hc2134 rfl) ?_
            exact SafeOps.drop' 4 rfl rfl rfl K
          refine SafeOps.quiet0 E_good rfl rfl rfl (v := V.bool ((x_2046 && (x_2131 == 5)) && ((v6_2116.length : Int) == 0))) (.fn rfl) ?_
          refine SafeOps.nil ?_
          repeat (first | refine Safe.seq ?_ | refine Safe.skip ?_ | with_reducible refine thenQ.n ?_ | with_reducible refine blockQ.n ?_)
          refine Safe.ret ?_
          repeat (first | with_reducible refine thenQ.r ?_ | with_reducible refine blockQ.r ?_)
          obtain rfl := Option.some.inj h
          exact retQ.gen (vs := [V.bool ((x_2046 && (x_2131 == 5)) && ((v6_2116.length : Int) == 0))]) rfl (.tmp (v := V.bool ((x_2046 && (x_2131 == 5)) && ((v6_2116.length : Int) == 0))) rfl .nil) (.free rfl) (by simp) (.inr rfl)

noncomputable def go_ravelref08_Sorted (a0_2146 : List api_Timer) : Option ((List api_Timer) × Int) :=
  (go_ravelref08_Check a0_2146).bind fun x_2152 =>
  if (x_2152 != 0) = true then
    some ([], 1)
  else
    (go_ravelref08_Order a0_2146).bind fun x_2155 =>
    some (x_2155, 0)

noncomputable def go_ravelref08_Least (a0_2163 : List api_Timer) : Option (api_Timer × Int) :=
  (go_ravelref08_Check a0_2163).bind fun x_2171 =>
  if (x_2171 != 0) = true then
    some (api_Timer.zero, 1)
  else
    if ((a0_2163.length : Int) == 0) = true then
      some (api_Timer.zero, 5)
    else
      (go_ravelref08_Order a0_2163).bind fun x_2175 =>
      if 0 ≤ (0 : Int) ∧ (0 : Int) < (x_2175.length : Int) then
        some ((gt x_2175 0), 0)
      else none

end Go.Proofs.Ytbcapidhhbkkcaa
