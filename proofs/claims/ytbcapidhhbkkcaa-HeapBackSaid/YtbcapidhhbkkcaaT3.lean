/- Helper lemmas for the claim's theorem: an abstract machine over the model, proved sound; no condition beyond each lemma's own. -/
import Derived.Test.YtbcapidhhbkkcaaT2
set_option linter.unusedVariables false
set_option linter.unusedSimpArgs false
set_option linter.unnecessarySimpa false
set_option linter.unusedSectionVars false
namespace Go.Proofs.Ytbcapidhhbkkcaa
open Go Go.AM
set_option maxRecDepth 100000
set_option maxHeartbeats 1000000
set_option linter.unusedVariables false
set_option linter.unusedSimpArgs false
variable {gl : List (Nat × List V)}
noncomputable def go_ravellaw08_HeapBack_s5 (a0_4993 : List api_Timer) (x_5125 : Bool) (x_5222 : api_Timer) : (Int) → Option ((Int) ⊕ (Bool))
  | v104_5237 =>
    if (decide (v104_5237 < (a0_4993.length : Int))) = true then
      if 0 ≤ v104_5237 ∧ v104_5237 < (a0_4993.length : Int) then
        if (go_ravelref08_Less (gt a0_4993 v104_5237) x_5222) = true then
          inrO (
            some false)
        else
          nextO (IntKind.i64.wrap (v104_5237 + 1))
      else none
    else
      inrO (
        some x_5125)

noncomputable def go_ravellaw08_HeapBack_s4 (a0_4993 : List api_Timer) (x_5125 : Bool) : (Int) → Option ((Int) ⊕ (Bool))
  | v63_5209 =>
    if (decide (v63_5209 < (a0_4993.length : Int))) = true then
      if 0 ≤ v63_5209 ∧ v63_5209 < (a0_4993.length : Int) then
        (go_heap_Reset a0_4993 ((gt a0_4993 v63_5209).Id) ((gt a0_4993 v63_5209).At)).bind fun (x_5213, x_5214) =>
        if (x_5214 != 0) = true then
          inrO (
            some false)
        else
          (go_heap_Same x_5213 a0_4993).bind fun x_5219 =>
          if (!x_5219) = true then
            inrO (
              some false)
          else
            nextO (IntKind.i64.wrap (v63_5209 + 1))
      else none
    else
      inrO (
        (go_heap_Least a0_4993).bind fun (x_5222, x_5223) =>
        if (x_5223 != 0) = true then
          some ((x_5125 && (x_5223 == 5)) && ((a0_4993.length : Int) == 0))
        else
          whileO (go_ravellaw08_HeapBack_s5 a0_4993 x_5125 x_5222) 0)

noncomputable def go_ravellaw08_HeapBack_j2 (a0_4993 : List api_Timer) (x_5125 : Bool) : Option Bool :=
  whileO (go_ravellaw08_HeapBack_s4 a0_4993 x_5125) 0

noncomputable def go_ravellaw08_HeapBack_j6 (a0_4993 : List api_Timer) (x_5125 : Bool) (x_5134 : List api_Timer) (b_5249 : Bool) : Option Bool :=
  if (b_5249 || ((x_5134.length : Int) != (IntKind.i64.wrap ((a0_4993.length : Int) + 1)))) = true then
    some false
  else
    go_ravellaw08_HeapBack_j2 a0_4993 x_5125

noncomputable def go_ravellaw08_HeapBack (a0_4993 : List api_Timer) (a1_4994 : api_Timer) : Option Bool :=
  (go_ravellaw08_live).bind fun x_5125 =>
  if (!x_5125) = true then
    some false
  else
    if (decide ((a0_4993.length : Int) > 260)) = true then
      some x_5125
    else
      (go_heap_Check a0_4993).bind fun x_5131 =>
      if (x_5131 != 0) = true then
        some x_5125
      else
        (go_heap_Add a0_4993 a1_4994).bind fun (x_5134, x_5135) =>
        if (x_5135 == 0) = true then
          (go_heap_Cancel x_5134 a1_4994.Id).bind fun (x_5243, x_5244) =>
          if (x_5244 != 0) = true then
            go_ravellaw08_HeapBack_j6 a0_4993 x_5125 x_5134 true
          else
            (go_heap_Same x_5243 a0_4993).bind fun x_5253 =>
            go_ravellaw08_HeapBack_j6 a0_4993 x_5125 x_5134 (!x_5253)
        else
          go_ravellaw08_HeapBack_j2 a0_4993 x_5125

theorem go_ravellaw08_HeapBack_sc (a0_4993 : List api_Timer) (a1_4994 : api_Timer) (r : Bool) (h : go_ravellaw08_HeapBack a0_4993 a1_4994 = some r) : SC Try.prog gl 8 [V.sl 2 (rws api_Timer.cells a0_4993), V.agg [V.int .i64 a1_4994.At, V.int .i64 a1_4994.Id]] (V.bool r) := by
  rw [go_ravellaw08_HeapBack] at h
  refine SC.of E_good Try.func8 rfl (fun _ _ => Try.call8 _ _) rfl ?_
  repeat (first | refine Safe.seq ?_ | refine Safe.skip ?_ | with_reducible refine thenQ.n ?_ | with_reducible refine blockQ.n ?_)
  refine Safe.region ?_
  refine SafeOps.quiet1 E_good rfl rfl rfl (.box rfl rfl) rfl ?_
  refine SafeOps.quiet0 E_good rfl rfl rfl (v := V.bool false) (.fn rfl) ?_
  refine SafeOps.nil ?_
  repeat (first | refine Safe.seq ?_ | refine Safe.skip ?_ | with_reducible refine thenQ.n ?_ | with_reducible refine blockQ.n ?_)
  refine Safe.region ?_
  refine bindG h ?_
  intro x_5125 he5126 h
  refine SafeOps.quiet0 E_good rfl rfl rfl (v := V.bool x_5125) (.callP rfl rfl (go_ravellaw08_live_sc  _ he5126) rfl) ?_
  refine SafeOps.quiet0 E_good rfl rfl rfl (v := V.bool x_5125) (.fn rfl) ?_
  refine SafeOps.nil ?_
  repeat (first | refine Safe.seq ?_ | refine Safe.skip ?_ | with_reducible refine thenQ.n ?_ | with_reducible refine blockQ.n ?_)
  refine Safe.region ?_
  refine SafeOps.quiet0 E_good rfl rfl rfl (v := V.bool x_5125) (.fn rfl) ?_
  refine SafeOps.quiet0 E_good rfl rfl rfl (v := V.bool (!x_5125)) (.fn rfl) ?_
  refine SafeOps.nil ?_
  repeat (first | refine Safe.seq ?_ | refine Safe.skip ?_ | with_reducible refine thenQ.n ?_ | with_reducible refine blockQ.n ?_)
  refine ifG h (fun hc5127 h => ?_) (fun hc5127 h => ?_)
  · skip
    refine Safe.condK rfl hc5127 ?_
    repeat (first | refine Safe.seq ?_ | refine Safe.skip ?_ | with_reducible refine thenQ.n ?_ | with_reducible refine blockQ.n ?_)
    refine Safe.region ?_
    refine SafeOps.quiet0 E_good rfl rfl rfl (v := V.bool false) (.fn rfl) ?_
    refine SafeOps.nil ?_
    repeat (first | refine Safe.seq ?_ | refine Safe.skip ?_ | with_reducible refine thenQ.n ?_ | with_reducible refine blockQ.n ?_)
    refine Safe.ret ?_
    repeat (first | with_reducible refine thenQ.r ?_ | with_reducible refine blockQ.r ?_)
    obtain rfl := Option.some.inj h
    exact retQ.gen (vs := [V.bool false]) rfl (.tmp (v := V.bool false) rfl .nil) (.free rfl) (by simp) (.inr rfl)
  · skip
    refine Safe.condN rfl hc5127 ?_
    repeat (first | refine Safe.seq ?_ | refine Safe.skip ?_ | with_reducible refine thenQ.n ?_ | with_reducible refine blockQ.n ?_)
    refine Safe.region ?_
    refine SafeOps.quiet0 E_good rfl rfl rfl (v := V.sl 2 (rws api_Timer.cells a0_4993)) (.fn rfl) ?_
    refine SafeOps.quiet0 E_good rfl rfl rfl (v := V.int .i64 (a0_4993.length : Int)) (.fnE rfl lenE) ?_
    refine SafeOps.quiet0 E_good rfl rfl rfl (v := V.bool (decide ((a0_4993.length : Int) > 260))) (.fn rfl) ?_
    refine SafeOps.quiet0 E_good rfl rfl rfl (v := V.bool (decide ((a0_4993.length : Int) > 260))) (.fn rfl) ?_
    refine ifG h (fun hc5128 h => ?_) (fun hc5128 h => ?_)
    · skip
      refine SafeOps.skip (congrArg (fun b => some (!b)) hc5128) rfl rfl ?_
      refine SafeOps.skip (congrArg (fun b => some (!b)) hc5128) rfl rfl ?_
      refine SafeOps.skip (congrArg (fun b => some (!b)) hc5128) rfl rfl ?_
      refine SafeOps.quiet0 E_good rfl rfl rfl (v := V.bool true) (.pickK rfl hc5128 rfl) ?_
      refine SafeOps.nil ?_
      repeat (first | refine Safe.seq ?_ | refine Safe.skip ?_ | with_reducible refine thenQ.n ?_ | with_reducible refine blockQ.n ?_)
      refine Safe.condK rfl rfl ?_
      repeat (first | refine Safe.seq ?_ | refine Safe.skip ?_ | with_reducible refine thenQ.n ?_ | with_reducible refine blockQ.n ?_)
      refine Safe.region ?_
      refine SafeOps.quiet0 E_good rfl rfl rfl (v := V.bool x_5125) (.fn rfl) ?_
      refine SafeOps.quiet0 E_good rfl rfl rfl (v := V.bool x_5125) (.fn rfl) ?_
      refine SafeOps.nil ?_
      repeat (first | refine Safe.seq ?_ | refine Safe.skip ?_ | with_reducible refine thenQ.n ?_ | with_reducible refine blockQ.n ?_)
      refine Safe.ret ?_
      repeat (first | with_reducible refine thenQ.r ?_ | with_reducible refine blockQ.r ?_)
      obtain rfl := Option.some.inj h
      exact retQ.gen (vs := [V.bool x_5125]) rfl (.tmp (v := V.bool x_5125) rfl .nil) (.free rfl) (by simp) (.inr rfl)
    · skip
      refine SafeOps.quiet0 E_good (congrArg (fun b => some (!b)) hc5128) rfl rfl (v := V.sl 2 (rws api_Timer.cells a0_4993)) (.fn rfl) ?_
      refine bindG h ?_
      intro x_5131 he5132 h
      refine SafeOps.quiet0 E_good (congrArg (fun b => some (!b)) hc5128) rfl rfl (v := V.int .i64 x_5131) (.callP rfl rfl (go_heap_Check_sc a0_4993 _ he5132) rfl) ?_
      refine SafeOps.quiet0 E_good (congrArg (fun b => some (!b)) hc5128) rfl rfl (v := V.bool (x_5131 != 0)) (.fn rfl) ?_
      refine SafeOps.quiet0 E_good rfl rfl rfl (v := V.bool (x_5131 != 0)) (.pickK rfl hc5128 rfl) ?_
      refine SafeOps.nil ?_
      repeat (first | refine Safe.seq ?_ | refine Safe.skip ?_ | with_reducible refine thenQ.n ?_ | with_reducible refine blockQ.n ?_)
      refine ifG h (fun hc5133 h => ?_) (fun hc5133 h => ?_)
      · skip
        refine Safe.condK rfl hc5133 ?_
        repeat (first | refine Safe.seq ?_ | refine Safe.skip ?_ | with_reducible refine thenQ.n ?_ | with_reducible refine blockQ.n ?_)
        refine Safe.region ?_
        refine SafeOps.quiet0 E_good rfl rfl rfl (v := V.bool x_5125) (.fn rfl) ?_
        refine SafeOps.quiet0 E_good rfl rfl rfl (v := V.bool x_5125) (.fn rfl) ?_
        refine SafeOps.nil ?_
        repeat (first | refine Safe.seq ?_ | refine Safe.skip ?_ | with_reducible refine thenQ.n ?_ | with_reducible refine blockQ.n ?_)
        refine Safe.ret ?_
        repeat (first | with_reducible refine thenQ.r ?_ | with_reducible refine blockQ.r ?_)
        obtain rfl := Option.some.inj h
        exact retQ.gen (vs := [V.bool x_5125]) rfl (.tmp (v := V.bool x_5125) rfl .nil) (.free rfl) (by simp) (.inr rfl)
      · skip
        refine Safe.condN rfl hc5133 ?_
        repeat (first | refine Safe.seq ?_ | refine Safe.skip ?_ | with_reducible refine thenQ.n ?_ | with_reducible refine blockQ.n ?_)
        refine Safe.region ?_
        refine SafeOps.quiet0 E_good rfl rfl rfl (v := V.sl 2 (rws api_Timer.cells a0_4993)) (.fn rfl) ?_
        refine SafeOps.quiet0 E_good rfl rfl rfl (v := V.agg [V.int .i64 a1_4994.At, V.int .i64 a1_4994.Id]) (.load rfl rfl (.box rfl rfl) rfl) ?_
        refine bindG h ?_
        rintro ⟨x_5134, x_5135⟩ he5136 h
        refine SafeOps.quiet E_good rfl rfl rfl (v := V.tup [V.ref [33, 0] 0 (rws api_Timer.cells x_5134).length, V.int .i64 x_5135]) (.callP rfl rfl (go_heap_Add_sc a0_4993 a1_4994 _ he5136) rfl) rfl ?_
        refine SafeOps.quiet0 E_good rfl rfl rfl (v := V.tup [V.ref [33, 0] 0 (rws api_Timer.cells x_5134).length, V.int .i64 x_5135]) (.fn rfl) ?_
        refine SafeOps.quiet0 E_good rfl rfl rfl (v := V.ref [33, 0] 0 (rws api_Timer.cells x_5134).length) (.fn rfl) ?_
        refine SafeOps.quiet0 E_good rfl rfl rfl (v := V.int .i64 x_5135) (.fn rfl) ?_
        refine SafeOps.quiet0 E_good rfl rfl rfl (v := V.ref [33, 0] 0 (rws api_Timer.cells x_5134).length) (.fn rfl) ?_
        refine SafeOps.quiet0 E_good rfl rfl rfl (v := V.int .i64 x_5135) (.fn rfl) ?_
        refine SafeOps.nil ?_
        repeat (first | refine Safe.seq ?_ | refine Safe.skip ?_ | with_reducible refine thenQ.n ?_ | with_reducible refine blockQ.n ?_)
        refine Safe.region ?_
        refine SafeOps.quiet0 E_good rfl rfl rfl (v := V.int .i64 x_5135) (.fn rfl) ?_
        refine SafeOps.quiet0 E_good rfl rfl rfl (v := V.bool (x_5135 == 0)) (.fn rfl) ?_
        refine SafeOps.nil ?_
        repeat (first | refine Safe.seq ?_ | refine Safe.skip ?_ | with_reducible refine thenQ.n ?_ | with_reducible refine blockQ.n ?_)
        refine Safe.joinT (fun (_ : Unit) => go_ravellaw08_HeapBack_j2 a0_4993 x_5125 = some r) (fun (_ : Unit) => ⟨Try.f8.ntmps, [(0, V.sl 2 (rws api_Timer.cells a0_4993)), (5, V.bool x_5125)], [], [], []⟩) ?_ (fun HJ5149 => ?_)
        · intro _ h
          replace h : go_ravellaw08_HeapBack_j2 a0_4993 x_5125 = some r := h
          rw [go_ravellaw08_HeapBack_j2] at h
          repeat (first | refine Safe.seq ?_ | refine Safe.skip ?_ | with_reducible refine thenQ.n ?_ | with_reducible refine blockQ.n ?_)
          refine Safe.region ?_
          refine SafeOps.quiet0 E_good rfl rfl rfl (v := V.sl 2 (rws api_Timer.cells a0_4993)) (.fn rfl) ?_
          refine SafeOps.quiet0 E_good rfl rfl rfl (v := V.int .i64 (a0_4993.length : Int)) (.fnE rfl lenE) ?_
          refine SafeOps.quiet0 E_good rfl rfl rfl (v := V.int .i64 0) (.fn rfl) ?_
          refine SafeOps.nil ?_
          repeat (first | refine Safe.seq ?_ | refine Safe.skip ?_ | with_reducible refine thenQ.n ?_ | with_reducible refine blockQ.n ?_)
          refine Safe.block ?_
          repeat (first | refine Safe.seq ?_ | refine Safe.skip ?_ | with_reducible refine thenQ.n ?_ | with_reducible refine blockQ.n ?_)
          refine Safe.loopW (fun (v63_5209 : Int) => ⟨Try.f8.ntmps, [(0, V.sl 2 (rws api_Timer.cells a0_4993)), (5, V.bool x_5125), (61, V.sl 2 (rws api_Timer.cells a0_4993)), (62, V.int .i64 (a0_4993.length : Int)), (63, V.int .i64 v63_5209)], [], [], []⟩) h (.cov ⟨rfl, rfl, (upT_cons (.refl _) (upT_cons (.refl _) (upT_cons (.refl _) (upT_cons (.refl _) (upT_cons (.refl _) upT_nil))))), upOb_nil, upOut_nil, rfl⟩) ?_
          intro v63_5209 ohr5210 h hr5210
          replace h : go_ravellaw08_HeapBack_s4 a0_4993 x_5125 v63_5209 = some ohr5210 := h
          rw [go_ravellaw08_HeapBack_s4] at h
          repeat (first | refine Safe.seq ?_ | refine Safe.skip ?_ | with_reducible refine thenQ.n ?_ | with_reducible refine blockQ.n ?_)
          refine Safe.region ?_
          refine SafeOps.quiet0 E_good rfl rfl rfl (v := V.bool (decide (v63_5209 < (a0_4993.length : Int)))) (.fn rfl) ?_
          refine SafeOps.nil ?_
          repeat (first | refine Safe.seq ?_ | refine Safe.skip ?_ | with_reducible refine thenQ.n ?_ | with_reducible refine blockQ.n ?_)
          refine ifG h (fun hc5211 h => ?_) (fun hc5211 h => ?_)
          · skip
            refine Safe.condK rfl hc5211 ?_
            repeat (first | refine Safe.seq ?_ | refine Safe.skip ?_ | with_reducible refine thenQ.n ?_ | with_reducible refine blockQ.n ?_)
            refine Safe.block ?_
            repeat (first | refine Safe.seq ?_ | refine Safe.skip ?_ | with_reducible refine thenQ.n ?_ | with_reducible refine blockQ.n ?_)
            refine Safe.region ?_
            refine okG h (fun hb5212 h => ?_)
            refine SafeOps.quiet0 E_good rfl rfl rfl (v := V.spt 2 (rws api_Timer.cells a0_4993) (Int.toNat v63_5209) 0) (.idxSlM (f := api_Timer.cells) rfl rfl rfl rfl rfl hb5212) ?_
            refine SafeOps.quiet0 E_good rfl rfl rfl (v := V.agg [V.int .i64 ((gt a0_4993 v63_5209).At), V.int .i64 ((gt a0_4993 v63_5209).Id)]) (.load rfl rfl (.sptM (f := api_Timer.cells) hb5212 rfl) rfl) ?_
            refine SafeOps.quiet1 E_good rfl rfl rfl (.alloc rfl rfl) rfl ?_
            refine SafeOps.store (z := Obj.box [V.int .i64 ((gt a0_4993 v63_5209).At), V.int .i64 ((gt a0_4993 v63_5209).Id)]) E_good rfl rfl rfl rfl rfl rfl rfl (.boxM (c := 2) rfl rfl (Nat.le_of_ble_eq_true rfl) rfl) ?_
            refine SafeOps.nil ?_
            repeat (first | refine Safe.seq ?_ | refine Safe.skip ?_ | with_reducible refine thenQ.n ?_ | with_reducible refine blockQ.n ?_)
            refine Safe.region ?_
            refine SafeOps.quiet0 E_good rfl rfl rfl (v := V.sl 2 (rws api_Timer.cells a0_4993)) (.fn rfl) ?_
            refine SafeOps.quiet0 E_good rfl rfl rfl (v := V.ptr [11] 0 1) (.fn rfl) ?_
            refine SafeOps.quiet0 E_good rfl rfl rfl (v := V.int .i64 ((gt a0_4993 v63_5209).Id)) (.load rfl rfl (.box rfl rfl) rfl) ?_
            refine SafeOps.quiet0 E_good rfl rfl rfl (v := V.ptr [11] 0 0) (.fn rfl) ?_
            refine SafeOps.quiet0 E_good rfl rfl rfl (v := V.int .i64 ((gt a0_4993 v63_5209).At)) (.load rfl rfl (.box rfl rfl) rfl) ?_
            refine bindG h ?_
            rintro ⟨x_5213, x_5214⟩ he5215 h
            refine SafeOps.quiet E_good rfl rfl rfl (v := V.tup [V.ref [73, 0] 0 (rws api_Timer.cells x_5213).length, V.int .i64 x_5214]) (.callP rfl rfl (go_heap_Reset_sc a0_4993 ((gt a0_4993 v63_5209).Id) ((gt a0_4993 v63_5209).At) _ he5215) rfl) rfl ?_
            refine SafeOps.quiet0 E_good rfl rfl rfl (v := V.tup [V.ref [73, 0] 0 (rws api_Timer.cells x_5213).length, V.int .i64 x_5214]) (.fn rfl) ?_
            refine SafeOps.quiet0 E_good rfl rfl rfl (v := V.ref [73, 0] 0 (rws api_Timer.cells x_5213).length) (.fn rfl) ?_
            refine SafeOps.quiet0 E_good rfl rfl rfl (v := V.int .i64 x_5214) (.fn rfl) ?_
            refine SafeOps.quiet0 E_good rfl rfl rfl (v := V.ref [73, 0] 0 (rws api_Timer.cells x_5213).length) (.fn rfl) ?_
            refine SafeOps.quiet0 E_good rfl rfl rfl (v := V.int .i64 x_5214) (.fn rfl) ?_
            refine SafeOps.nil ?_
            repeat (first | refine Safe.seq ?_ | refine Safe.skip ?_ | with_reducible refine thenQ.n ?_ | with_reducible refine blockQ.n ?_)
            refine Safe.region ?_
            refine SafeOps.quiet0 E_good rfl rfl rfl (v := V.int .i64 x_5214) (.fn rfl) ?_
            refine SafeOps.quiet0 E_good rfl rfl rfl (v := V.bool (x_5214 != 0)) (.fn rfl) ?_
            refine SafeOps.quiet0 E_good rfl rfl rfl (v := V.bool (x_5214 != 0)) (.fn rfl) ?_
            refine ifG h (fun hc5216 h => ?_) (fun hc5216 h => ?_)
            · skip
              refine SafeOps.skip (congrArg (fun b => some (!b)) hc5216) rfl rfl ?_
              refine SafeOps.skip (congrArg (fun b => some (!b)) hc5216) rfl rfl ?_
              refine SafeOps.skip (congrArg (fun b => some (!b)) hc5216) rfl rfl ?_
              refine SafeOps.skip (congrArg (fun b => some (!b)) hc5216) rfl rfl ?_
              refine SafeOps.quiet0 E_good rfl rfl rfl (v := V.bool true) (.pickK rfl hc5216 rfl) ?_
              refine SafeOps.nil ?_
              repeat (first | refine Safe.seq ?_ | refine Safe.skip ?_ | with_reducible refine thenQ.n ?_ | with_reducible refine blockQ.n ?_)
              refine Safe.condK rfl rfl ?_
              repeat (first | refine Safe.seq ?_ | refine Safe.skip ?_ | with_reducible refine thenQ.n ?_ | with_reducible refine blockQ.n ?_)
              refine Safe.region ?_
              refine SafeOps.quiet0 E_good rfl rfl rfl (v := V.bool false) (.fn rfl) ?_
              refine SafeOps.nil ?_
              repeat (first | refine Safe.seq ?_ | refine Safe.skip ?_ | with_reducible refine thenQ.n ?_ | with_reducible refine blockQ.n ?_)
              refine Safe.ret ?_
              repeat (first | with_reducible refine thenQ.r ?_ | with_reducible refine blockQ.r ?_)
              replace h := inr_out h hr5210
              obtain rfl := Option.some.inj h
              exact retQ.gen (vs := [V.bool false]) rfl (.tmp (v := V.bool false) rfl .nil) (.free rfl) (by simp) (.inr rfl)
            · skip
              refine SafeOps.quiet0 E_good (congrArg (fun b => some (!b)) hc5216) rfl rfl (v := V.ref [73, 0] 0 (rws api_Timer.cells x_5213).length) (.fn rfl) ?_
              refine SafeOps.quiet0 E_good (congrArg (fun b => some (!b)) hc5216) rfl rfl (v := V.sl 2 (rws api_Timer.cells a0_4993)) (.fn rfl) ?_
              refine bindG h ?_
              intro x_5219 he5220 h
              refine SafeOps.quiet0 E_good (congrArg (fun b => some (!b)) hc5216) rfl rfl (v := V.bool x_5219) (.callS rfl (.cons (.full rfl rfl) (.cons (.free rfl) .nil)) (go_heap_Same_sc x_5213 a0_4993 _ he5220) (.plain rfl) rfl) ?_
              refine SafeOps.quiet0 E_good (congrArg (fun b => some (!b)) hc5216) rfl rfl (v := V.bool (!x_5219)) (.fn rfl) ?_
              refine SafeOps.quiet0 E_good rfl rfl rfl (v := V.bool (!x_5219)) (.pickK rfl hc5216 rfl) ?_
              refine SafeOps.nil ?_
              repeat (first | refine Safe.seq ?_ | refine Safe.skip ?_ | with_reducible refine thenQ.n ?_ | with_reducible refine blockQ.n ?_)
              refine ifG h (fun hc5221 h => ?_) (fun hc5221 h => ?_)
              · skip
                refine Safe.condK rfl hc5221 ?_
                repeat (first | refine Safe.seq ?_ | refine Safe.skip ?_ | with_reducible refine thenQ.n ?_ | with_reducible refine blockQ.n ?_)
                refine Safe.region ?_
                refine SafeOps.quiet0 E_good rfl rfl rfl (v := V.bool false) (.fn rfl) ?_
                refine SafeOps.nil ?_
                repeat (first | refine Safe.seq ?_ | refine Safe.skip ?_ | with_reducible refine thenQ.n ?_ | with_reducible refine blockQ.n ?_)
                refine Safe.ret ?_
                repeat (first | with_reducible refine thenQ.r ?_ | with_reducible refine blockQ.r ?_)
                replace h := inr_out h hr5210
                obtain rfl := Option.some.inj h
                exact retQ.gen (vs := [V.bool false]) rfl (.tmp (v := V.bool false) rfl .nil) (.free rfl) (by simp) (.inr rfl)
              · skip
                refine Safe.condN rfl hc5221 ?_
                repeat (first | refine Safe.seq ?_ | refine Safe.skip ?_ | with_reducible refine thenQ.n ?_ | with_reducible refine blockQ.n ?_)
                refine Safe.region ?_
                refine SafeOps.quiet0 E_good rfl rfl rfl (v := V.int .i64 (IntKind.i64.wrap (v63_5209 + 1))) (.fn rfl) ?_
                refine SafeOps.quiet0 E_good rfl rfl rfl (v := V.int .i64 (IntKind.i64.wrap (v63_5209 + 1))) (.fn rfl) ?_
                refine SafeOps.nil ?_
                repeat (first | refine Safe.seq ?_ | refine Safe.skip ?_ | with_reducible refine thenQ.n ?_ | with_reducible refine blockQ.n ?_)
                exact ⟨_, next_out h, (.cov ⟨rfl, rfl, (upT_cons (.refl _) (upT_cons (.refl _) (upT_cons (.refl _) (upT_cons (.refl _) (upT_cons (.refl _) upT_nil))))), upOb_nil, upOut_nil, rfl⟩)⟩
          · skip
            refine Safe.condN rfl hc5211 ?_
            repeat (first | refine Safe.seq ?_ | refine Safe.skip ?_ | with_reducible refine thenQ.n ?_ | with_reducible refine blockQ.n ?_)
            refine Safe.exit ?_
            repeat (first | with_reducible refine thenQ.e ?_ | with_reducible refine blockQ.x rfl ?_ | with_reducible refine blockQ.y rfl ?_)
            replace h := inr_out h hr5210
            repeat (first | refine Safe.seq ?_ | refine Safe.skip ?_ | with_reducible refine thenQ.n ?_ | with_reducible refine blockQ.n ?_)
            refine Safe.region ?_
            refine SafeOps.quiet0 E_good rfl rfl rfl (v := V.sl 2 (rws api_Timer.cells a0_4993)) (.fn rfl) ?_
            refine bindG h ?_
            rintro ⟨x_5222, x_5223⟩ he5224 h
            refine SafeOps.quiet0 E_good rfl rfl rfl (v := V.tup [V.agg [V.int .i64 x_5222.At, V.int .i64 x_5222.Id], V.int .i64 x_5223]) (.callP rfl rfl (go_heap_Least_sc a0_4993 _ he5224) rfl) ?_
            refine SafeOps.quiet0 E_good rfl rfl rfl (v := V.tup [V.agg [V.int .i64 x_5222.At, V.int .i64 x_5222.Id], V.int .i64 x_5223]) (.fn rfl) ?_
            refine SafeOps.quiet0 E_good rfl rfl rfl (v := V.agg [V.int .i64 x_5222.At, V.int .i64 x_5222.Id]) (.fn rfl) ?_
            refine SafeOps.quiet0 E_good rfl rfl rfl (v := V.int .i64 x_5223) (.fn rfl) ?_
            refine SafeOps.quiet1 E_good rfl rfl rfl (.alloc rfl rfl) rfl ?_
            refine SafeOps.store (z := Obj.box [V.int .i64 x_5222.At, V.int .i64 x_5222.Id]) E_good rfl rfl rfl rfl rfl rfl rfl (.boxM (c := 2) rfl rfl (Nat.le_of_ble_eq_true rfl) rfl) ?_
            refine SafeOps.quiet0 E_good rfl rfl rfl (v := V.int .i64 x_5223) (.fn rfl) ?_
            refine SafeOps.nil ?_
            repeat (first | refine Safe.seq ?_ | refine Safe.skip ?_ | with_reducible refine thenQ.n ?_ | with_reducible refine blockQ.n ?_)
            refine Safe.region ?_
            refine SafeOps.quiet0 E_good rfl rfl rfl (v := V.int .i64 x_5223) (.fn rfl) ?_
            refine SafeOps.quiet0 E_good rfl rfl rfl (v := V.bool (x_5223 != 0)) (.fn rfl) ?_
            refine SafeOps.nil ?_
            repeat (first | refine Safe.seq ?_ | refine Safe.skip ?_ | with_reducible refine thenQ.n ?_ | with_reducible refine blockQ.n ?_)
            refine ifG h (fun hc5227 h => ?_) (fun hc5227 h => ?_)
            · skip
              refine Safe.condK rfl hc5227 ?_
              repeat (first | refine Safe.seq ?_ | refine Safe.skip ?_ | with_reducible refine thenQ.n ?_ | with_reducible refine blockQ.n ?_)
              refine Safe.region ?_
              refine SafeOps.quiet0 E_good rfl rfl rfl (v := V.bool x_5125) (.fn rfl) ?_
              refine SafeOps.quiet0 E_good rfl rfl rfl (v := V.bool x_5125) (.fn rfl) ?_
              refine SafeOps.bjoin 3 96 (b := (x_5125 && (x_5223 == 5))) (b1 := (x_5223 == 5)) (b0 := false) (fun hc5228 K => ?_) (fun hc5228 K => ?_) bj_and ?_
              · skip
                refine SafeOps.quiet0 E_good (congrArg some hc5228) rfl rfl (v := V.int .i64 x_5223) (.fn rfl) ?_
                refine SafeOps.quiet0 E_good (congrArg some hc5228) rfl rfl (v := V.bool (x_5223 == 5)) (.fn rfl) ?_
                refine SafeOps.quiet0 E_good rfl rfl rfl (v := V.bool (x_5223 == 5)) (.pickK rfl hc5228 rfl) ?_
                exact SafeOps.drop' 3 rfl rfl rfl K
              · skip
                refine SafeOps.skip (congrArg some hc5228) rfl rfl ?_
                refine SafeOps.skip (congrArg some hc5228) rfl rfl ?_
                refine SafeOps.quiet0 E_good rfl rfl rfl (v := V.bool false) (.pickK rfl hc5228 rfl) ?_
                exact SafeOps.drop' 3 rfl rfl rfl K
              refine SafeOps.quiet0 E_good rfl rfl rfl (v := V.bool (x_5125 && (x_5223 == 5))) (.fn rfl) ?_
              refine SafeOps.bjoin 4 101 (b := ((x_5125 && (x_5223 == 5)) && ((a0_4993.length : Int) == 0))) (b1 := ((a0_4993.length : Int) == 0)) (b0 := false) (fun hc5229 K => ?_) (fun hc5229 K => ?_) bj_and ?_
              · skip
                refine SafeOps.quiet0 E_good (congrArg some hc5229) rfl rfl (v := V.sl 2 (rws api_Timer.cells a0_4993)) (.fn rfl) ?_
                refine SafeOps.quiet0 E_good (congrArg some hc5229) rfl rfl (v := V.int .i64 (a0_4993.length : Int)) (.fnE rfl lenE) ?_
                refine SafeOps.quiet0 E_good (congrArg some hc5229) rfl rfl (v := V.bool ((a0_4993.length : Int) == 0)) (.fn rfl) ?_
                refine SafeOps.quiet0 E_good rfl rfl rfl (v := V.bool ((a0_4993.length : Int) == 0)) (.pickK rfl hc5229 rfl) ?_
                exact SafeOps.drop' 4 rfl rfl rfl K
              · skip
                refine SafeOps.skip (congrArg some hc5229) rfl rfl ?_
                refine SafeOps.skip (congrArg some hc5229) rfl rfl ?_
                refine SafeOps.skip (congrArg some hc5229) rfl rfl ?_
                refine SafeOps.quiet0 E_good rfl rfl rfl (v := V.bool false) (.pickK rfl hc5229 rfl) ?_
                exact SafeOps.drop' 4 rfl rfl rfl K
              refine SafeOps.quiet0 E_good rfl rfl rfl (v := V.bool ((x_5125 && (x_5223 == 5)) && ((a0_4993.length : Int) == 0))) (.fn rfl) ?_
              refine SafeOps.nil ?_
              repeat (first | refine Safe.seq ?_ | refine Safe.skip ?_ | with_reducible refine thenQ.n ?_ | with_reducible refine blockQ.n ?_)
              refine Safe.ret ?_
              repeat (first | with_reducible refine thenQ.r ?_ | with_reducible refine blockQ.r ?_)
              obtain rfl := Option.some.inj h
              exact retQ.gen (vs := [V.bool ((x_5125 && (x_5223 == 5)) && ((a0_4993.length : Int) == 0))]) rfl (.tmp (v := V.bool ((x_5125 && (x_5223 == 5)) && ((a0_4993.length : Int) == 0))) rfl .nil) (.free rfl) (by simp) (.inr rfl)
            · skip
              refine Safe.condN rfl hc5227 ?_
              repeat (first | refine Safe.seq ?_ | refine Safe.skip ?_ | with_reducible refine thenQ.n ?_ | with_reducible refine blockQ.n ?_)
              refine Safe.region ?_
              refine SafeOps.quiet0 E_good rfl rfl rfl (v := V.sl 2 (rws api_Timer.cells a0_4993)) (.fn rfl) ?_
              refine SafeOps.quiet0 E_good rfl rfl rfl (v := V.int .i64 (a0_4993.length : Int)) (.fnE rfl lenE) ?_
              refine SafeOps.quiet0 E_good rfl rfl rfl (v := V.int .i64 0) (.fn rfl) ?_
              refine SafeOps.nil ?_
              repeat (first | refine Safe.seq ?_ | refine Safe.skip ?_ | with_reducible refine thenQ.n ?_ | with_reducible refine blockQ.n ?_)
              refine Safe.block ?_
              repeat (first | refine Safe.seq ?_ | refine Safe.skip ?_ | with_reducible refine thenQ.n ?_ | with_reducible refine blockQ.n ?_)
              refine Safe.loopW (fun (v104_5237 : Int) => ⟨Try.f8.ntmps, [(5, V.bool x_5125), (14, V.ptr [14] 0 0), (102, V.sl 2 (rws api_Timer.cells a0_4993)), (103, V.int .i64 (a0_4993.length : Int)), (104, V.int .i64 v104_5237)], [([14], Obj.box [V.int .i64 x_5222.At, V.int .i64 x_5222.Id])], [], []⟩) h (.cov ⟨rfl, rfl, (upT_cons (.refl _) (upT_cons (.refl _) (upT_cons (.refl _) (upT_cons (.refl _) (upT_cons (.refl _) upT_nil))))), (upOb_cons rfl (.refl _) upOb_nil), upOut_nil, rfl⟩) ?_
              intro v104_5237 ohr5238 h hr5238
              replace h : go_ravellaw08_HeapBack_s5 a0_4993 x_5125 x_5222 v104_5237 = some ohr5238 := h
              rw [go_ravellaw08_HeapBack_s5] at h
              repeat (first | refine Safe.seq ?_ | refine Safe.skip ?_ | with_reducible refine thenQ.n ?_ | with_reducible refine blockQ.n ?_)
              refine Safe.region ?_
              refine SafeOps.quiet0 E_good rfl rfl rfl (v := V.bool (decide (v104_5237 < (a0_4993.length : Int)))) (.fn rfl) ?_
              refine SafeOps.nil ?_
              repeat (first | refine Safe.seq ?_ | refine Safe.skip ?_ | with_reducible refine thenQ.n ?_ | with_reducible refine blockQ.n ?_)
              refine ifG h (fun hc5239 h => ?_) (fun hc5239 h => ?_)
              · skip
                refine Safe.condK rfl hc5239 ?_
                repeat (first | refine Safe.seq ?_ | refine Safe.skip ?_ | with_reducible refine thenQ.n ?_ | with_reducible refine blockQ.n ?_)
                refine Safe.block ?_
                repeat (first | refine Safe.seq ?_ | refine Safe.skip ?_ | with_reducible refine thenQ.n ?_ | with_reducible refine blockQ.n ?_)
                refine Safe.region ?_
                refine okG h (fun hb5240 h => ?_)
                refine SafeOps.quiet0 E_good rfl rfl rfl (v := V.spt 2 (rws api_Timer.cells a0_4993) (Int.toNat v104_5237) 0) (.idxSlM (f := api_Timer.cells) rfl rfl rfl rfl rfl hb5240) ?_
                refine SafeOps.quiet0 E_good rfl rfl rfl (v := V.agg [V.int .i64 ((gt a0_4993 v104_5237).At), V.int .i64 ((gt a0_4993 v104_5237).Id)]) (.load rfl rfl (.sptM (f := api_Timer.cells) hb5240 rfl) rfl) ?_
                refine SafeOps.quiet1 E_good rfl rfl rfl (.alloc rfl rfl) rfl ?_
                refine SafeOps.store (z := Obj.box [V.int .i64 ((gt a0_4993 v104_5237).At), V.int .i64 ((gt a0_4993 v104_5237).Id)]) E_good rfl rfl rfl rfl rfl rfl rfl (.boxM (c := 2) rfl rfl (Nat.le_of_ble_eq_true rfl) rfl) ?_
                refine SafeOps.nil ?_
                repeat (first | refine Safe.seq ?_ | refine Safe.skip ?_ | with_reducible refine thenQ.n ?_ | with_reducible refine blockQ.n ?_)
                refine Safe.region ?_
                refine SafeOps.quiet0 E_good rfl rfl rfl (v := V.agg [V.int .i64 ((gt a0_4993 v104_5237).At), V.int .i64 ((gt a0_4993 v104_5237).Id)]) (.load rfl rfl (.box rfl rfl) rfl) ?_
                refine SafeOps.quiet0 E_good rfl rfl rfl (v := V.agg [V.int .i64 x_5222.At, V.int .i64 x_5222.Id]) (.load rfl rfl (.box rfl rfl) rfl) ?_
                refine SafeOps.quiet0 E_good rfl rfl rfl (v := V.bool (go_ravelref08_Less (gt a0_4993 v104_5237) x_5222)) (.callP rfl rfl (go_ravelref08_Less_sc (gt a0_4993 v104_5237) x_5222 _ rfl) rfl) ?_
                refine SafeOps.nil ?_
                repeat (first | refine Safe.seq ?_ | refine Safe.skip ?_ | with_reducible refine thenQ.n ?_ | with_reducible refine blockQ.n ?_)
                refine ifG h (fun hc5241 h => ?_) (fun hc5241 h => ?_)
                · skip
                  refine Safe.condK rfl hc5241 ?_
                  repeat (first | refine Safe.seq ?_ | refine Safe.skip ?_ | with_reducible refine thenQ.n ?_ | with_reducible refine blockQ.n ?_)
                  refine Safe.region ?_
                  refine SafeOps.quiet0 E_good rfl rfl rfl (v := V.bool false) (.fn rfl) ?_
                  refine SafeOps.nil ?_
                  repeat (first | refine Safe.seq ?_ | refine Safe.skip ?_ | with_reducible refine thenQ.n ?_ | with_reducible refine blockQ.n ?_)
                  refine Safe.ret ?_
                  repeat (first | with_reducible refine thenQ.r ?_ | with_reducible refine blockQ.r ?_)
                  replace h := inr_out h hr5238
                  obtain rfl := Option.some.inj h
                  exact retQ.gen (vs := [V.bool false]) rfl (.tmp (v := V.bool false) rfl .nil) (.free rfl) (by simp) (.inr rfl)
                · skip
                  refine Safe.condN rfl hc5241 ?_
                  repeat (first | refine Safe.seq ?_ | refine Safe.skip ?_ | with_reducible refine thenQ.n ?_ | with_reducible refine blockQ.n ?_)
                  refine Safe.region ?_
                  refine SafeOps.quiet0 E_good rfl rfl rfl (v := V.int .i64 (IntKind.i64.wrap (v104_5237 + 1))) (.fn rfl) ?_
                  refine SafeOps.quiet0 E_good rfl rfl rfl (v := V.int .i64 (IntKind.i64.wrap (v104_5237 + 1))) (.fn rfl) ?_
                  refine SafeOps.nil ?_
                  repeat (first | refine Safe.seq ?_ | refine Safe.skip ?_ | with_reducible refine thenQ.n ?_ | with_reducible refine blockQ.n ?_)
                  exact ⟨_, next_out h, (.cov ⟨rfl, rfl, (upT_cons (.refl _) (upT_cons (.refl _) (upT_cons (.refl _) (upT_cons (.refl _) (upT_cons (.refl _) upT_nil))))), (upOb_cons rfl (.refl _) upOb_nil), upOut_nil, rfl⟩)⟩
              · skip
                refine Safe.condN rfl hc5239 ?_
                repeat (first | refine Safe.seq ?_ | refine Safe.skip ?_ | with_reducible refine thenQ.n ?_ | with_reducible refine blockQ.n ?_)
                refine Safe.exit ?_
                repeat (first | with_reducible refine thenQ.e ?_ | with_reducible refine blockQ.x rfl ?_ | with_reducible refine blockQ.y rfl ?_)
                replace h := inr_out h hr5238
                repeat (first | refine Safe.seq ?_ | refine Safe.skip ?_ | with_reducible refine thenQ.n ?_ | with_reducible refine blockQ.n ?_)
                refine Safe.region ?_
                refine SafeOps.quiet0 E_good rfl rfl rfl (v := V.bool x_5125) (.fn rfl) ?_
                refine SafeOps.quiet0 E_good rfl rfl rfl (v := V.bool x_5125) (.fn rfl) ?_
                refine SafeOps.nil ?_
                repeat (first | refine Safe.seq ?_ | refine Safe.skip ?_ | with_reducible refine thenQ.n ?_ | with_reducible refine blockQ.n ?_)
                refine Safe.ret ?_
                repeat (first | with_reducible refine thenQ.r ?_ | with_reducible refine blockQ.r ?_)
                obtain rfl := Option.some.inj h
                exact retQ.gen (vs := [V.bool x_5125]) rfl (.tmp (v := V.bool x_5125) rfl .nil) (.free rfl) (by simp) (.inr rfl)
        · skip
          refine ifG h (fun hc5242 h => ?_) (fun hc5242 h => ?_)
          · skip
            refine Safe.condK rfl hc5242 ?_
            repeat (first | refine Safe.seq ?_ | refine Safe.skip ?_ | with_reducible refine thenQ.n ?_ | with_reducible refine blockQ.n ?_)
            refine Safe.region ?_
            refine SafeOps.quiet0 E_good rfl rfl rfl (v := V.ref [33, 0] 0 (rws api_Timer.cells x_5134).length) (.fn rfl) ?_
            refine SafeOps.quiet0 E_good rfl rfl rfl (v := V.ptr [3] 0 1) (.fn rfl) ?_
            refine SafeOps.quiet0 E_good rfl rfl rfl (v := V.int .i64 a1_4994.Id) (.load rfl rfl (.box rfl rfl) rfl) ?_
            refine bindG h ?_
            rintro ⟨x_5243, x_5244⟩ he5245 h
            refine SafeOps.quiet E_good rfl rfl rfl (v := V.tup [V.ref [42, 0] 0 (rws api_Timer.cells x_5243).length, V.int .i64 x_5244]) (.callS rfl (.cons (.full rfl rfl) (.cons (.free rfl) .nil)) (go_heap_Cancel_sc x_5134 a1_4994.Id _ he5245) (.tupL (.cons (.ownM (fun _ => rfl)) (.cons (.plain rfl) .nil))) rfl) rfl ?_
            refine SafeOps.quiet0 E_good rfl rfl rfl (v := V.tup [V.ref [42, 0] 0 (rws api_Timer.cells x_5243).length, V.int .i64 x_5244]) (.fn rfl) ?_
            refine SafeOps.quiet0 E_good rfl rfl rfl (v := V.ref [42, 0] 0 (rws api_Timer.cells x_5243).length) (.fn rfl) ?_
            refine SafeOps.quiet0 E_good rfl rfl rfl (v := V.int .i64 x_5244) (.fn rfl) ?_
            refine SafeOps.quiet0 E_good rfl rfl rfl (v := V.ref [42, 0] 0 (rws api_Timer.cells x_5243).length) (.fn rfl) ?_
            refine SafeOps.quiet0 E_good rfl rfl rfl (v := V.int .i64 x_5244) (.fn rfl) ?_
            refine SafeOps.nil ?_
            repeat (first | refine Safe.seq ?_ | refine Safe.skip ?_ | with_reducible refine thenQ.n ?_ | with_reducible refine blockQ.n ?_)
            refine Safe.region ?_
            refine SafeOps.quiet0 E_good rfl rfl rfl (v := V.int .i64 x_5244) (.fn rfl) ?_
            refine SafeOps.quiet0 E_good rfl rfl rfl (v := V.bool (x_5244 != 0)) (.fn rfl) ?_
            refine SafeOps.quiet0 E_good rfl rfl rfl (v := V.bool (x_5244 != 0)) (.fn rfl) ?_
            refine SafeOps.bsplit 5 52 (fun b_5249 => go_ravellaw08_HeapBack_j6 a0_4993 x_5125 x_5134 b_5249 = some r) (fun HJ5250 => ?_) (fun b_5249 h => ?_)
            · refine ifG h (fun hc5246 h => ?_) (fun hc5246 h => ?_)
              · skip
                refine SafeOps.skip (congrArg (fun b => some (!b)) hc5246) rfl rfl ?_
                refine SafeOps.skip (congrArg (fun b => some (!b)) hc5246) rfl rfl ?_
                refine SafeOps.skip (congrArg (fun b => some (!b)) hc5246) rfl rfl ?_
                refine SafeOps.skip (congrArg (fun b => some (!b)) hc5246) rfl rfl ?_
                refine SafeOps.quiet0 E_good rfl rfl rfl (v := V.bool true) (.pickK rfl hc5246 rfl) ?_
                exact SafeOps.drop' 5 rfl rfl rfl (HJ5250 _ h)
              · skip
                refine SafeOps.quiet0 E_good (congrArg (fun b => some (!b)) hc5246) rfl rfl (v := V.ref [42, 0] 0 (rws api_Timer.cells x_5243).length) (.fn rfl) ?_
                refine SafeOps.quiet0 E_good (congrArg (fun b => some (!b)) hc5246) rfl rfl (v := V.sl 2 (rws api_Timer.cells a0_4993)) (.fn rfl) ?_
                refine bindG h ?_
                intro x_5253 he5254 h
                refine SafeOps.quiet0 E_good (congrArg (fun b => some (!b)) hc5246) rfl rfl (v := V.bool x_5253) (.callS rfl (.cons (.full rfl rfl) (.cons (.free rfl) .nil)) (go_heap_Same_sc x_5243 a0_4993 _ he5254) (.plain rfl) rfl) ?_
                refine SafeOps.quiet0 E_good (congrArg (fun b => some (!b)) hc5246) rfl rfl (v := V.bool (!x_5253)) (.fn rfl) ?_
                refine SafeOps.quiet0 E_good rfl rfl rfl (v := V.bool (!x_5253)) (.pickK rfl hc5246 rfl) ?_
                exact SafeOps.drop' 5 rfl rfl rfl (HJ5250 _ h)
            · replace h : go_ravellaw08_HeapBack_j6 a0_4993 x_5125 x_5134 b_5249 = some r := h
              rw [go_ravellaw08_HeapBack_j6] at h
              refine SafeOps.quiet0 E_good rfl rfl rfl (v := V.bool b_5249) (.fn rfl) ?_
              refine SafeOps.bjoin 7 60 (b := (b_5249 || ((x_5134.length : Int) != (IntKind.i64.wrap ((a0_4993.length : Int) + 1))))) (b1 := true) (b0 := ((x_5134.length : Int) != (IntKind.i64.wrap ((a0_4993.length : Int) + 1)))) (fun hc5251 K => ?_) (fun hc5251 K => ?_) bj_or ?_
              · skip
                refine SafeOps.skip (congrArg (fun b => some (!b)) hc5251) rfl rfl ?_
                refine SafeOps.skip (congrArg (fun b => some (!b)) hc5251) rfl rfl ?_
                refine SafeOps.skip (congrArg (fun b => some (!b)) hc5251) rfl rfl ?_
                refine SafeOps.skip (congrArg (fun b => some (!b)) hc5251) rfl rfl ?_
                refine SafeOps.skip (congrArg (fun b => some (!b)) hc5251) rfl rfl ?_
                refine SafeOps.skip (congrArg (fun b => some (!b)) hc5251) rfl rfl ?_
                refine SafeOps.quiet0 E_good rfl rfl rfl (v := V.bool true) (.pickK rfl hc5251 rfl) ?_
                exact SafeOps.drop' 7 rfl rfl rfl K
              · skip
                refine SafeOps.quiet0 E_good (congrArg (fun b => some (!b)) hc5251) rfl rfl (v := V.ref [33, 0] 0 (rws api_Timer.cells x_5134).length) (.fn rfl) ?_
                refine SafeOps.quiet0 E_good (congrArg (fun b => some (!b)) hc5251) rfl rfl (v := V.int .i64 (x_5134.length : Int)) (.fnE rfl lenE) ?_
                refine SafeOps.quiet0 E_good (congrArg (fun b => some (!b)) hc5251) rfl rfl (v := V.sl 2 (rws api_Timer.cells a0_4993)) (.fn rfl) ?_
                refine SafeOps.quiet0 E_good (congrArg (fun b => some (!b)) hc5251) rfl rfl (v := V.int .i64 (a0_4993.length : Int)) (.fnE rfl lenE) ?_
                refine SafeOps.quiet0 E_good (congrArg (fun b => some (!b)) hc5251) rfl rfl (v := V.int .i64 (IntKind.i64.wrap ((a0_4993.length : Int) + 1))) (.fn rfl) ?_
                refine SafeOps.quiet0 E_good (congrArg (fun b => some (!b)) hc5251) rfl rfl (v := V.bool ((x_5134.length : Int) != (IntKind.i64.wrap ((a0_4993.length : Int) + 1)))) (.fn rfl) ?_
                refine SafeOps.quiet0 E_good rfl rfl rfl (v := V.bool ((x_5134.length : Int) != (IntKind.i64.wrap ((a0_4993.length : Int) + 1)))) (.pickK rfl hc5251 rfl) ?_
                exact SafeOps.drop' 7 rfl rfl rfl K
              refine SafeOps.nil ?_
              repeat (first | refine Safe.seq ?_ | refine Safe.skip ?_ | with_reducible refine thenQ.n ?_ | with_reducible refine blockQ.n ?_)
              refine ifG h (fun hc5252 h => ?_) (fun hc5252 h => ?_)
              · skip
                refine Safe.condK rfl hc5252 ?_
                repeat (first | refine Safe.seq ?_ | refine Safe.skip ?_ | with_reducible refine thenQ.n ?_ | with_reducible refine blockQ.n ?_)
                refine Safe.region ?_
                refine SafeOps.quiet0 E_good rfl rfl rfl (v := V.bool false) (.fn rfl) ?_
                refine SafeOps.nil ?_
                repeat (first | refine Safe.seq ?_ | refine Safe.skip ?_ | with_reducible refine thenQ.n ?_ | with_reducible refine blockQ.n ?_)
                refine Safe.ret ?_
                repeat (first | with_reducible refine thenQ.r ?_ | with_reducible refine blockQ.r ?_)
                obtain rfl := Option.some.inj h
                exact retQ.gen (vs := [V.bool false]) rfl (.tmp (v := V.bool false) rfl .nil) (.free rfl) (by simp) (.inr rfl)
              · skip
                refine Safe.condN rfl hc5252 ?_
                repeat (first | refine Safe.skip ?_ | with_reducible refine thenQ.n ?_ | with_reducible refine blockQ.n ?_)
                exact Safe.got (HJ5149 () h) (.cov ⟨rfl, rfl, (upT_cons (.refl _) (upT_cons (.refl _) upT_nil)), upOb_nil, upOut_nil, rfl⟩)
          · skip
            refine Safe.condN rfl hc5242 ?_
            repeat (first | refine Safe.skip ?_ | with_reducible refine thenQ.n ?_ | with_reducible refine blockQ.n ?_)
            exact Safe.got (HJ5149 () h) (.cov ⟨rfl, rfl, (upT_cons (.refl _) (upT_cons (.refl _) upT_nil)), upOb_nil, upOut_nil, rfl⟩)

end Go.Proofs.Ytbcapidhhbkkcaa
