/- Helper lemmas for the claim's theorem: an abstract machine over the model, proved sound; no condition beyond each lemma's own. -/
import Derived.Test.YtbcapidhhbkkcaaT0
set_option linter.unusedVariables false
set_option linter.unusedSimpArgs false
set_option linter.unnecessarySimpa false
set_option linter.unusedSectionVars false
namespace Go.Proofs.Ytbcapidhhbkkcaa
open Go Go.AM
set_option maxRecDepth 100000
set_option maxHeartbeats 1000000
set_option linter.unusedVariables false
set_option linter.unusedSimpArgs false
variable {gl : List (Nat × List V)}
noncomputable def go_heap_Cancel_s8  : ((List api_Timer) × Int) → Option (((List api_Timer) × Int) ⊕ ((List api_Timer) × Int))
  | (v0_1138, v1_1139) =>
    if (decide (v1_1139 > 0)) = true then
      if 0 ≤ (IntKind.i64.wrap (Int.tdiv (IntKind.i64.wrap (v1_1139 - 1)) 4)) ∧ (IntKind.i64.wrap (Int.tdiv (IntKind.i64.wrap (v1_1139 - 1)) 4)) < (v0_1138.length : Int) then
        if 0 ≤ v1_1139 ∧ v1_1139 < (v0_1138.length : Int) then
          (go_heap_order (gt v0_1138 (IntKind.i64.wrap (Int.tdiv (IntKind.i64.wrap (v1_1139 - 1)) 4))) (gt v0_1138 v1_1139)).bind fun x_1144 =>
          if (decide (x_1144 ≤ 0)) = true then
            inrO (
              some (v0_1138, 0))
          else
            if 0 ≤ v1_1139 ∧ v1_1139 < (v0_1138.length : Int) then
              if 0 ≤ (IntKind.i64.wrap (Int.tdiv (IntKind.i64.wrap (v1_1139 - 1)) 4)) ∧ (IntKind.i64.wrap (Int.tdiv (IntKind.i64.wrap (v1_1139 - 1)) 4)) < (v0_1138.length : Int) then
                if 0 ≤ (IntKind.i64.wrap (Int.tdiv (IntKind.i64.wrap (v1_1139 - 1)) 4)) ∧ (IntKind.i64.wrap (Int.tdiv (IntKind.i64.wrap (v1_1139 - 1)) 4)) < (v0_1138.length : Int) then
                  if 0 ≤ v1_1139 ∧ v1_1139 < ((st v0_1138 (IntKind.i64.wrap (Int.tdiv (IntKind.i64.wrap (v1_1139 - 1)) 4)) (gt v0_1138 v1_1139)).length : Int) then
                    nextO (st (st v0_1138 (IntKind.i64.wrap (Int.tdiv (IntKind.i64.wrap (v1_1139 - 1)) 4)) (gt v0_1138 v1_1139)) v1_1139 (gt v0_1138 (IntKind.i64.wrap (Int.tdiv (IntKind.i64.wrap (v1_1139 - 1)) 4))), IntKind.i64.wrap (Int.tdiv (IntKind.i64.wrap (v1_1139 - 1)) 4))
                  else none
                else none
              else none
            else none
        else none
      else none
    else
      inrO (
        some (v0_1138, 0))

noncomputable def go_heap_Cancel_s7 (x_936 : Int) (v0_1060 : List api_Timer) (v1_1061 : Int) : (Int × Int) → Option ((Int × Int) ⊕ (((List api_Timer) × Int) ⊕ ((List api_Timer) × Int)))
  | (v4_1105, v5_1106) =>
    if ((decide (v5_1106 ≤ (IntKind.i64.wrap ((IntKind.i64.wrap (4 * v1_1061)) + 4)))) && (decide (v5_1106 < (v0_1060.length : Int)))) = true then
      if 0 ≤ v5_1106 ∧ v5_1106 < (v0_1060.length : Int) then
        if 0 ≤ v4_1105 ∧ v4_1105 < (v0_1060.length : Int) then
          (go_heap_order (gt v0_1060 v5_1106) (gt v0_1060 v4_1105)).bind fun x_1112 =>
          if (decide (x_1112 < 0)) = true then
            nextO (v5_1106, IntKind.i64.wrap (v5_1106 + 1))
          else
            nextO (v4_1105, IntKind.i64.wrap (v5_1106 + 1))
        else none
      else none
    else
      inrO (
        if (v4_1105 == v1_1061) = true then
          inrO (
            whileO go_heap_Cancel_s8 (v0_1060, x_936))
        else
          if 0 ≤ v1_1061 ∧ v1_1061 < (v0_1060.length : Int) then
            if 0 ≤ v4_1105 ∧ v4_1105 < (v0_1060.length : Int) then
              if 0 ≤ v4_1105 ∧ v4_1105 < (v0_1060.length : Int) then
                if 0 ≤ v1_1061 ∧ v1_1061 < ((st v0_1060 v4_1105 (gt v0_1060 v1_1061)).length : Int) then
                  nextO (st (st v0_1060 v4_1105 (gt v0_1060 v1_1061)) v1_1061 (gt v0_1060 v4_1105), v4_1105)
                else none
              else none
            else none
          else none)

noncomputable def go_heap_Cancel_s5 (x_936 : Int) : ((List api_Timer) × Int) → Option (((List api_Timer) × Int) ⊕ ((List api_Timer) × Int))
  | (v0_1060, v1_1061) =>
    whileO (go_heap_Cancel_s7 x_936 v0_1060 v1_1061) (v1_1061, IntKind.i64.wrap ((IntKind.i64.wrap (4 * v1_1061)) + 1))

noncomputable def go_heap_Cancel (a0_699 : List api_Timer) (a1_700 : Int) : Option ((List api_Timer) × Int) :=
  (go_heap_find a0_699 a1_700).bind fun (x_935, x_936, x_937) =>
  if (x_937 != 0) = true then
    some ([], x_937)
  else
    if 0 ≤ (IntKind.i64.wrap ((x_935.length : Int) - 1)) ∧ (IntKind.i64.wrap ((x_935.length : Int) - 1)) < (x_935.length : Int) then
      if 0 ≤ x_936 ∧ x_936 < (x_935.length : Int) then
        if 0 ≤ (IntKind.i64.wrap ((x_935.length : Int) - 1)) ∧ (IntKind.i64.wrap ((x_935.length : Int) - 1)) ≤ ((st x_935 x_936 (gt x_935 (IntKind.i64.wrap ((x_935.length : Int) - 1)))).length : Int) then
          if (decide (x_936 < (IntKind.i64.wrap ((x_935.length : Int) - 1)))) = true then
            whileO (go_heap_Cancel_s5 x_936) (sub (st x_935 x_936 (gt x_935 (IntKind.i64.wrap ((x_935.length : Int) - 1)))) 0 (IntKind.i64.wrap ((x_935.length : Int) - 1)), x_936)
          else
            some (sub (st x_935 x_936 (gt x_935 (IntKind.i64.wrap ((x_935.length : Int) - 1)))) 0 (IntKind.i64.wrap ((x_935.length : Int) - 1)), 0)
        else none
      else none
    else none

theorem go_heap_Cancel_sc (a0_699 : List api_Timer) (a1_700 : Int) (r : (List api_Timer) × Int) (h : go_heap_Cancel a0_699 a1_700 = some r) : SC Try.prog gl 13 [V.sl 2 (rws api_Timer.cells a0_699), V.int .i64 a1_700] (V.tup [V.own 2 (rws api_Timer.cells r.1), V.int .i64 r.2]) := by
  rw [go_heap_Cancel] at h
  refine SC.of E_good Try.func13 rfl (fun _ _ => Try.call13 _ _) rfl ?_
  repeat (first | refine Safe.seq ?_ | refine Safe.skip ?_ | with_reducible refine thenQ.n ?_ | with_reducible refine blockQ.n ?_)
  refine Safe.region ?_
  refine SafeOps.quiet0 E_good rfl rfl rfl (v := V.nils) (.fn rfl) ?_
  refine SafeOps.quiet0 E_good rfl rfl rfl (v := V.int .i64 0) (.fn rfl) ?_
  refine SafeOps.nil ?_
  repeat (first | refine Safe.seq ?_ | refine Safe.skip ?_ | with_reducible refine thenQ.n ?_ | with_reducible refine blockQ.n ?_)
  refine Safe.region ?_
  refine SafeOps.quiet0 E_good rfl rfl rfl (v := V.sl 2 (rws api_Timer.cells a0_699)) (.fn rfl) ?_
  refine SafeOps.quiet0 E_good rfl rfl rfl (v := V.int .i64 a1_700) (.fn rfl) ?_
  refine bindG h ?_
  rintro ⟨x_935, x_936, x_937⟩ he938 h
  refine SafeOps.quiet E_good rfl rfl rfl (v := V.tup [V.ref [12, 0] 0 (rws api_Timer.cells x_935).length, V.int .i64 x_936, V.int .i64 x_937]) (.callP rfl rfl (go_heap_find_sc a0_699 a1_700 _ he938) rfl) rfl ?_
  refine SafeOps.quiet0 E_good rfl rfl rfl (v := V.tup [V.ref [12, 0] 0 (rws api_Timer.cells x_935).length, V.int .i64 x_936, V.int .i64 x_937]) (.fn rfl) ?_
  refine SafeOps.quiet0 E_good rfl rfl rfl (v := V.ref [12, 0] 0 (rws api_Timer.cells x_935).length) (.fn rfl) ?_
  refine SafeOps.quiet0 E_good rfl rfl rfl (v := V.int .i64 x_936) (.fn rfl) ?_
  refine SafeOps.quiet0 E_good rfl rfl rfl (v := V.int .i64 x_937) (.fn rfl) ?_
  refine SafeOps.quiet0 E_good rfl rfl rfl (v := V.ref [12, 0] 0 (rws api_Timer.cells x_935).length) (.fn rfl) ?_
  refine SafeOps.quiet0 E_good rfl rfl rfl (v := V.int .i64 x_936) (.fn rfl) ?_
  refine SafeOps.quiet0 E_good rfl rfl rfl (v := V.int .i64 x_937) (.fn rfl) ?_
  refine SafeOps.nil ?_
  repeat (first | refine Safe.seq ?_ | refine Safe.skip ?_ | with_reducible refine thenQ.n ?_ | with_reducible refine blockQ.n ?_)
  refine Safe.region ?_
  refine SafeOps.quiet0 E_good rfl rfl rfl (v := V.int .i64 x_937) (.fn rfl) ?_
  refine SafeOps.quiet0 E_good rfl rfl rfl (v := V.bool (x_937 != 0)) (.fn rfl) ?_
  refine SafeOps.nil ?_
  repeat (first | refine Safe.seq ?_ | refine Safe.skip ?_ | with_reducible refine thenQ.n ?_ | with_reducible refine blockQ.n ?_)
  refine ifG h (fun hc939 h => ?_) (fun hc939 h => ?_)
  · skip
    refine Safe.condK rfl hc939 ?_
    repeat (first | refine Safe.seq ?_ | refine Safe.skip ?_ | with_reducible refine thenQ.n ?_ | with_reducible refine blockQ.n ?_)
    refine Safe.region ?_
    refine SafeOps.quiet0 E_good rfl rfl rfl (v := V.int .i64 x_937) (.fn rfl) ?_
    refine SafeOps.quiet0 E_good rfl rfl rfl (v := V.nils) (.fn rfl) ?_
    refine SafeOps.quiet0 E_good rfl rfl rfl (v := V.int .i64 x_937) (.fn rfl) ?_
    refine SafeOps.nil ?_
    repeat (first | refine Safe.seq ?_ | refine Safe.skip ?_ | with_reducible refine thenQ.n ?_ | with_reducible refine blockQ.n ?_)
    refine Safe.ret ?_
    repeat (first | with_reducible refine thenQ.r ?_ | with_reducible refine blockQ.r ?_)
    obtain rfl := Option.some.inj h
    exact retQ.gen (vs := [V.nils, V.int .i64 x_937]) rfl (.tmp (v := V.nils) rfl (.tmp (v := V.int .i64 x_937) rfl .nil)) (by exact (.tup (.cons (.nils _) (.cons (.free rfl) .nil)))) (by simp) (.inr rfl)
  · skip
    refine Safe.condN rfl hc939 ?_
    repeat (first | refine Safe.seq ?_ | refine Safe.skip ?_ | with_reducible refine thenQ.n ?_ | with_reducible refine blockQ.n ?_)
    refine Safe.region ?_
    refine SafeOps.quiet0 E_good rfl rfl rfl (v := V.ref [12, 0] 0 (rws api_Timer.cells x_935).length) (.fn rfl) ?_
    refine SafeOps.quiet0 E_good rfl rfl rfl (v := V.int .i64 x_936) (.fn rfl) ?_
    refine SafeOps.inline E_good rfl rfl rfl rfl rfl Try.func39 rfl (fun _ _ => Try.call39 _ _) rfl ?_
    repeat (first | refine Safe.seq ?_ | refine Safe.skip ?_ | with_reducible refine thenQ.n ?_ | with_reducible refine blockQ.n ?_)
    refine Safe.region ?_
    refine SafeOps.quiet0 E_good rfl rfl rfl (v := V.nils) (.fn rfl) ?_
    refine SafeOps.nil ?_
    repeat (first | refine Safe.seq ?_ | refine Safe.skip ?_ | with_reducible refine thenQ.n ?_ | with_reducible refine blockQ.n ?_)
    refine Safe.region ?_
    refine SafeOps.quiet0 E_good rfl rfl rfl (v := V.ref [12, 0] 0 (rws api_Timer.cells x_935).length) (.fn rfl) ?_
    refine SafeOps.quiet0 E_good rfl rfl rfl (v := V.int .i64 (x_935.length : Int)) (.fnE rfl lenE) ?_
    refine SafeOps.quiet0 E_good rfl rfl rfl (v := V.int .i64 (IntKind.i64.wrap ((x_935.length : Int) - 1))) (.fn rfl) ?_
    refine SafeOps.quiet0 E_good rfl rfl rfl (v := V.int .i64 (IntKind.i64.wrap ((x_935.length : Int) - 1))) (.fn rfl) ?_
    refine SafeOps.nil ?_
    repeat (first | refine Safe.seq ?_ | refine Safe.skip ?_ | with_reducible refine thenQ.n ?_ | with_reducible refine blockQ.n ?_)
    refine Safe.region ?_
    refine SafeOps.quiet0 E_good rfl rfl rfl (v := V.ref [12, 0] 0 (rws api_Timer.cells x_935).length) (.fn rfl) ?_
    refine SafeOps.quiet0 E_good rfl rfl rfl (v := V.int .i64 x_936) (.fn rfl) ?_
    refine SafeOps.quiet0 E_good rfl rfl rfl (v := V.ref [12, 0] 0 (rws api_Timer.cells x_935).length) (.fn rfl) ?_
    refine SafeOps.quiet0 E_good rfl rfl rfl (v := V.int .i64 (IntKind.i64.wrap ((x_935.length : Int) - 1))) (.fn rfl) ?_
    refine okG h (fun hb940 h => ?_)
    refine SafeOps.quiet0 E_good rfl rfl rfl (v := V.ptr [12, 0] (0 + Int.toNat (IntKind.i64.wrap ((x_935.length : Int) - 1))) 0) (.idxRefM (f := api_Timer.cells) (xs := x_935) rfl rfl rfl rfl rfl rfl hb940) ?_
    refine SafeOps.quiet0 E_good rfl rfl rfl (v := V.agg [V.int .i64 ((gt x_935 (IntKind.i64.wrap ((x_935.length : Int) - 1))).At), V.int .i64 ((gt x_935 (IntKind.i64.wrap ((x_935.length : Int) - 1))).Id)]) (.load rfl rfl (.rowsM (f := api_Timer.cells) (xs := x_935) hb940 rfl rfl) rfl) ?_
    refine okG h (fun hb941 h => ?_)
    refine SafeOps.quiet0 E_good rfl rfl rfl (v := V.ptr [12, 0] (0 + Int.toNat x_936) 0) (.idxRefM (f := api_Timer.cells) (xs := x_935) rfl rfl rfl rfl rfl rfl hb941) ?_
    refine SafeOps.store (z := Obj.rows 2 (rws api_Timer.cells (st x_935 x_936 (gt x_935 (IntKind.i64.wrap ((x_935.length : Int) - 1))))) false) E_good rfl rfl rfl rfl rfl rfl rfl (.rowsM (f := api_Timer.cells) (xs := x_935) (y := (gt x_935 (IntKind.i64.wrap ((x_935.length : Int) - 1)))) hb941 rfl rfl rfl rfl) ?_
    refine SafeOps.see 0 (u := V.ref [12, 0] 0 (rws api_Timer.cells (st x_935 x_936 (gt x_935 (IntKind.i64.wrap ((x_935.length : Int) - 1))))).length) rfl (.len (by simp [rws, st])) ?_
    refine SafeOps.see 6 (u := V.ref [12, 0] 0 (rws api_Timer.cells (st x_935 x_936 (gt x_935 (IntKind.i64.wrap ((x_935.length : Int) - 1))))).length) rfl (.len (by simp [rws, st])) ?_
    refine SafeOps.see 9 (u := V.ref [12, 0] 0 (rws api_Timer.cells (st x_935 x_936 (gt x_935 (IntKind.i64.wrap ((x_935.length : Int) - 1))))).length) rfl (.len (by simp [rws, st])) ?_
    refine SafeOps.see 11 (u := V.ref [12, 0] 0 (rws api_Timer.cells (st x_935 x_936 (gt x_935 (IntKind.i64.wrap ((x_935.length : Int) - 1))))).length) rfl (.len (by simp [rws, st])) ?_
    refine SafeOps.nil ?_
    repeat (first | refine Safe.seq ?_ | refine Safe.skip ?_ | with_reducible refine thenQ.n ?_ | with_reducible refine blockQ.n ?_)
    refine Safe.region ?_
    refine SafeOps.quiet0 E_good rfl rfl rfl (v := V.ref [12, 0] 0 (rws api_Timer.cells (st x_935 x_936 (gt x_935 (IntKind.i64.wrap ((x_935.length : Int) - 1))))).length) (.fn rfl) ?_
    refine SafeOps.quiet0 E_good rfl rfl rfl (v := V.int .i64 (IntKind.i64.wrap ((x_935.length : Int) - 1))) (.fn rfl) ?_
    refine okG h (fun hb942 h => ?_)
    refine SafeOps.quiet0 E_good rfl rfl rfl (v := V.ref [12, 0] 0 (Int.toNat (IntKind.i64.wrap ((x_935.length : Int) - 1)))) (.slRefH (f := api_Timer.cells) (xs := st x_935 x_936 (gt x_935 (IntKind.i64.wrap ((x_935.length : Int) - 1)))) rfl rfl rfl rfl rfl hb942) ?_
    refine SafeOps.truncM (f := api_Timer.cells) (xs := st x_935 x_936 (gt x_935 (IntKind.i64.wrap ((x_935.length : Int) - 1)))) [12, 0] (IntKind.i64.wrap ((x_935.length : Int) - 1)) rfl ?_
    refine SafeOps.see 18 (u := V.ref [12, 0] 0 (rws api_Timer.cells (sub (st x_935 x_936 (gt x_935 (IntKind.i64.wrap ((x_935.length : Int) - 1)))) 0 (IntKind.i64.wrap ((x_935.length : Int) - 1)))).length) rfl (.len (len_sub hb942)) ?_
    refine SafeOps.quiet0 E_good rfl rfl rfl (v := V.ref [12, 0] 0 (rws api_Timer.cells (sub (st x_935 x_936 (gt x_935 (IntKind.i64.wrap ((x_935.length : Int) - 1)))) 0 (IntKind.i64.wrap ((x_935.length : Int) - 1)))).length) (.fn rfl) ?_
    refine SafeOps.nil ?_
    repeat (first | refine Safe.seq ?_ | refine Safe.skip ?_ | with_reducible refine thenQ.n ?_ | with_reducible refine blockQ.n ?_)
    refine Safe.region ?_
    refine SafeOps.quiet0 E_good rfl rfl rfl (v := V.int .i64 x_936) (.fn rfl) ?_
    refine SafeOps.quiet0 E_good rfl rfl rfl (v := V.int .i64 (IntKind.i64.wrap ((x_935.length : Int) - 1))) (.fn rfl) ?_
    refine SafeOps.quiet0 E_good rfl rfl rfl (v := V.bool (decide (x_936 < (IntKind.i64.wrap ((x_935.length : Int) - 1))))) (.fn rfl) ?_
    refine SafeOps.nil ?_
    repeat (first | refine Safe.seq ?_ | refine Safe.skip ?_ | with_reducible refine thenQ.n ?_ | with_reducible refine blockQ.n ?_)
    refine ifG h (fun hc943 h => ?_) (fun hc943 h => ?_)
    · skip
      refine Safe.condK rfl hc943 ?_
      repeat (first | refine Safe.seq ?_ | refine Safe.skip ?_ | with_reducible refine thenQ.n ?_ | with_reducible refine blockQ.n ?_)
      refine Safe.region ?_
      refine SafeOps.quiet0 E_good rfl rfl rfl (v := V.ref [12, 0] 0 (rws api_Timer.cells (sub (st x_935 x_936 (gt x_935 (IntKind.i64.wrap ((x_935.length : Int) - 1)))) 0 (IntKind.i64.wrap ((x_935.length : Int) - 1)))).length) (.fn rfl) ?_
      refine SafeOps.quiet0 E_good rfl rfl rfl (v := V.int .i64 x_936) (.fn rfl) ?_
      refine SafeOps.inline E_good rfl rfl rfl rfl rfl Try.func40 rfl (fun _ _ => Try.call40 _ _) rfl ?_
      repeat (first | refine Safe.seq ?_ | refine Safe.skip ?_ | with_reducible refine thenQ.n ?_ | with_reducible refine blockQ.n ?_)
      refine Safe.block ?_
      repeat (first | refine Safe.seq ?_ | refine Safe.skip ?_ | with_reducible refine thenQ.n ?_ | with_reducible refine blockQ.n ?_)
      refine Safe.loopW (fun ((v0_1060, v1_1061) : (List api_Timer) × Int) => ⟨Try.f40.ntmps, [(0, V.ref [12, 0] 0 (rws api_Timer.cells v0_1060).length), (1, V.int .i64 v1_1061)], [([12, 0], Obj.rows 2 (rws api_Timer.cells v0_1060) false)], [(Try.f39.ntmps, [(0, V.ref [12, 0] 0 (rws api_Timer.cells v0_1060).length), (1, V.int .i64 x_936)]), (Try.f13.ntmps, [])], [21, 24]⟩) h (.cov ⟨rfl, rfl, (upT_cons (.refl _) (upT_cons (.refl _) upT_nil)), (upOb_cons rfl (.refl _) upOb_nil), (upOut_cons rfl (upT_cons (.refl _) (upT_cons (.refl _) upT_nil)) (upOut_cons rfl upT_nil upOut_nil)), rfl⟩) ?_
      rintro ⟨v0_1060, v1_1061⟩ ohr1062 h hr1062
      replace h : go_heap_Cancel_s5 x_936 (v0_1060, v1_1061) = some ohr1062 := h
      rw [go_heap_Cancel_s5] at h
      repeat (first | refine Safe.seq ?_ | refine Safe.skip ?_ | with_reducible refine thenQ.n ?_ | with_reducible refine blockQ.n ?_)
      refine Safe.block ?_
      repeat (first | refine Safe.seq ?_ | refine Safe.skip ?_ | with_reducible refine thenQ.n ?_ | with_reducible refine blockQ.n ?_)
      refine Safe.region ?_
      refine SafeOps.quiet0 E_good rfl rfl rfl (v := V.int .i64 v1_1061) (.fn rfl) ?_
      refine SafeOps.quiet0 E_good rfl rfl rfl (v := V.int .i64 v1_1061) (.fn rfl) ?_
      refine SafeOps.nil ?_
      repeat (first | refine Safe.seq ?_ | refine Safe.skip ?_ | with_reducible refine thenQ.n ?_ | with_reducible refine blockQ.n ?_)
      refine Safe.region ?_
      refine SafeOps.quiet0 E_good rfl rfl rfl (v := V.int .i64 v1_1061) (.fn rfl) ?_
      refine SafeOps.quiet0 E_good rfl rfl rfl (v := V.int .i64 (IntKind.i64.wrap (4 * v1_1061))) (.fn rfl) ?_
      refine SafeOps.quiet0 E_good rfl rfl rfl (v := V.int .i64 (IntKind.i64.wrap ((IntKind.i64.wrap (4 * v1_1061)) + 1))) (.fn rfl) ?_
      refine SafeOps.quiet0 E_good rfl rfl rfl (v := V.int .i64 (IntKind.i64.wrap ((IntKind.i64.wrap (4 * v1_1061)) + 1))) (.fn rfl) ?_
      refine SafeOps.nil ?_
      repeat (first | refine Safe.seq ?_ | refine Safe.skip ?_ | with_reducible refine thenQ.n ?_ | with_reducible refine blockQ.n ?_)
      refine Safe.block ?_
      repeat (first | refine Safe.seq ?_ | refine Safe.skip ?_ | with_reducible refine thenQ.n ?_ | with_reducible refine blockQ.n ?_)
      refine Safe.loopW (fun ((v4_1105, v5_1106) : Int × Int) => ⟨Try.f40.ntmps, [(0, V.ref [12, 0] 0 (rws api_Timer.cells v0_1060).length), (1, V.int .i64 v1_1061), (4, V.int .i64 v4_1105), (5, V.int .i64 v5_1106)], [([12, 0], Obj.rows 2 (rws api_Timer.cells v0_1060) false)], [(Try.f39.ntmps, [(0, V.ref [12, 0] 0 (rws api_Timer.cells v0_1060).length), (1, V.int .i64 x_936)]), (Try.f13.ntmps, [])], [21, 24]⟩) h (.cov ⟨rfl, rfl, (upT_cons (.refl _) (upT_cons (.refl _) (upT_cons (.refl _) (upT_cons (.refl _) upT_nil)))), (upOb_cons rfl (.refl _) upOb_nil), (upOut_cons rfl (upT_cons (.refl _) (upT_cons (.refl _) upT_nil)) (upOut_cons rfl upT_nil upOut_nil)), rfl⟩) ?_
      rintro ⟨v4_1105, v5_1106⟩ ohr1107 h hr1107
      replace h : go_heap_Cancel_s7 x_936 v0_1060 v1_1061 (v4_1105, v5_1106) = some ohr1107 := h
      rw [go_heap_Cancel_s7] at h
      repeat (first | refine Safe.seq ?_ | refine Safe.skip ?_ | with_reducible refine thenQ.n ?_ | with_reducible refine blockQ.n ?_)
      refine Safe.region ?_
      refine SafeOps.quiet0 E_good rfl rfl rfl (v := V.int .i64 v5_1106) (.fn rfl) ?_
      refine SafeOps.quiet0 E_good rfl rfl rfl (v := V.int .i64 v1_1061) (.fn rfl) ?_
      refine SafeOps.quiet0 E_good rfl rfl rfl (v := V.int .i64 (IntKind.i64.wrap (4 * v1_1061))) (.fn rfl) ?_
      refine SafeOps.quiet0 E_good rfl rfl rfl (v := V.int .i64 (IntKind.i64.wrap ((IntKind.i64.wrap (4 * v1_1061)) + 4))) (.fn rfl) ?_
      refine SafeOps.quiet0 E_good rfl rfl rfl (v := V.bool (decide (v5_1106 ≤ (IntKind.i64.wrap ((IntKind.i64.wrap (4 * v1_1061)) + 4))))) (.fn rfl) ?_
      refine SafeOps.quiet0 E_good rfl rfl rfl (v := V.bool (decide (v5_1106 ≤ (IntKind.i64.wrap ((IntKind.i64.wrap (4 * v1_1061)) + 4))))) (.fn rfl) ?_
      refine SafeOps.bjoin 5 20 (b := ((decide (v5_1106 ≤ (IntKind.i64.wrap ((IntKind.i64.wrap (4 * v1_1061)) + 4)))) && (decide (v5_1106 < (v0_1060.length : Int))))) (b1 := decide (v5_1106 < (v0_1060.length : Int))) (b0 := false) (fun hc1108 K => ?_) (fun hc1108 K => ?_) bj_and ?_
      · skip
        refine SafeOps.quiet0 E_good (congrArg some hc1108) rfl rfl (v := V.int .i64 v5_1106) (.fn rfl) ?_
        refine SafeOps.quiet0 E_good (congrArg some hc1108) rfl rfl (v := V.ref [12, 0] 0 (rws api_Timer.cells v0_1060).length) (.fn rfl) ?_
        refine SafeOps.quiet0 E_good (congrArg some hc1108) rfl rfl (v := V.int .i64 (v0_1060.length : Int)) (.fnE rfl lenE) ?_
        refine SafeOps.quiet0 E_good (congrArg some hc1108) rfl rfl (v := V.bool (decide (v5_1106 < (v0_1060.length : Int)))) (.fn rfl) ?_
        refine SafeOps.quiet0 E_good rfl rfl rfl (v := V.bool (decide (v5_1106 < (v0_1060.length : Int)))) (.pickK rfl hc1108 rfl) ?_
        exact SafeOps.drop' 5 rfl rfl rfl K
      · skip
        refine SafeOps.skip (congrArg some hc1108) rfl rfl ?_
        refine SafeOps.skip (congrArg some hc1108) rfl rfl ?_
        refine SafeOps.skip (congrArg some hc1108) rfl rfl ?_
        refine SafeOps.skip (congrArg some hc1108) rfl rfl ?_
        refine SafeOps.quiet0 E_good rfl rfl rfl (v := V.bool false) (.pickK rfl hc1108 rfl) ?_
        exact SafeOps.drop' 5 rfl rfl rfl K
      refine SafeOps.nil ?_
      repeat (first | refine Safe.seq ?_ | refine Safe.skip ?_ | with_reducible refine thenQ.n ?_ | with_reducible refine blockQ.n ?_)
      refine ifG h (fun hc1109 h => ?_) (fun hc1109 h => ?_)
      · skip
        refine Safe.condK rfl hc1109 ?_
        repeat (first | refine Safe.seq ?_ | refine Safe.skip ?_ | with_reducible refine thenQ.n ?_ | with_reducible refine blockQ.n ?_)
        refine Safe.block ?_
        repeat (first | refine Safe.seq ?_ | refine Safe.skip ?_ | with_reducible refine thenQ.n ?_ | with_reducible refine blockQ.n ?_)
        refine Safe.regionD (n := 10) [] [] E_good mixed rfl ?_
        refine DAny.take (i := 0) rfl (by kernel_rfl) [] (by kernel_rfl) (by kernel_rfl) (by kernel_rfl) rfl rfl rfl (v := V.ref [12, 0] 0 (rws api_Timer.cells v0_1060).length) (fun _ hz => (.fn rfl)) ?_
        refine DAny.take (i := 1) rfl (by kernel_rfl) [] (by kernel_rfl) (by kernel_rfl) (by kernel_rfl) rfl rfl rfl (v := V.int .i64 v5_1106) (fun _ hz => (.fn rfl)) ?_
        refine okG h (fun hb1110 h => ?_)
        refine DAny.take (i := 2) rfl (by kernel_rfl) [] (by kernel_rfl) (by kernel_rfl) (by kernel_rfl) rfl rfl rfl (v := V.ptr [12, 0] (0 + Int.toNat v5_1106) 0) (fun _ hz => (.idxRefM (f := api_Timer.cells) (xs := v0_1060) rfl rfl rfl (hz _ _ rfl rfl) rfl rfl hb1110)) ?_
        refine DAny.take (i := 3) rfl (by kernel_rfl) [] (by kernel_rfl) (by kernel_rfl) (by kernel_rfl) rfl rfl rfl (v := V.agg [V.int .i64 ((gt v0_1060 v5_1106).At), V.int .i64 ((gt v0_1060 v5_1106).Id)]) (fun _ hz => (.load rfl rfl (.rowsM (f := api_Timer.cells) (xs := v0_1060) hb1110 (hz _ _ rfl rfl) rfl) rfl)) ?_
        refine DAny.take (i := 4) rfl (by kernel_rfl) [] (by kernel_rfl) (by kernel_rfl) (by kernel_rfl) rfl rfl rfl (v := V.ref [12, 0] 0 (rws api_Timer.cells v0_1060).length) (fun _ hz => (.fn rfl)) ?_
        refine DAny.take (i := 5) rfl (by kernel_rfl) [] (by kernel_rfl) (by kernel_rfl) (by kernel_rfl) rfl rfl rfl (v := V.int .i64 v4_1105) (fun _ hz => (.fn rfl)) ?_
        refine okG h (fun hb1111 h => ?_)
        refine DAny.take (i := 6) rfl (by kernel_rfl) [] (by kernel_rfl) (by kernel_rfl) (by kernel_rfl) rfl rfl rfl (v := V.ptr [12, 0] (0 + Int.toNat v4_1105) 0) (fun _ hz => (.idxRefM (f := api_Timer.cells) (xs := v0_1060) rfl rfl rfl (hz _ _ rfl rfl) rfl rfl hb1111)) ?_
        refine DAny.take (i := 7) rfl (by kernel_rfl) [] (by kernel_rfl) (by kernel_rfl) (by kernel_rfl) rfl rfl rfl (v := V.agg [V.int .i64 ((gt v0_1060 v4_1105).At), V.int .i64 ((gt v0_1060 v4_1105).Id)]) (fun _ hz => (.load rfl rfl (.rowsM (f := api_Timer.cells) (xs := v0_1060) hb1111 (hz _ _ rfl rfl) rfl) rfl)) ?_
        refine bindG h ?_
        intro x_1112 he1113 h
        refine DAny.take (i := 8) rfl (by kernel_rfl) [] (by kernel_rfl) (by kernel_rfl) (by kernel_rfl) rfl rfl rfl (v := V.int .i64 x_1112) (fun _ hz => (.callP rfl rfl (go_heap_order_sc (gt v0_1060 v5_1106) (gt v0_1060 v4_1105) _ he1113) rfl)) ?_
        refine DAny.take (i := 9) rfl (by kernel_rfl) [] (by kernel_rfl) (by kernel_rfl) (by kernel_rfl) rfl rfl rfl (v := V.bool (decide (x_1112 < 0))) (fun _ hz => (.fn rfl)) ?_
        refine DAny.nil (by kernel_rfl) ?_
        repeat (first | refine Safe.seq ?_ | refine Safe.skip ?_ | with_reducible refine thenQ.n ?_ | with_reducible refine blockQ.n ?_)
        refine ifG h (fun hc1114 h => ?_) (fun hc1114 h => ?_)
        · skip
          refine Safe.condK rfl hc1114 ?_
          repeat (first | refine Safe.seq ?_ | refine Safe.skip ?_ | with_reducible refine thenQ.n ?_ | with_reducible refine blockQ.n ?_)
          refine Safe.region ?_
          refine SafeOps.quiet0 E_good rfl rfl rfl (v := V.int .i64 v5_1106) (.fn rfl) ?_
          refine SafeOps.quiet0 E_good rfl rfl rfl (v := V.int .i64 v5_1106) (.fn rfl) ?_
          refine SafeOps.nil ?_
          repeat (first | refine Safe.seq ?_ | refine Safe.skip ?_ | with_reducible refine thenQ.n ?_ | with_reducible refine blockQ.n ?_)
          refine Safe.region ?_
          refine SafeOps.quiet0 E_good rfl rfl rfl (v := V.int .i64 v5_1106) (.fn rfl) ?_
          refine SafeOps.quiet0 E_good rfl rfl rfl (v := V.int .i64 (IntKind.i64.wrap (v5_1106 + 1))) (.fn rfl) ?_
          refine SafeOps.quiet0 E_good rfl rfl rfl (v := V.int .i64 (IntKind.i64.wrap (v5_1106 + 1))) (.fn rfl) ?_
          refine SafeOps.nil ?_
          repeat (first | refine Safe.seq ?_ | refine Safe.skip ?_ | with_reducible refine thenQ.n ?_ | with_reducible refine blockQ.n ?_)
          exact ⟨_, next_out h, (.cov ⟨rfl, rfl, (upT_cons (.refl _) (upT_cons (.refl _) (upT_cons (.refl _) (upT_cons (.refl _) upT_nil)))), (upOb_cons rfl (.refl _) upOb_nil), (upOut_cons rfl (upT_cons (.refl _) (upT_cons (.refl _) upT_nil)) (upOut_cons rfl upT_nil upOut_nil)), rfl⟩)⟩
        · skip
          refine Safe.condN rfl hc1114 ?_
          repeat (first | refine Safe.seq ?_ | refine Safe.skip ?_ | with_reducible refine thenQ.n ?_ | with_reducible refine blockQ.n ?_)
          refine Safe.region ?_
          refine SafeOps.quiet0 E_good rfl rfl rfl (v := V.int .i64 v5_1106) (.fn rfl) ?_
          refine SafeOps.quiet0 E_good rfl rfl rfl (v := V.int .i64 (IntKind.i64.wrap (v5_1106 + 1))) (.fn rfl) ?_
          refine SafeOps.quiet0 E_good rfl rfl rfl (v := V.int .i64 (IntKind.i64.wrap (v5_1106 + 1))) (.fn rfl) ?_
          refine SafeOps.nil ?_
          repeat (first | refine Safe.seq ?_ | refine Safe.skip ?_ | with_reducible refine thenQ.n ?_ | with_reducible refine blockQ.n ?_)
          exact ⟨_, next_out h, (.cov ⟨rfl, rfl, (upT_cons (.refl _) (upT_cons (.refl _) (upT_cons (.refl _) (upT_cons (.refl _) upT_nil)))), (upOb_cons rfl (.refl _) upOb_nil), (upOut_cons rfl (upT_cons (.refl _) (upT_cons (.refl _) upT_nil)) (upOut_cons rfl upT_nil upOut_nil)), rfl⟩)⟩
      · skip
        refine Safe.condN rfl hc1109 ?_
        repeat (first | refine Safe.seq ?_ | refine Safe.skip ?_ | with_reducible refine thenQ.n ?_ | with_reducible refine blockQ.n ?_)
        refine Safe.exit ?_
        repeat (first | with_reducible refine thenQ.e ?_ | with_reducible refine blockQ.x rfl ?_ | with_reducible refine blockQ.y rfl ?_)
        replace h := inr_out h hr1107
        repeat (first | refine Safe.seq ?_ | refine Safe.skip ?_ | with_reducible refine thenQ.n ?_ | with_reducible refine blockQ.n ?_)
        refine Safe.region ?_
        refine SafeOps.quiet0 E_good rfl rfl rfl (v := V.int .i64 v4_1105) (.fn rfl) ?_
        refine SafeOps.quiet0 E_good rfl rfl rfl (v := V.int .i64 v1_1061) (.fn rfl) ?_
        refine SafeOps.quiet0 E_good rfl rfl rfl (v := V.bool (v4_1105 == v1_1061)) (.fn rfl) ?_
        refine SafeOps.nil ?_
        repeat (first | refine Safe.seq ?_ | refine Safe.skip ?_ | with_reducible refine thenQ.n ?_ | with_reducible refine blockQ.n ?_)
        refine ifG h (fun hc1115 h => ?_) (fun hc1115 h => ?_)
        · skip
          refine Safe.condK rfl hc1115 ?_
          repeat (first | refine Safe.seq ?_ | refine Safe.skip ?_ | with_reducible refine thenQ.n ?_ | with_reducible refine blockQ.n ?_)
          refine Safe.ret ?_
          repeat (first | with_reducible refine thenQ.r ?_ | with_reducible refine blockQ.r ?_)
          refine inQ.gen (vs := []) (v := V.tup []) (.inr rfl) rfl .nil rfl ?_
          replace h := inr_out h hr1062
          refine SafeOps.nil ?_
          repeat (first | refine Safe.seq ?_ | refine Safe.skip ?_ | with_reducible refine thenQ.n ?_ | with_reducible refine blockQ.n ?_)
          refine Safe.region ?_
          refine SafeOps.quiet0 E_good rfl rfl rfl (v := V.ref [12, 0] 0 (rws api_Timer.cells v0_1060).length) (.fn rfl) ?_
          refine SafeOps.quiet0 E_good rfl rfl rfl (v := V.int .i64 x_936) (.fn rfl) ?_
          refine SafeOps.inline E_good rfl rfl rfl rfl rfl Try.func34 rfl (fun _ _ => Try.call34 _ _) rfl ?_
          repeat (first | refine Safe.seq ?_ | refine Safe.skip ?_ | with_reducible refine thenQ.n ?_ | with_reducible refine blockQ.n ?_)
          refine Safe.block ?_
          repeat (first | refine Safe.seq ?_ | refine Safe.skip ?_ | with_reducible refine thenQ.n ?_ | with_reducible refine blockQ.n ?_)
          refine Safe.loopW (fun ((v0_1138, v1_1139) : (List api_Timer) × Int) => ⟨Try.f34.ntmps, [(0, V.ref [12, 0] 0 (rws api_Timer.cells v0_1138).length), (1, V.int .i64 v1_1139)], [([12, 0], Obj.rows 2 (rws api_Timer.cells v0_1138) false)], [(Try.f39.ntmps, [(0, V.ref [12, 0] 0 (rws api_Timer.cells v0_1138).length)]), (Try.f13.ntmps, [])], [21, 27]⟩) h (.cov ⟨rfl, rfl, (upT_cons (.refl _) (upT_cons (.refl _) upT_nil)), (upOb_cons rfl (.refl _) upOb_nil), (upOut_cons rfl (upT_cons (.refl _) upT_nil) (upOut_cons rfl upT_nil upOut_nil)), rfl⟩) ?_
          rintro ⟨v0_1138, v1_1139⟩ ohr1140 h hr1140
          replace h : go_heap_Cancel_s8 (v0_1138, v1_1139) = some ohr1140 := h
          rw [go_heap_Cancel_s8] at h
          repeat (first | refine Safe.seq ?_ | refine Safe.skip ?_ | with_reducible refine thenQ.n ?_ | with_reducible refine blockQ.n ?_)
          refine Safe.region ?_
          refine SafeOps.quiet0 E_good rfl rfl rfl (v := V.int .i64 v1_1139) (.fn rfl) ?_
          refine SafeOps.quiet0 E_good rfl rfl rfl (v := V.bool (decide (v1_1139 > 0))) (.fn rfl) ?_
          refine SafeOps.nil ?_
          repeat (first | refine Safe.seq ?_ | refine Safe.skip ?_ | with_reducible refine thenQ.n ?_ | with_reducible refine blockQ.n ?_)
          refine ifG h (fun hc1141 h => ?_) (fun hc1141 h => ?_)
          · skip
            refine Safe.condK rfl hc1141 ?_
            repeat (first | refine Safe.seq ?_ | refine Safe.skip ?_ | with_reducible refine thenQ.n ?_ | with_reducible refine blockQ.n ?_)
            refine Safe.block ?_
            repeat (first | refine Safe.seq ?_ | refine Safe.skip ?_ | with_reducible refine thenQ.n ?_ | with_reducible refine blockQ.n ?_)
            refine Safe.region ?_
            refine SafeOps.quiet0 E_good rfl rfl rfl (v := V.int .i64 v1_1139) (.fn rfl) ?_
            refine SafeOps.quiet0 E_good rfl rfl rfl (v := V.int .i64 (IntKind.i64.wrap (v1_1139 - 1))) (.fn rfl) ?_
            refine SafeOps.quiet0 E_good rfl rfl rfl (v := V.int .i64 (IntKind.i64.wrap (Int.tdiv (IntKind.i64.wrap (v1_1139 - 1)) 4))) (.quoV rfl rfl (by decide)) ?_
            refine SafeOps.quiet0 E_good rfl rfl rfl (v := V.int .i64 (IntKind.i64.wrap (Int.tdiv (IntKind.i64.wrap (v1_1139 - 1)) 4))) (.fn rfl) ?_
            refine SafeOps.nil ?_
            repeat (first | refine Safe.seq ?_ | refine Safe.skip ?_ | with_reducible refine thenQ.n ?_ | with_reducible refine blockQ.n ?_)
            refine Safe.regionD (n := 10) [] [] E_good mixed rfl ?_
            refine DAny.take (i := 0) rfl (by kernel_rfl) [] (by kernel_rfl) (by kernel_rfl) (by kernel_rfl) rfl rfl rfl (v := V.ref [12, 0] 0 (rws api_Timer.cells v0_1138).length) (fun _ hz => (.fn rfl)) ?_
            refine DAny.take (i := 1) rfl (by kernel_rfl) [] (by kernel_rfl) (by kernel_rfl) (by kernel_rfl) rfl rfl rfl (v := V.int .i64 (IntKind.i64.wrap (Int.tdiv (IntKind.i64.wrap (v1_1139 - 1)) 4))) (fun _ hz => (.fn rfl)) ?_
            refine okG h (fun hb1142 h => ?_)
            refine DAny.take (i := 2) rfl (by kernel_rfl) [] (by kernel_rfl) (by kernel_rfl) (by kernel_rfl) rfl rfl rfl (v := V.ptr [12, 0] (0 + Int.toNat (IntKind.i64.wrap (Int.tdiv (IntKind.i64.wrap (v1_1139 - 1)) 4))) 0) (fun _ hz => (.idxRefM (f := api_Timer.cells) (xs := v0_1138) rfl rfl rfl (hz _ _ rfl rfl) rfl rfl hb1142)) ?_
            refine DAny.take (i := 3) rfl (by kernel_rfl) [] (by kernel_rfl) (by kernel_rfl) (by kernel_rfl) rfl rfl rfl (v := V.agg [V.int .i64 ((gt v0_1138 (IntKind.i64.wrap (Int.tdiv (IntKind.i64.wrap (v1_1139 - 1)) 4))).At), V.int .i64 ((gt v0_1138 (IntKind.i64.wrap (Int.tdiv (IntKind.i64.wrap (v1_1139 - 1)) 4))).Id)]) (fun _ hz => (.load rfl rfl (.rowsM (f := api_Timer.cells) (xs := v0_1138) hb1142 (hz _ _ rfl rfl) rfl) rfl)) ?_
            refine DAny.take (i := 4) rfl (by kernel_rfl) [] (by kernel_rfl) (by kernel_rfl) (by kernel_rfl) rfl rfl rfl (v := V.ref [12, 0] 0 (rws api_Timer.cells v0_1138).length) (fun _ hz => (.fn rfl)) ?_
            refine DAny.take (i := 5) rfl (by kernel_rfl) [] (by kernel_rfl) (by kernel_rfl) (by kernel_rfl) rfl rfl rfl (v := V.int .i64 v1_1139) (fun _ hz => (.fn rfl)) ?_
            refine okG h (fun hb1143 h => ?_)
            refine DAny.take (i := 6) rfl (by kernel_rfl) [] (by kernel_rfl) (by kernel_rfl) (by kernel_rfl) rfl rfl rfl (v := V.ptr [12, 0] (0 + Int.toNat v1_1139) 0) (fun _ hz => (.idxRefM (f := api_Timer.cells) (xs := v0_1138) rfl rfl rfl (hz _ _ rfl rfl) rfl rfl hb1143)) ?_
            refine DAny.take (i := 7) rfl (by kernel_rfl) [] (by kernel_rfl) (by kernel_rfl) (by kernel_rfl) rfl rfl rfl (v := V.agg [V.int .i64 ((gt v0_1138 v1_1139).At), V.int .i64 ((gt v0_1138 v1_1139).Id)]) (fun _ hz => (.load rfl rfl (.rowsM (f := api_Timer.cells) (xs := v0_1138) hb1143 (hz _ _ rfl rfl) rfl) rfl)) ?_
            refine bindG h ?_
            intro x_1144 he1145 h
            refine DAny.take (i := 8) rfl (by kernel_rfl) [] (by kernel_rfl) (by kernel_rfl) (by kernel_rfl) rfl rfl rfl (v := V.int .i64 x_1144) (fun _ hz => (.callP rfl rfl (go_heap_order_sc (gt v0_1138 (IntKind.i64.wrap (Int.tdiv (IntKind.i64.wrap (v1_1139 - 1)) 4))) (gt v0_1138 v1_1139) _ he1145) rfl)) ?_
            refine DAny.take (i := 9) rfl (by kernel_rfl) [] (by kernel_rfl) (by kernel_rfl) (by kernel_rfl) rfl rfl rfl (v := V.bool (decide (x_1144 ≤ 0))) (fun _ hz => (.fn rfl)) ?_
            refine DAny.nil (by kernel_rfl) ?_
            repeat (first | refine Safe.seq ?_ | refine Safe.skip ?_ | with_reducible refine thenQ.n ?_ | with_reducible refine blockQ.n ?_)
            refine ifG h (fun hc1146 h => ?_) (fun hc1146 h => ?_)
            · skip
              refine Safe.condK rfl hc1146 ?_
              repeat (first | refine Safe.seq ?_ | refine Safe.skip ?_ | with_reducible refine thenQ.n ?_ | with_reducible refine blockQ.n ?_)
              refine Safe.ret ?_
              repeat (first | with_reducible refine thenQ.r ?_ | with_reducible refine blockQ.r ?_)
              refine inQ.gen (vs := []) (v := V.tup []) (.inr rfl) rfl .nil rfl ?_
              replace h := inr_out h hr1140
              refine SafeOps.nil ?_
              repeat (first | refine Safe.seq ?_ | refine Safe.skip ?_ | with_reducible refine thenQ.n ?_ | with_reducible refine blockQ.n ?_)
              refine Safe.region ?_
              refine SafeOps.quiet0 E_good rfl rfl rfl (v := V.ref [12, 0] 0 (rws api_Timer.cells v0_1138).length) (.fn rfl) ?_
              refine SafeOps.quiet0 E_good rfl rfl rfl (v := V.ref [12, 0] 0 (rws api_Timer.cells v0_1138).length) (.fn rfl) ?_
              refine SafeOps.nil ?_
              repeat (first | refine Safe.seq ?_ | refine Safe.skip ?_ | with_reducible refine thenQ.n ?_ | with_reducible refine blockQ.n ?_)
              refine Safe.ret ?_
              repeat (first | with_reducible refine thenQ.r ?_ | with_reducible refine blockQ.r ?_)
              refine inQ.gen (vs := [V.ref [12, 0] 0 (rws api_Timer.cells v0_1138).length]) (v := V.ref [12, 0] 0 (rws api_Timer.cells v0_1138).length) (.inr rfl) rfl (.tmp (v := V.ref [12, 0] 0 (rws api_Timer.cells v0_1138).length) rfl .nil) rfl ?_
              refine SafeOps.quiet0 E_good rfl rfl rfl (v := V.ref [12, 0] 0 (rws api_Timer.cells v0_1138).length) (.fn rfl) ?_
              refine SafeOps.quiet0 E_good rfl rfl rfl (v := V.int .i64 0) (.fn rfl) ?_
              refine SafeOps.nil ?_
              repeat (first | refine Safe.seq ?_ | refine Safe.skip ?_ | with_reducible refine thenQ.n ?_ | with_reducible refine blockQ.n ?_)
              refine Safe.ret ?_
              repeat (first | with_reducible refine thenQ.r ?_ | with_reducible refine blockQ.r ?_)
              obtain rfl := Option.some.inj h
              exact retQ.gen (vs := [V.ref [12, 0] 0 (rws api_Timer.cells v0_1138).length, V.int .i64 0]) rfl (.tmp (v := V.ref [12, 0] 0 (rws api_Timer.cells v0_1138).length) rfl (.tmp (v := V.int .i64 0) rfl .nil)) (by exact (.tup (.cons (.own rfl rfl) (.cons (.free rfl) .nil)))) (by simp) (.inr rfl)
            · skip
              refine Safe.condN rfl hc1146 ?_
              repeat (first | refine Safe.seq ?_ | refine Safe.skip ?_ | with_reducible refine thenQ.n ?_ | with_reducible refine blockQ.n ?_)
              refine Safe.regionD (n := 16) [(13, [12, 0]), (13, [35]), (15, [12, 0]), (15, [35])] [] E_good mixed rfl ?_
              refine DAny.take (i := 0) rfl (by kernel_rfl) [[12, 0], [35]] (by kernel_rfl) (by kernel_rfl) (by kernel_rfl) rfl rfl rfl (v := V.ref [12, 0] 0 (rws api_Timer.cells v0_1138).length) (fun _ hz => (.fn rfl)) ?_
              refine DAny.take (i := 1) rfl (by kernel_rfl) [[12, 0], [35]] (by kernel_rfl) (by kernel_rfl) (by kernel_rfl) rfl rfl rfl (v := V.int .i64 (IntKind.i64.wrap (Int.tdiv (IntKind.i64.wrap (v1_1139 - 1)) 4))) (fun _ hz => (.fn rfl)) ?_
              refine DAny.take (i := 2) rfl (by kernel_rfl) [[12, 0], [35]] (by kernel_rfl) (by kernel_rfl) (by kernel_rfl) rfl rfl rfl (v := V.ref [12, 0] 0 (rws api_Timer.cells v0_1138).length) (fun _ hz => (.fn rfl)) ?_
              refine DAny.take (i := 3) rfl (by kernel_rfl) [[12, 0], [35]] (by kernel_rfl) (by kernel_rfl) (by kernel_rfl) rfl rfl rfl (v := V.int .i64 v1_1139) (fun _ hz => (.fn rfl)) ?_
              refine DAny.take (i := 4) rfl (by kernel_rfl) [[12, 0], [35]] (by kernel_rfl) (by kernel_rfl) (by kernel_rfl) rfl rfl rfl (v := V.ref [12, 0] 0 (rws api_Timer.cells v0_1138).length) (fun _ hz => (.fn rfl)) ?_
              refine DAny.take (i := 5) rfl (by kernel_rfl) [[12, 0], [35]] (by kernel_rfl) (by kernel_rfl) (by kernel_rfl) rfl rfl rfl (v := V.int .i64 v1_1139) (fun _ hz => (.fn rfl)) ?_
              refine okG h (fun hb1147 h => ?_)
              refine DAny.take (i := 6) rfl (by kernel_rfl) [[35]] (by kernel_rfl) (by kernel_rfl) (by kernel_rfl) rfl rfl rfl (v := V.ptr [12, 0] (0 + Int.toNat v1_1139) 0) (fun _ hz => (.idxRefM (f := api_Timer.cells) (xs := v0_1138) rfl rfl rfl (hz _ _ rfl rfl) rfl rfl hb1147)) ?_
              refine DAny.take (i := 7) rfl (by kernel_rfl) [[35]] (by kernel_rfl) (by kernel_rfl) (by kernel_rfl) rfl rfl rfl (v := V.agg [V.int .i64 ((gt v0_1138 v1_1139).At), V.int .i64 ((gt v0_1138 v1_1139).Id)]) (fun _ hz => (.load rfl rfl (.rowsM (f := api_Timer.cells) (xs := v0_1138) hb1147 (hz _ _ rfl rfl) rfl) rfl)) ?_
              refine DAny.take (i := 8) rfl (by kernel_rfl) [[12, 0], [35]] (by kernel_rfl) (by kernel_rfl) (by kernel_rfl) rfl rfl rfl (v := V.ref [12, 0] 0 (rws api_Timer.cells v0_1138).length) (fun _ hz => (.fn rfl)) ?_
              refine DAny.take (i := 9) rfl (by kernel_rfl) [[12, 0], [35]] (by kernel_rfl) (by kernel_rfl) (by kernel_rfl) rfl rfl rfl (v := V.int .i64 (IntKind.i64.wrap (Int.tdiv (IntKind.i64.wrap (v1_1139 - 1)) 4))) (fun _ hz => (.fn rfl)) ?_
              refine okG h (fun hb1148 h => ?_)
              refine DAny.take (i := 10) rfl (by kernel_rfl) [[35]] (by kernel_rfl) (by kernel_rfl) (by kernel_rfl) rfl rfl rfl (v := V.ptr [12, 0] (0 + Int.toNat (IntKind.i64.wrap (Int.tdiv (IntKind.i64.wrap (v1_1139 - 1)) 4))) 0) (fun _ hz => (.idxRefM (f := api_Timer.cells) (xs := v0_1138) rfl rfl rfl (hz _ _ rfl rfl) rfl rfl hb1148)) ?_
              refine DAny.take (i := 11) rfl (by kernel_rfl) [[35]] (by kernel_rfl) (by kernel_rfl) (by kernel_rfl) rfl rfl rfl (v := V.agg [V.int .i64 ((gt v0_1138 (IntKind.i64.wrap (Int.tdiv (IntKind.i64.wrap (v1_1139 - 1)) 4))).At), V.int .i64 ((gt v0_1138 (IntKind.i64.wrap (Int.tdiv (IntKind.i64.wrap (v1_1139 - 1)) 4))).Id)]) (fun _ hz => (.load rfl rfl (.rowsM (f := api_Timer.cells) (xs := v0_1138) hb1148 (hz _ _ rfl rfl) rfl) rfl)) ?_
              refine okG h (fun hb1149 h => ?_)
              refine DAny.take (i := 12) rfl (by kernel_rfl) [[35]] (by kernel_rfl) (by kernel_rfl) (by kernel_rfl) rfl rfl rfl (v := V.ptr [12, 0] (0 + Int.toNat (IntKind.i64.wrap (Int.tdiv (IntKind.i64.wrap (v1_1139 - 1)) 4))) 0) (fun _ hz => (.idxRefM (f := api_Timer.cells) (xs := v0_1138) rfl rfl rfl (hz _ _ rfl rfl) rfl rfl hb1149)) ?_
              refine DAny.only (i := 13) rfl (by kernel_rfl) (.store (z := Obj.rows 2 (rws api_Timer.cells (st v0_1138 (IntKind.i64.wrap (Int.tdiv (IntKind.i64.wrap (v1_1139 - 1)) 4)) (gt v0_1138 v1_1139))) false) rfl rfl rfl rfl rfl rfl rfl (.rowsM (f := api_Timer.cells) (xs := v0_1138) (y := (gt v0_1138 v1_1139)) hb1149 rfl rfl rfl rfl) rfl ?_)
              refine okG h (fun hb1150 h => ?_)
              refine DAny.take (i := 14) rfl (by kernel_rfl) [[35]] (by kernel_rfl) (by kernel_rfl) (by kernel_rfl) rfl rfl rfl (v := V.ptr [12, 0] (0 + Int.toNat v1_1139) 0) (fun _ hz => (.idxRefL (f := api_Timer.cells) (xs := st v0_1138 (IntKind.i64.wrap (Int.tdiv (IntKind.i64.wrap (v1_1139 - 1)) 4)) (gt v0_1138 v1_1139)) (ys := v0_1138) rfl rfl rfl (hz _ _ rfl rfl) rfl (by simp [st]) hb1150)) ?_
              refine DAny.only (i := 15) rfl (by kernel_rfl) (.store (z := Obj.rows 2 (rws api_Timer.cells (st (st v0_1138 (IntKind.i64.wrap (Int.tdiv (IntKind.i64.wrap (v1_1139 - 1)) 4)) (gt v0_1138 v1_1139)) v1_1139 (gt v0_1138 (IntKind.i64.wrap (Int.tdiv (IntKind.i64.wrap (v1_1139 - 1)) 4))))) false) rfl rfl rfl rfl rfl rfl rfl (.rowsM (f := api_Timer.cells) (xs := st v0_1138 (IntKind.i64.wrap (Int.tdiv (IntKind.i64.wrap (v1_1139 - 1)) 4)) (gt v0_1138 v1_1139)) (y := (gt v0_1138 (IntKind.i64.wrap (Int.tdiv (IntKind.i64.wrap (v1_1139 - 1)) 4)))) hb1150 rfl rfl rfl rfl) rfl ?_)
              refine DAny.nil (by kernel_rfl) ?_
              repeat (first | refine Safe.seq ?_ | refine Safe.skip ?_ | with_reducible refine thenQ.n ?_ | with_reducible refine blockQ.n ?_)
              refine Safe.see 0 (u := V.ref [12, 0] 0 (rws api_Timer.cells (st (st v0_1138 (IntKind.i64.wrap (Int.tdiv (IntKind.i64.wrap (v1_1139 - 1)) 4)) (gt v0_1138 v1_1139)) v1_1139 (gt v0_1138 (IntKind.i64.wrap (Int.tdiv (IntKind.i64.wrap (v1_1139 - 1)) 4))))).length) rfl (.len (by simp [rws, st])) ?_
              refine Safe.see 10 (u := V.ref [12, 0] 0 (rws api_Timer.cells (st (st v0_1138 (IntKind.i64.wrap (Int.tdiv (IntKind.i64.wrap (v1_1139 - 1)) 4)) (gt v0_1138 v1_1139)) v1_1139 (gt v0_1138 (IntKind.i64.wrap (Int.tdiv (IntKind.i64.wrap (v1_1139 - 1)) 4))))).length) rfl (.len (by simp [rws, st])) ?_
              refine Safe.see 14 (u := V.ref [12, 0] 0 (rws api_Timer.cells (st (st v0_1138 (IntKind.i64.wrap (Int.tdiv (IntKind.i64.wrap (v1_1139 - 1)) 4)) (gt v0_1138 v1_1139)) v1_1139 (gt v0_1138 (IntKind.i64.wrap (Int.tdiv (IntKind.i64.wrap (v1_1139 - 1)) 4))))).length) rfl (.len (by simp [rws, st])) ?_
              refine Safe.see 20 (u := V.ref [12, 0] 0 (rws api_Timer.cells (st (st v0_1138 (IntKind.i64.wrap (Int.tdiv (IntKind.i64.wrap (v1_1139 - 1)) 4)) (gt v0_1138 v1_1139)) v1_1139 (gt v0_1138 (IntKind.i64.wrap (Int.tdiv (IntKind.i64.wrap (v1_1139 - 1)) 4))))).length) rfl (.len (by simp [rws, st])) ?_
              refine Safe.see 22 (u := V.ref [12, 0] 0 (rws api_Timer.cells (st (st v0_1138 (IntKind.i64.wrap (Int.tdiv (IntKind.i64.wrap (v1_1139 - 1)) 4)) (gt v0_1138 v1_1139)) v1_1139 (gt v0_1138 (IntKind.i64.wrap (Int.tdiv (IntKind.i64.wrap (v1_1139 - 1)) 4))))).length) rfl (.len (by simp [rws, st])) ?_
              refine Safe.see 24 (u := V.ref [12, 0] 0 (rws api_Timer.cells (st (st v0_1138 (IntKind.i64.wrap (Int.tdiv (IntKind.i64.wrap (v1_1139 - 1)) 4)) (gt v0_1138 v1_1139)) v1_1139 (gt v0_1138 (IntKind.i64.wrap (Int.tdiv (IntKind.i64.wrap (v1_1139 - 1)) 4))))).length) rfl (.len (by simp [rws, st])) ?_
              refine Safe.see 28 (u := V.ref [12, 0] 0 (rws api_Timer.cells (st (st v0_1138 (IntKind.i64.wrap (Int.tdiv (IntKind.i64.wrap (v1_1139 - 1)) 4)) (gt v0_1138 v1_1139)) v1_1139 (gt v0_1138 (IntKind.i64.wrap (Int.tdiv (IntKind.i64.wrap (v1_1139 - 1)) 4))))).length) rfl (.len (by simp [rws, st])) ?_
              repeat (first | refine Safe.seq ?_ | refine Safe.skip ?_ | with_reducible refine thenQ.n ?_ | with_reducible refine blockQ.n ?_)
              refine Safe.region ?_
              refine SafeOps.quiet0 E_good rfl rfl rfl (v := V.int .i64 (IntKind.i64.wrap (Int.tdiv (IntKind.i64.wrap (v1_1139 - 1)) 4))) (.fn rfl) ?_
              refine SafeOps.quiet0 E_good rfl rfl rfl (v := V.int .i64 (IntKind.i64.wrap (Int.tdiv (IntKind.i64.wrap (v1_1139 - 1)) 4))) (.fn rfl) ?_
              refine SafeOps.nil ?_
              repeat (first | refine Safe.seq ?_ | refine Safe.skip ?_ | with_reducible refine thenQ.n ?_ | with_reducible refine blockQ.n ?_)
              exact ⟨_, next_out h, (.cov ⟨rfl, rfl, (upT_cons (.refl _) (upT_cons (.refl _) upT_nil)), (upOb_cons rfl (.refl _) upOb_nil), (upOut_cons rfl (upT_cons (.len (by simp [rws, st])) upT_nil) (upOut_cons rfl upT_nil upOut_nil)), rfl⟩)⟩
          · skip
            refine Safe.condN rfl hc1141 ?_
            repeat (first | refine Safe.seq ?_ | refine Safe.skip ?_ | with_reducible refine thenQ.n ?_ | with_reducible refine blockQ.n ?_)
            refine Safe.exit ?_
            repeat (first | with_reducible refine thenQ.e ?_ | with_reducible refine blockQ.x rfl ?_ | with_reducible refine blockQ.y rfl ?_)
            replace h := inr_out h hr1140
            repeat (first | refine Safe.seq ?_ | refine Safe.skip ?_ | with_reducible refine thenQ.n ?_ | with_reducible refine blockQ.n ?_)
            repeat (first | with_reducible refine thenQ.r ?_ | with_reducible refine blockQ.r ?_)
            refine inQ.gen (vs := []) (v := V.tup []) (.inl rfl) rfl .nil rfl ?_
            refine SafeOps.nil ?_
            repeat (first | refine Safe.seq ?_ | refine Safe.skip ?_ | with_reducible refine thenQ.n ?_ | with_reducible refine blockQ.n ?_)
            refine Safe.region ?_
            refine SafeOps.quiet0 E_good rfl rfl rfl (v := V.ref [12, 0] 0 (rws api_Timer.cells v0_1138).length) (.fn rfl) ?_
            refine SafeOps.quiet0 E_good rfl rfl rfl (v := V.ref [12, 0] 0 (rws api_Timer.cells v0_1138).length) (.fn rfl) ?_
            refine SafeOps.nil ?_
            repeat (first | refine Safe.seq ?_ | refine Safe.skip ?_ | with_reducible refine thenQ.n ?_ | with_reducible refine blockQ.n ?_)
            refine Safe.ret ?_
            repeat (first | with_reducible refine thenQ.r ?_ | with_reducible refine blockQ.r ?_)
            refine inQ.gen (vs := [V.ref [12, 0] 0 (rws api_Timer.cells v0_1138).length]) (v := V.ref [12, 0] 0 (rws api_Timer.cells v0_1138).length) (.inr rfl) rfl (.tmp (v := V.ref [12, 0] 0 (rws api_Timer.cells v0_1138).length) rfl .nil) rfl ?_
            refine SafeOps.quiet0 E_good rfl rfl rfl (v := V.ref [12, 0] 0 (rws api_Timer.cells v0_1138).length) (.fn rfl) ?_
            refine SafeOps.quiet0 E_good rfl rfl rfl (v := V.int .i64 0) (.fn rfl) ?_
            refine SafeOps.nil ?_
            repeat (first | refine Safe.seq ?_ | refine Safe.skip ?_ | with_reducible refine thenQ.n ?_ | with_reducible refine blockQ.n ?_)
            refine Safe.ret ?_
            repeat (first | with_reducible refine thenQ.r ?_ | with_reducible refine blockQ.r ?_)
            obtain rfl := Option.some.inj h
            exact retQ.gen (vs := [V.ref [12, 0] 0 (rws api_Timer.cells v0_1138).length, V.int .i64 0]) rfl (.tmp (v := V.ref [12, 0] 0 (rws api_Timer.cells v0_1138).length) rfl (.tmp (v := V.int .i64 0) rfl .nil)) (by exact (.tup (.cons (.own rfl rfl) (.cons (.free rfl) .nil)))) (by simp) (.inr rfl)
        · skip
          refine Safe.condN rfl hc1115 ?_
          repeat (first | refine Safe.seq ?_ | refine Safe.skip ?_ | with_reducible refine thenQ.n ?_ | with_reducible refine blockQ.n ?_)
          refine Safe.regionD (n := 16) [(13, [12, 0]), (15, [12, 0])] [] E_good mixed rfl ?_
          refine DAny.take (i := 0) rfl (by kernel_rfl) [[12, 0]] (by kernel_rfl) (by kernel_rfl) (by kernel_rfl) rfl rfl rfl (v := V.ref [12, 0] 0 (rws api_Timer.cells v0_1060).length) (fun _ hz => (.fn rfl)) ?_
          refine DAny.take (i := 1) rfl (by kernel_rfl) [[12, 0]] (by kernel_rfl) (by kernel_rfl) (by kernel_rfl) rfl rfl rfl (v := V.int .i64 v4_1105) (fun _ hz => (.fn rfl)) ?_
          refine DAny.take (i := 2) rfl (by kernel_rfl) [[12, 0]] (by kernel_rfl) (by kernel_rfl) (by kernel_rfl) rfl rfl rfl (v := V.ref [12, 0] 0 (rws api_Timer.cells v0_1060).length) (fun _ hz => (.fn rfl)) ?_
          refine DAny.take (i := 3) rfl (by kernel_rfl) [[12, 0]] (by kernel_rfl) (by kernel_rfl) (by kernel_rfl) rfl rfl rfl (v := V.int .i64 v1_1061) (fun _ hz => (.fn rfl)) ?_
          refine DAny.take (i := 4) rfl (by kernel_rfl) [[12, 0]] (by kernel_rfl) (by kernel_rfl) (by kernel_rfl) rfl rfl rfl (v := V.ref [12, 0] 0 (rws api_Timer.cells v0_1060).length) (fun _ hz => (.fn rfl)) ?_
          refine DAny.take (i := 5) rfl (by kernel_rfl) [[12, 0]] (by kernel_rfl) (by kernel_rfl) (by kernel_rfl) rfl rfl rfl (v := V.int .i64 v1_1061) (fun _ hz => (.fn rfl)) ?_
          refine okG h (fun hb1151 h => ?_)
          refine DAny.take (i := 6) rfl (by kernel_rfl) [] (by kernel_rfl) (by kernel_rfl) (by kernel_rfl) rfl rfl rfl (v := V.ptr [12, 0] (0 + Int.toNat v1_1061) 0) (fun _ hz => (.idxRefM (f := api_Timer.cells) (xs := v0_1060) rfl rfl rfl (hz _ _ rfl rfl) rfl rfl hb1151)) ?_
          refine DAny.take (i := 7) rfl (by kernel_rfl) [] (by kernel_rfl) (by kernel_rfl) (by kernel_rfl) rfl rfl rfl (v := V.agg [V.int .i64 ((gt v0_1060 v1_1061).At), V.int .i64 ((gt v0_1060 v1_1061).Id)]) (fun _ hz => (.load rfl rfl (.rowsM (f := api_Timer.cells) (xs := v0_1060) hb1151 (hz _ _ rfl rfl) rfl) rfl)) ?_
          refine DAny.take (i := 8) rfl (by kernel_rfl) [[12, 0]] (by kernel_rfl) (by kernel_rfl) (by kernel_rfl) rfl rfl rfl (v := V.ref [12, 0] 0 (rws api_Timer.cells v0_1060).length) (fun _ hz => (.fn rfl)) ?_
          refine DAny.take (i := 9) rfl (by kernel_rfl) [[12, 0]] (by kernel_rfl) (by kernel_rfl) (by kernel_rfl) rfl rfl rfl (v := V.int .i64 v4_1105) (fun _ hz => (.fn rfl)) ?_
          refine okG h (fun hb1152 h => ?_)
          refine DAny.take (i := 10) rfl (by kernel_rfl) [] (by kernel_rfl) (by kernel_rfl) (by kernel_rfl) rfl rfl rfl (v := V.ptr [12, 0] (0 + Int.toNat v4_1105) 0) (fun _ hz => (.idxRefM (f := api_Timer.cells) (xs := v0_1060) rfl rfl rfl (hz _ _ rfl rfl) rfl rfl hb1152)) ?_
          refine DAny.take (i := 11) rfl (by kernel_rfl) [] (by kernel_rfl) (by kernel_rfl) (by kernel_rfl) rfl rfl rfl (v := V.agg [V.int .i64 ((gt v0_1060 v4_1105).At), V.int .i64 ((gt v0_1060 v4_1105).Id)]) (fun _ hz => (.load rfl rfl (.rowsM (f := api_Timer.cells) (xs := v0_1060) hb1152 (hz _ _ rfl rfl) rfl) rfl)) ?_
          refine okG h (fun hb1153 h => ?_)
          refine DAny.take (i := 12) rfl (by kernel_rfl) [] (by kernel_rfl) (by kernel_rfl) (by kernel_rfl) rfl rfl rfl (v := V.ptr [12, 0] (0 + Int.toNat v4_1105) 0) (fun _ hz => (.idxRefM (f := api_Timer.cells) (xs := v0_1060) rfl rfl rfl (hz _ _ rfl rfl) rfl rfl hb1153)) ?_
          refine DAny.only (i := 13) rfl (by kernel_rfl) (.store (z := Obj.rows 2 (rws api_Timer.cells (st v0_1060 v4_1105 (gt v0_1060 v1_1061))) false) rfl rfl rfl rfl rfl rfl rfl (.rowsM (f := api_Timer.cells) (xs := v0_1060) (y := (gt v0_1060 v1_1061)) hb1153 rfl rfl rfl rfl) rfl ?_)
          refine okG h (fun hb1154 h => ?_)
          refine DAny.take (i := 14) rfl (by kernel_rfl) [] (by kernel_rfl) (by kernel_rfl) (by kernel_rfl) rfl rfl rfl (v := V.ptr [12, 0] (0 + Int.toNat v1_1061) 0) (fun _ hz => (.idxRefL (f := api_Timer.cells) (xs := st v0_1060 v4_1105 (gt v0_1060 v1_1061)) (ys := v0_1060) rfl rfl rfl (hz _ _ rfl rfl) rfl (by simp [st]) hb1154)) ?_
          refine DAny.only (i := 15) rfl (by kernel_rfl) (.store (z := Obj.rows 2 (rws api_Timer.cells (st (st v0_1060 v4_1105 (gt v0_1060 v1_1061)) v1_1061 (gt v0_1060 v4_1105))) false) rfl rfl rfl rfl rfl rfl rfl (.rowsM (f := api_Timer.cells) (xs := st v0_1060 v4_1105 (gt v0_1060 v1_1061)) (y := (gt v0_1060 v4_1105)) hb1154 rfl rfl rfl rfl) rfl ?_)
          refine DAny.nil (by kernel_rfl) ?_
          repeat (first | refine Safe.seq ?_ | refine Safe.skip ?_ | with_reducible refine thenQ.n ?_ | with_reducible refine blockQ.n ?_)
          refine Safe.see 0 (u := V.ref [12, 0] 0 (rws api_Timer.cells (st (st v0_1060 v4_1105 (gt v0_1060 v1_1061)) v1_1061 (gt v0_1060 v4_1105))).length) rfl (.len (by simp [rws, st])) ?_
          refine Safe.see 37 (u := V.ref [12, 0] 0 (rws api_Timer.cells (st (st v0_1060 v4_1105 (gt v0_1060 v1_1061)) v1_1061 (gt v0_1060 v4_1105))).length) rfl (.len (by simp [rws, st])) ?_
          refine Safe.see 39 (u := V.ref [12, 0] 0 (rws api_Timer.cells (st (st v0_1060 v4_1105 (gt v0_1060 v1_1061)) v1_1061 (gt v0_1060 v4_1105))).length) rfl (.len (by simp [rws, st])) ?_
          refine Safe.see 41 (u := V.ref [12, 0] 0 (rws api_Timer.cells (st (st v0_1060 v4_1105 (gt v0_1060 v1_1061)) v1_1061 (gt v0_1060 v4_1105))).length) rfl (.len (by simp [rws, st])) ?_
          refine Safe.see 45 (u := V.ref [12, 0] 0 (rws api_Timer.cells (st (st v0_1060 v4_1105 (gt v0_1060 v1_1061)) v1_1061 (gt v0_1060 v4_1105))).length) rfl (.len (by simp [rws, st])) ?_
          repeat (first | refine Safe.seq ?_ | refine Safe.skip ?_ | with_reducible refine thenQ.n ?_ | with_reducible refine blockQ.n ?_)
          refine Safe.region ?_
          refine SafeOps.quiet0 E_good rfl rfl rfl (v := V.int .i64 v4_1105) (.fn rfl) ?_
          refine SafeOps.quiet0 E_good rfl rfl rfl (v := V.int .i64 v4_1105) (.fn rfl) ?_
          refine SafeOps.nil ?_
          repeat (first | refine Safe.seq ?_ | refine Safe.skip ?_ | with_reducible refine thenQ.n ?_ | with_reducible refine blockQ.n ?_)
          exact ⟨_, next_out h, (.cov ⟨rfl, rfl, (upT_cons (.refl _) (upT_cons (.refl _) upT_nil)), (upOb_cons rfl (.refl _) upOb_nil), (upOut_cons rfl (upT_cons (.len (by simp [rws, st])) (upT_cons (.refl _) upT_nil)) (upOut_cons rfl upT_nil upOut_nil)), rfl⟩)⟩
    · skip
      refine Safe.condN rfl hc943 ?_
      repeat (first | refine Safe.seq ?_ | refine Safe.skip ?_ | with_reducible refine thenQ.n ?_ | with_reducible refine blockQ.n ?_)
      refine Safe.region ?_
      refine SafeOps.quiet0 E_good rfl rfl rfl (v := V.ref [12, 0] 0 (rws api_Timer.cells (sub (st x_935 x_936 (gt x_935 (IntKind.i64.wrap ((x_935.length : Int) - 1)))) 0 (IntKind.i64.wrap ((x_935.length : Int) - 1)))).length) (.fn rfl) ?_
      refine SafeOps.quiet0 E_good rfl rfl rfl (v := V.ref [12, 0] 0 (rws api_Timer.cells (sub (st x_935 x_936 (gt x_935 (IntKind.i64.wrap ((x_935.length : Int) - 1)))) 0 (IntKind.i64.wrap ((x_935.length : Int) - 1)))).length) (.fn rfl) ?_
      refine SafeOps.nil ?_
      repeat (first | refine Safe.seq ?_ | refine Safe.skip ?_ | with_reducible refine thenQ.n ?_ | with_reducible refine blockQ.n ?_)
      refine Safe.ret ?_
      repeat (first | with_reducible refine thenQ.r ?_ | with_reducible refine blockQ.r ?_)
      refine inQ.gen (vs := [V.ref [12, 0] 0 (rws api_Timer.cells (sub (st x_935 x_936 (gt x_935 (IntKind.i64.wrap ((x_935.length : Int) - 1)))) 0 (IntKind.i64.wrap ((x_935.length : Int) - 1)))).length]) (v := V.ref [12, 0] 0 (rws api_Timer.cells (sub (st x_935 x_936 (gt x_935 (IntKind.i64.wrap ((x_935.length : Int) - 1)))) 0 (IntKind.i64.wrap ((x_935.length : Int) - 1)))).length) (.inr rfl) rfl (.tmp (v := V.ref [12, 0] 0 (rws api_Timer.cells (sub (st x_935 x_936 (gt x_935 (IntKind.i64.wrap ((x_935.length : Int) - 1)))) 0 (IntKind.i64.wrap ((x_935.length : Int) - 1)))).length) rfl .nil) rfl ?_
      refine SafeOps.quiet0 E_good rfl rfl rfl (v := V.ref [12, 0] 0 (rws api_Timer.cells (sub (st x_935 x_936 (gt x_935 (IntKind.i64.wrap ((x_935.length : Int) - 1)))) 0 (IntKind.i64.wrap ((x_935.length : Int) - 1)))).length) (.fn rfl) ?_
      refine SafeOps.quiet0 E_good rfl rfl rfl (v := V.int .i64 0) (.fn rfl) ?_
      refine SafeOps.nil ?_
      repeat (first | refine Safe.seq ?_ | refine Safe.skip ?_ | with_reducible refine thenQ.n ?_ | with_reducible refine blockQ.n ?_)
      refine Safe.ret ?_
      repeat (first | with_reducible refine thenQ.r ?_ | with_reducible refine blockQ.r ?_)
      obtain rfl := Option.some.inj h
      exact retQ.gen (vs := [V.ref [12, 0] 0 (rws api_Timer.cells (sub (st x_935 x_936 (gt x_935 (IntKind.i64.wrap ((x_935.length : Int) - 1)))) 0 (IntKind.i64.wrap ((x_935.length : Int) - 1)))).length, V.int .i64 0]) rfl (.tmp (v := V.ref [12, 0] 0 (rws api_Timer.cells (sub (st x_935 x_936 (gt x_935 (IntKind.i64.wrap ((x_935.length : Int) - 1)))) 0 (IntKind.i64.wrap ((x_935.length : Int) - 1)))).length) rfl (.tmp (v := V.int .i64 0) rfl .nil)) (by exact (.tup (.cons (.own rfl rfl) (.cons (.free rfl) .nil)))) (by simp) (.inr rfl)

noncomputable def go_ravelref08_Cancel_s1 (a1_1159 : Int) (x_1191 : List api_Timer) : ((List api_Timer) × Int) → Option (((List api_Timer) × Int) ⊕ ((List api_Timer) × Int))
  | (v6_1203, v19_1204) =>
    if (decide (v19_1204 < (x_1191.length : Int))) = true then
      if 0 ≤ v19_1204 ∧ v19_1204 < (x_1191.length : Int) then
        if (((gt x_1191 v19_1204).Id) != a1_1159) = true then
          if few (v6_1203 ++ [(gt x_1191 v19_1204)]).length then
            nextO (v6_1203 ++ [(gt x_1191 v19_1204)], IntKind.i64.wrap (v19_1204 + 1))
          else none
        else
          nextO (v6_1203, IntKind.i64.wrap (v19_1204 + 1))
      else none
    else
      inrO (
        some (v6_1203, 0))

noncomputable def go_ravelref08_Cancel (a0_1158 : List api_Timer) (a1_1159 : Int) : Option ((List api_Timer) × Int) :=
  (go_ravelref08_Check a0_1158).bind fun x_1185 =>
  if (x_1185 != 0) = true then
    some ([], 1)
  else
    (go_ravelref08_at a0_1158 a1_1159).bind fun x_1188 =>
    if (decide (x_1188 < 0)) = true then
      some ([], 5)
    else
      (go_ravelref08_Order a0_1158).bind fun x_1191 =>
      whileO (go_ravelref08_Cancel_s1 a1_1159 x_1191) ([], 0)

theorem go_ravelref08_Cancel_sc (a0_1158 : List api_Timer) (a1_1159 : Int) (r : (List api_Timer) × Int) (h : go_ravelref08_Cancel a0_1158 a1_1159 = some r) : SC Try.prog gl 14 [V.sl 2 (rws api_Timer.cells a0_1158), V.int .i64 a1_1159] (V.tup [V.own 2 (rws api_Timer.cells r.1), V.int .i64 r.2]) := by
  rw [go_ravelref08_Cancel] at h
  refine SC.of E_good Try.func14 rfl (fun _ _ => Try.call14 _ _) rfl ?_
  repeat (first | refine Safe.seq ?_ | refine Safe.skip ?_ | with_reducible refine thenQ.n ?_ | with_reducible refine blockQ.n ?_)
  refine Safe.region ?_
  refine SafeOps.quiet0 E_good rfl rfl rfl (v := V.nils) (.fn rfl) ?_
  refine SafeOps.quiet0 E_good rfl rfl rfl (v := V.int .i64 0) (.fn rfl) ?_
  refine SafeOps.nil ?_
  repeat (first | refine Safe.seq ?_ | refine Safe.skip ?_ | with_reducible refine thenQ.n ?_ | with_reducible refine blockQ.n ?_)
  refine Safe.region ?_
  refine SafeOps.quiet0 E_good rfl rfl rfl (v := V.sl 2 (rws api_Timer.cells a0_1158)) (.fn rfl) ?_
  refine bindG h ?_
  intro x_1185 he1186 h
  refine SafeOps.quiet0 E_good rfl rfl rfl (v := V.int .i64 x_1185) (.callP rfl rfl (go_ravelref08_Check_sc a0_1158 _ he1186) rfl) ?_
  refine SafeOps.quiet0 E_good rfl rfl rfl (v := V.bool (x_1185 != 0)) (.fn rfl) ?_
  refine SafeOps.nil ?_
  repeat (first | refine Safe.seq ?_ | refine Safe.skip ?_ | with_reducible refine thenQ.n ?_ | with_reducible refine blockQ.n ?_)
  refine ifG h (fun hc1187 h => ?_) (fun hc1187 h => ?_)
  · skip
    refine Safe.condK rfl hc1187 ?_
    repeat (first | refine Safe.seq ?_ | refine Safe.skip ?_ | with_reducible refine thenQ.n ?_ | with_reducible refine blockQ.n ?_)
    refine Safe.region ?_
    refine SafeOps.quiet0 E_good rfl rfl rfl (v := V.nils) (.fn rfl) ?_
    refine SafeOps.quiet0 E_good rfl rfl rfl (v := V.int .i64 1) (.fn rfl) ?_
    refine SafeOps.nil ?_
    repeat (first | refine Safe.seq ?_ | refine Safe.skip ?_ | with_reducible refine thenQ.n ?_ | with_reducible refine blockQ.n ?_)
    refine Safe.ret ?_
    repeat (first | with_reducible refine thenQ.r ?_ | with_reducible refine blockQ.r ?_)
    obtain rfl := Option.some.inj h
    exact retQ.gen (vs := [V.nils, V.int .i64 1]) rfl (.tmp (v := V.nils) rfl (.tmp (v := V.int .i64 1) rfl .nil)) (by exact (.tup (.cons (.nils _) (.cons (.free rfl) .nil)))) (by simp) (.inr rfl)
  · skip
    refine Safe.condN rfl hc1187 ?_
    repeat (first | refine Safe.seq ?_ | refine Safe.skip ?_ | with_reducible refine thenQ.n ?_ | with_reducible refine blockQ.n ?_)
    refine Safe.region ?_
    refine SafeOps.quiet0 E_good rfl rfl rfl (v := V.sl 2 (rws api_Timer.cells a0_1158)) (.fn rfl) ?_
    refine SafeOps.quiet0 E_good rfl rfl rfl (v := V.int .i64 a1_1159) (.fn rfl) ?_
    refine bindG h ?_
    intro x_1188 he1189 h
    refine SafeOps.quiet0 E_good rfl rfl rfl (v := V.int .i64 x_1188) (.callP rfl rfl (go_ravelref08_at_sc a0_1158 a1_1159 _ he1189) rfl) ?_
    refine SafeOps.quiet0 E_good rfl rfl rfl (v := V.bool (decide (x_1188 < 0))) (.fn rfl) ?_
    refine SafeOps.nil ?_
    repeat (first | refine Safe.seq ?_ | refine Safe.skip ?_ | with_reducible refine thenQ.n ?_ | with_reducible refine blockQ.n ?_)
    refine ifG h (fun hc1190 h => ?_) (fun hc1190 h => ?_)
    · skip
      refine Safe.condK rfl hc1190 ?_
      repeat (first | refine Safe.seq ?_ | refine Safe.skip ?_ | with_reducible refine thenQ.n ?_ | with_reducible refine blockQ.n ?_)
      refine Safe.region ?_
      refine SafeOps.quiet0 E_good rfl rfl rfl (v := V.nils) (.fn rfl) ?_
      refine SafeOps.quiet0 E_good rfl rfl rfl (v := V.int .i64 5) (.fn rfl) ?_
      refine SafeOps.nil ?_
      repeat (first | refine Safe.seq ?_ | refine Safe.skip ?_ | with_reducible refine thenQ.n ?_ | with_reducible refine blockQ.n ?_)
      refine Safe.ret ?_
      repeat (first | with_reducible refine thenQ.r ?_ | with_reducible refine blockQ.r ?_)
      obtain rfl := Option.some.inj h
      exact retQ.gen (vs := [V.nils, V.int .i64 5]) rfl (.tmp (v := V.nils) rfl (.tmp (v := V.int .i64 5) rfl .nil)) (by exact (.tup (.cons (.nils _) (.cons (.free rfl) .nil)))) (by simp) (.inr rfl)
    · skip
      refine Safe.condN rfl hc1190 ?_
      repeat (first | refine Safe.seq ?_ | refine Safe.skip ?_ | with_reducible refine thenQ.n ?_ | with_reducible refine blockQ.n ?_)
      refine Safe.region ?_
      refine SafeOps.quiet0 E_good rfl rfl rfl (v := V.nils) (.fn rfl) ?_
      refine SafeOps.nil ?_
      repeat (first | refine Safe.seq ?_ | refine Safe.skip ?_ | with_reducible refine thenQ.n ?_ | with_reducible refine blockQ.n ?_)
      refine Safe.region ?_
      refine SafeOps.quiet0 E_good rfl rfl rfl (v := V.sl 2 (rws api_Timer.cells a0_1158)) (.fn rfl) ?_
      refine bindG h ?_
      intro x_1191 he1192 h
      refine SafeOps.quiet E_good rfl rfl rfl (v := V.ref [17, 0] 0 (rws api_Timer.cells x_1191).length) (.callP rfl rfl (go_ravelref08_Order_sc a0_1158 _ he1192) rfl) rfl ?_
      refine SafeOps.quiet0 E_good rfl rfl rfl (v := V.int .i64 (x_1191.length : Int)) (.fnE rfl lenE) ?_
      refine SafeOps.quiet0 E_good rfl rfl rfl (v := V.int .i64 0) (.fn rfl) ?_
      refine SafeOps.nil ?_
      repeat (first | refine Safe.seq ?_ | refine Safe.skip ?_ | with_reducible refine thenQ.n ?_ | with_reducible refine blockQ.n ?_)
      refine Safe.block ?_
      repeat (first | refine Safe.seq ?_ | refine Safe.skip ?_ | with_reducible refine thenQ.n ?_ | with_reducible refine blockQ.n ?_)
      refine Safe.loopW (fun ((v6_1203, v19_1204) : (List api_Timer) × Int) => ⟨Try.f14.ntmps, [(1, V.int .i64 a1_1159), (6, V.ref [7000, 118, 6] 0 (rws api_Timer.cells v6_1203).length), (17, V.ref [17, 0] 0 (rws api_Timer.cells x_1191).length), (18, V.int .i64 (x_1191.length : Int)), (19, V.int .i64 v19_1204)], [([17, 0], Obj.rows 2 (rws api_Timer.cells x_1191) false), ([7000, 118, 6], Obj.rows 2 (rws api_Timer.cells v6_1203) false)], [], []⟩) h (.empty [7000, 118, 6] 2 rfl (.cov ⟨rfl, rfl, (upT_cons (.refl _) (upT_cons (.nilref _) (upT_cons (.refl _) (upT_cons (.refl _) (upT_cons (.refl _) upT_nil))))), (upOb_cons rfl (.refl _) (upOb_cons rfl (.refl _) upOb_nil)), upOut_nil, rfl⟩)) ?_
      rintro ⟨v6_1203, v19_1204⟩ ohr1205 h hr1205
      replace h : go_ravelref08_Cancel_s1 a1_1159 x_1191 (v6_1203, v19_1204) = some ohr1205 := h
      rw [go_ravelref08_Cancel_s1] at h
      repeat (first | refine Safe.seq ?_ | refine Safe.skip ?_ | with_reducible refine thenQ.n ?_ | with_reducible refine blockQ.n ?_)
      refine Safe.region ?_
      refine SafeOps.quiet0 E_good rfl rfl rfl (v := V.bool (decide (v19_1204 < (x_1191.length : Int)))) (.fn rfl) ?_
      refine SafeOps.nil ?_
      repeat (first | refine Safe.seq ?_ | refine Safe.skip ?_ | with_reducible refine thenQ.n ?_ | with_reducible refine blockQ.n ?_)
      refine ifG h (fun hc1206 h => ?_) (fun hc1206 h => ?_)
      · skip
        refine Safe.condK rfl hc1206 ?_
        repeat (first | refine Safe.seq ?_ | refine Safe.skip ?_ | with_reducible refine thenQ.n ?_ | with_reducible refine blockQ.n ?_)
        refine Safe.block ?_
        repeat (first | refine Safe.seq ?_ | refine Safe.skip ?_ | with_reducible refine thenQ.n ?_ | with_reducible refine blockQ.n ?_)
        refine Safe.region ?_
        refine okG h (fun hb1207 h => ?_)
        refine SafeOps.quiet0 E_good rfl rfl rfl (v := V.ptr [17, 0] (0 + Int.toNat v19_1204) 0) (.idxRefM (f := api_Timer.cells) (xs := x_1191) rfl rfl rfl rfl rfl rfl hb1207) ?_
        refine SafeOps.quiet0 E_good rfl rfl rfl (v := V.agg [V.int .i64 ((gt x_1191 v19_1204).At), V.int .i64 ((gt x_1191 v19_1204).Id)]) (.load rfl rfl (.rowsM (f := api_Timer.cells) (xs := x_1191) hb1207 rfl rfl) rfl) ?_
        refine SafeOps.quiet1 E_good rfl rfl rfl (.alloc rfl rfl) rfl ?_
        refine SafeOps.store (z := Obj.box [V.int .i64 ((gt x_1191 v19_1204).At), V.int .i64 ((gt x_1191 v19_1204).Id)]) E_good rfl rfl rfl rfl rfl rfl rfl (.boxM (c := 2) rfl rfl (Nat.le_of_ble_eq_true rfl) rfl) ?_
        refine SafeOps.nil ?_
        repeat (first | refine Safe.seq ?_ | refine Safe.skip ?_ | with_reducible refine thenQ.n ?_ | with_reducible refine blockQ.n ?_)
        refine Safe.region ?_
        refine SafeOps.quiet0 E_good rfl rfl rfl (v := V.ptr [8] 0 1) (.fn rfl) ?_
        refine SafeOps.quiet0 E_good rfl rfl rfl (v := V.int .i64 ((gt x_1191 v19_1204).Id)) (.load rfl rfl (.box rfl rfl) rfl) ?_
        refine SafeOps.quiet0 E_good rfl rfl rfl (v := V.int .i64 a1_1159) (.fn rfl) ?_
        refine SafeOps.quiet0 E_good rfl rfl rfl (v := V.bool (((gt x_1191 v19_1204).Id) != a1_1159)) (.fn rfl) ?_
        refine SafeOps.nil ?_
        repeat (first | refine Safe.seq ?_ | refine Safe.skip ?_ | with_reducible refine thenQ.n ?_ | with_reducible refine blockQ.n ?_)
        refine ifG h (fun hc1208 h => ?_) (fun hc1208 h => ?_)
        · skip
          refine Safe.condK rfl hc1208 ?_
          repeat (first | refine Safe.seq ?_ | refine Safe.skip ?_ | with_reducible refine thenQ.n ?_ | with_reducible refine blockQ.n ?_)
          refine Safe.region ?_
          refine SafeOps.quiet0 E_good rfl rfl rfl (v := V.ref [7000, 118, 6] 0 (rws api_Timer.cells v6_1203).length) (.fn rfl) ?_
          refine SafeOps.quiet0 E_good rfl rfl rfl (v := V.agg [V.int .i64 ((gt x_1191 v19_1204).At), V.int .i64 ((gt x_1191 v19_1204).Id)]) (.load rfl rfl (.box rfl rfl) rfl) ?_
          refine SafeOps.quiet1 E_good rfl rfl rfl (.litM (f := api_Timer.cells) (xs := [(gt x_1191 v19_1204)]) rfl rfl (by decide) rfl rfl rfl rfl rfl) rfl ?_
          refine okG h (fun hb1209 h => ?_)
          refine SafeOps.appendM api_Timer.cells (xs := v6_1203) (ys := [(gt x_1191 v19_1204)]) E_good rfl rfl rfl rfl rfl rfl rfl rfl rfl (.own rfl) (.own rfl) (fun _ => rfl) hb1209 ?_
          refine SafeOps.quiet0 E_good rfl rfl rfl (v := V.ref [30] 0 (rws api_Timer.cells (v6_1203 ++ [(gt x_1191 v19_1204)])).length) (.fn rfl) ?_
          refine SafeOps.nil ?_
          repeat (first | refine Safe.seq ?_ | refine Safe.skip ?_ | with_reducible refine thenQ.n ?_ | with_reducible refine blockQ.n ?_)
          refine Safe.region ?_
          refine SafeOps.quiet0 E_good rfl rfl rfl (v := V.int .i64 (IntKind.i64.wrap (v19_1204 + 1))) (.fn rfl) ?_
          refine SafeOps.quiet0 E_good rfl rfl rfl (v := V.int .i64 (IntKind.i64.wrap (v19_1204 + 1))) (.fn rfl) ?_
          refine SafeOps.nil ?_
          repeat (first | refine Safe.seq ?_ | refine Safe.skip ?_ | with_reducible refine thenQ.n ?_ | with_reducible refine blockQ.n ?_)
          exact ⟨_, next_out h, (.ren [30] [7000, 118, 6] (.cov ⟨rfl, rfl, (upT_cons (.refl _) (upT_cons (.refl _) (upT_cons (.refl _) (upT_cons (.refl _) (upT_cons (.refl _) upT_nil))))), (upOb_cons rfl (.refl _) (upOb_cons rfl (.refl _) upOb_nil)), upOut_nil, rfl⟩))⟩
        · skip
          refine Safe.condN rfl hc1208 ?_
          repeat (first | refine Safe.seq ?_ | refine Safe.skip ?_ | with_reducible refine thenQ.n ?_ | with_reducible refine blockQ.n ?_)
          refine Safe.region ?_
          refine SafeOps.quiet0 E_good rfl rfl rfl (v := V.int .i64 (IntKind.i64.wrap (v19_1204 + 1))) (.fn rfl) ?_
          refine SafeOps.quiet0 E_good rfl rfl rfl (v := V.int .i64 (IntKind.i64.wrap (v19_1204 + 1))) (.fn rfl) ?_
          refine SafeOps.nil ?_
          repeat (first | refine Safe.seq ?_ | refine Safe.skip ?_ | with_reducible refine thenQ.n ?_ | with_reducible refine blockQ.n ?_)
          exact ⟨_, next_out h, (.cov ⟨rfl, rfl, (upT_cons (.refl _) (upT_cons (.refl _) (upT_cons (.refl _) (upT_cons (.refl _) (upT_cons (.refl _) upT_nil))))), (upOb_cons rfl (.refl _) (upOb_cons rfl (.refl _) upOb_nil)), upOut_nil, rfl⟩)⟩
      · skip
        refine Safe.condN rfl hc1206 ?_
        repeat (first | refine Safe.seq ?_ | refine Safe.skip ?_ | with_reducible refine thenQ.n ?_ | with_reducible refine blockQ.n ?_)
        refine Safe.exit ?_
        repeat (first | with_reducible refine thenQ.e ?_ | with_reducible refine blockQ.x rfl ?_ | with_reducible refine blockQ.y rfl ?_)
        replace h := inr_out h hr1205
        repeat (first | refine Safe.seq ?_ | refine Safe.skip ?_ | with_reducible refine thenQ.n ?_ | with_reducible refine blockQ.n ?_)
        refine Safe.region ?_
        refine SafeOps.quiet0 E_good rfl rfl rfl (v := V.ref [7000, 118, 6] 0 (rws api_Timer.cells v6_1203).length) (.fn rfl) ?_
        refine SafeOps.quiet0 E_good rfl rfl rfl (v := V.ref [7000, 118, 6] 0 (rws api_Timer.cells v6_1203).length) (.fn rfl) ?_
        refine SafeOps.quiet0 E_good rfl rfl rfl (v := V.int .i64 0) (.fn rfl) ?_
        refine SafeOps.nil ?_
        repeat (first | refine Safe.seq ?_ | refine Safe.skip ?_ | with_reducible refine thenQ.n ?_ | with_reducible refine blockQ.n ?_)
        refine Safe.ret ?_
        repeat (first | with_reducible refine thenQ.r ?_ | with_reducible refine blockQ.r ?_)
        obtain rfl := Option.some.inj h
        exact retQ.gen (vs := [V.ref [7000, 118, 6] 0 (rws api_Timer.cells v6_1203).length, V.int .i64 0]) rfl (.tmp (v := V.ref [7000, 118, 6] 0 (rws api_Timer.cells v6_1203).length) rfl (.tmp (v := V.int .i64 0) rfl .nil)) (by exact (.tup (.cons (.own rfl rfl) (.cons (.free rfl) .nil)))) (by simp) (.inr rfl)

noncomputable def go_heap_Reset_s8  : ((List api_Timer) × Int) → Option (((List api_Timer) × Int) ⊕ ((List api_Timer) × Int))
  | (v8_1661, v1_1662) =>
    if (decide (v1_1662 > 0)) = true then
      if 0 ≤ (IntKind.i64.wrap (Int.tdiv (IntKind.i64.wrap (v1_1662 - 1)) 4)) ∧ (IntKind.i64.wrap (Int.tdiv (IntKind.i64.wrap (v1_1662 - 1)) 4)) < (v8_1661.length : Int) then
        if 0 ≤ v1_1662 ∧ v1_1662 < (v8_1661.length : Int) then
          (go_heap_order (gt v8_1661 (IntKind.i64.wrap (Int.tdiv (IntKind.i64.wrap (v1_1662 - 1)) 4))) (gt v8_1661 v1_1662)).bind fun x_1667 =>
          if (decide (x_1667 ≤ 0)) = true then
            inrO (
              some (v8_1661, 0))
          else
            if 0 ≤ v1_1662 ∧ v1_1662 < (v8_1661.length : Int) then
              if 0 ≤ (IntKind.i64.wrap (Int.tdiv (IntKind.i64.wrap (v1_1662 - 1)) 4)) ∧ (IntKind.i64.wrap (Int.tdiv (IntKind.i64.wrap (v1_1662 - 1)) 4)) < (v8_1661.length : Int) then
                if 0 ≤ (IntKind.i64.wrap (Int.tdiv (IntKind.i64.wrap (v1_1662 - 1)) 4)) ∧ (IntKind.i64.wrap (Int.tdiv (IntKind.i64.wrap (v1_1662 - 1)) 4)) < (v8_1661.length : Int) then
                  if 0 ≤ v1_1662 ∧ v1_1662 < ((st v8_1661 (IntKind.i64.wrap (Int.tdiv (IntKind.i64.wrap (v1_1662 - 1)) 4)) (gt v8_1661 v1_1662)).length : Int) then
                    nextO (st (st v8_1661 (IntKind.i64.wrap (Int.tdiv (IntKind.i64.wrap (v1_1662 - 1)) 4)) (gt v8_1661 v1_1662)) v1_1662 (gt v8_1661 (IntKind.i64.wrap (Int.tdiv (IntKind.i64.wrap (v1_1662 - 1)) 4))), IntKind.i64.wrap (Int.tdiv (IntKind.i64.wrap (v1_1662 - 1)) 4))
                  else none
                else none
              else none
            else none
        else none
      else none
    else
      inrO (
        some (v8_1661, 0))

noncomputable def go_heap_Reset_s7 (x_1455 : Int) (v8_1583 : List api_Timer) (v1_1584 : Int) : (Int × Int) → Option ((Int × Int) ⊕ (((List api_Timer) × Int) ⊕ ((List api_Timer) × Int)))
  | (v4_1628, v5_1629) =>
    if ((decide (v5_1629 ≤ (IntKind.i64.wrap ((IntKind.i64.wrap (4 * v1_1584)) + 4)))) && (decide (v5_1629 < (v8_1583.length : Int)))) = true then
      if 0 ≤ v5_1629 ∧ v5_1629 < (v8_1583.length : Int) then
        if 0 ≤ v4_1628 ∧ v4_1628 < (v8_1583.length : Int) then
          (go_heap_order (gt v8_1583 v5_1629) (gt v8_1583 v4_1628)).bind fun x_1635 =>
          if (decide (x_1635 < 0)) = true then
            nextO (v5_1629, IntKind.i64.wrap (v5_1629 + 1))
          else
            nextO (v4_1628, IntKind.i64.wrap (v5_1629 + 1))
        else none
      else none
    else
      inrO (
        if (v4_1628 == v1_1584) = true then
          inrO (
            whileO go_heap_Reset_s8 (v8_1583, x_1455))
        else
          if 0 ≤ v1_1584 ∧ v1_1584 < (v8_1583.length : Int) then
            if 0 ≤ v4_1628 ∧ v4_1628 < (v8_1583.length : Int) then
              if 0 ≤ v4_1628 ∧ v4_1628 < (v8_1583.length : Int) then
                if 0 ≤ v1_1584 ∧ v1_1584 < ((st v8_1583 v4_1628 (gt v8_1583 v1_1584)).length : Int) then
                  nextO (st (st v8_1583 v4_1628 (gt v8_1583 v1_1584)) v1_1584 (gt v8_1583 v4_1628), v4_1628)
                else none
              else none
            else none
          else none)

noncomputable def go_heap_Reset_s5 (x_1455 : Int) : ((List api_Timer) × Int) → Option (((List api_Timer) × Int) ⊕ ((List api_Timer) × Int))
  | (v8_1583, v1_1584) =>
    whileO (go_heap_Reset_s7 x_1455 v8_1583 v1_1584) (v1_1584, IntKind.i64.wrap ((IntKind.i64.wrap (4 * v1_1584)) + 1))

noncomputable def go_heap_Reset (a0_1213 : List api_Timer) (a1_1214 : Int) (a2_1215 : Int) : Option ((List api_Timer) × Int) :=
  (go_heap_find a0_1213 a1_1214).bind fun (x_1454, x_1455, x_1456) =>
  if (((x_1456 == 1) || (decide (a2_1215 < 0))) || (decide (a2_1215 > 1125899906842624))) = true then
    some ([], 1)
  else
    if (x_1456 != 0) = true then
      some ([], x_1456)
    else
      if 0 ≤ x_1455 ∧ x_1455 < (x_1454.length : Int) then
        whileO (go_heap_Reset_s5 x_1455) (st x_1454 x_1455 (api_Timer.mk a2_1215 ((gt x_1454 x_1455).Id)), x_1455)
      else none

theorem go_heap_Reset_sc (a0_1213 : List api_Timer) (a1_1214 : Int) (a2_1215 : Int) (r : (List api_Timer) × Int) (h : go_heap_Reset a0_1213 a1_1214 a2_1215 = some r) : SC Try.prog gl 15 [V.sl 2 (rws api_Timer.cells a0_1213), V.int .i64 a1_1214, V.int .i64 a2_1215] (V.tup [V.own 2 (rws api_Timer.cells r.1), V.int .i64 r.2]) := by
  rw [go_heap_Reset] at h
  refine SC.of E_good Try.func15 rfl (fun _ _ => Try.call15 _ _) rfl ?_
  repeat (first | refine Safe.seq ?_ | refine Safe.skip ?_ | with_reducible refine thenQ.n ?_ | with_reducible refine blockQ.n ?_)
  refine Safe.region ?_
  refine SafeOps.quiet0 E_good rfl rfl rfl (v := V.nils) (.fn rfl) ?_
  refine SafeOps.quiet0 E_good rfl rfl rfl (v := V.int .i64 0) (.fn rfl) ?_
  refine SafeOps.nil ?_
  repeat (first | refine Safe.seq ?_ | refine Safe.skip ?_ | with_reducible refine thenQ.n ?_ | with_reducible refine blockQ.n ?_)
  refine Safe.region ?_
  refine SafeOps.quiet0 E_good rfl rfl rfl (v := V.sl 2 (rws api_Timer.cells a0_1213)) (.fn rfl) ?_
  refine SafeOps.quiet0 E_good rfl rfl rfl (v := V.int .i64 a1_1214) (.fn rfl) ?_
  refine bindG h ?_
  rintro ⟨x_1454, x_1455, x_1456⟩ he1457 h
  refine SafeOps.quiet E_good rfl rfl rfl (v := V.tup [V.ref [14, 0] 0 (rws api_Timer.cells x_1454).length, V.int .i64 x_1455, V.int .i64 x_1456]) (.callP rfl rfl (go_heap_find_sc a0_1213 a1_1214 _ he1457) rfl) rfl ?_
  refine SafeOps.quiet0 E_good rfl rfl rfl (v := V.tup [V.ref [14, 0] 0 (rws api_Timer.cells x_1454).length, V.int .i64 x_1455, V.int .i64 x_1456]) (.fn rfl) ?_
  refine SafeOps.quiet0 E_good rfl rfl rfl (v := V.ref [14, 0] 0 (rws api_Timer.cells x_1454).length) (.fn rfl) ?_
  refine SafeOps.quiet0 E_good rfl rfl rfl (v := V.int .i64 x_1455) (.fn rfl) ?_
  refine SafeOps.quiet0 E_good rfl rfl rfl (v := V.int .i64 x_1456) (.fn rfl) ?_
  refine SafeOps.quiet0 E_good rfl rfl rfl (v := V.ref [14, 0] 0 (rws api_Timer.cells x_1454).length) (.fn rfl) ?_
  refine SafeOps.quiet0 E_good rfl rfl rfl (v := V.int .i64 x_1455) (.fn rfl) ?_
  refine SafeOps.quiet0 E_good rfl rfl rfl (v := V.int .i64 x_1456) (.fn rfl) ?_
  refine SafeOps.nil ?_
  repeat (first | refine Safe.seq ?_ | refine Safe.skip ?_ | with_reducible refine thenQ.n ?_ | with_reducible refine blockQ.n ?_)
  refine Safe.block ?_
  repeat (first | refine Safe.seq ?_ | refine Safe.skip ?_ | with_reducible refine thenQ.n ?_ | with_reducible refine blockQ.n ?_)
  refine Safe.region ?_
  refine SafeOps.quiet0 E_good rfl rfl rfl (v := V.int .i64 x_1456) (.fn rfl) ?_
  refine SafeOps.quiet0 E_good rfl rfl rfl (v := V.bool (x_1456 == 1)) (.fn rfl) ?_
  refine SafeOps.quiet0 E_good rfl rfl rfl (v := V.bool (x_1456 == 1)) (.fn rfl) ?_
  refine SafeOps.bjoin 3 24 (b := ((x_1456 == 1) || (decide (a2_1215 < 0)))) (b1 := true) (b0 := decide (a2_1215 < 0)) (fun hc1462 K => ?_) (fun hc1462 K => ?_) bj_or ?_
  · skip
    refine SafeOps.skip (congrArg (fun b => some (!b)) hc1462) rfl rfl ?_
    refine SafeOps.skip (congrArg (fun b => some (!b)) hc1462) rfl rfl ?_
    refine SafeOps.quiet0 E_good rfl rfl rfl (v := V.bool true) (.pickK rfl hc1462 rfl) ?_
    exact SafeOps.drop' 3 rfl rfl rfl K
  · skip
    refine SafeOps.quiet0 E_good (congrArg (fun b => some (!b)) hc1462) rfl rfl (v := V.int .i64 a2_1215) (.fn rfl) ?_
    refine SafeOps.quiet0 E_good (congrArg (fun b => some (!b)) hc1462) rfl rfl (v := V.bool (decide (a2_1215 < 0))) (.fn rfl) ?_
    refine SafeOps.quiet0 E_good rfl rfl rfl (v := V.bool (decide (a2_1215 < 0))) (.pickK rfl hc1462 rfl) ?_
    exact SafeOps.drop' 3 rfl rfl rfl K
  refine SafeOps.quiet0 E_good rfl rfl rfl (v := V.bool ((x_1456 == 1) || (decide (a2_1215 < 0)))) (.fn rfl) ?_
  refine SafeOps.bjoin 3 28 (b := (((x_1456 == 1) || (decide (a2_1215 < 0))) || (decide (a2_1215 > 1125899906842624)))) (b1 := true) (b0 := decide (a2_1215 > 1125899906842624)) (fun hc1463 K => ?_) (fun hc1463 K => ?_) bj_or ?_
  · skip
    refine SafeOps.skip (congrArg (fun b => some (!b)) hc1463) rfl rfl ?_
    refine SafeOps.skip (congrArg (fun b => some (!b)) hc1463) rfl rfl ?_
    refine SafeOps.quiet0 E_good rfl rfl rfl (v := V.bool true) (.pickK rfl hc1463 rfl) ?_
    exact SafeOps.drop' 3 rfl rfl rfl K
  · skip
    refine SafeOps.quiet0 E_good (congrArg (fun b => some (!b)) hc1463) rfl rfl (v := V.int .i64 a2_1215) (.fn rfl) ?_
    refine SafeOps.quiet0 E_good (congrArg (fun b => some (!b)) hc1463) rfl rfl (v := V.bool (decide (a2_1215 > 1125899906842624))) (.fn rfl) ?_
    refine SafeOps.quiet0 E_good rfl rfl rfl (v := V.bool (decide (a2_1215 > 1125899906842624))) (.pickK rfl hc1463 rfl) ?_
    exact SafeOps.drop' 3 rfl rfl rfl K
  refine SafeOps.quiet0 E_good rfl rfl rfl (v := V.bool (((x_1456 == 1) || (decide (a2_1215 < 0))) || (decide (a2_1215 > 1125899906842624)))) (.fn rfl) ?_
  refine SafeOps.nil ?_
  repeat (first | refine Safe.seq ?_ | refine Safe.skip ?_ | with_reducible refine thenQ.n ?_ | with_reducible refine blockQ.n ?_)
  refine ifG h (fun hc1464 h => ?_) (fun hc1464 h => ?_)
  · skip
    refine Safe.condK rfl hc1464 ?_
    repeat (first | refine Safe.seq ?_ | refine Safe.skip ?_ | with_reducible refine thenQ.n ?_ | with_reducible refine blockQ.n ?_)
    refine Safe.region ?_
    refine SafeOps.quiet0 E_good rfl rfl rfl (v := V.nils) (.fn rfl) ?_
    refine SafeOps.quiet0 E_good rfl rfl rfl (v := V.int .i64 1) (.fn rfl) ?_
    refine SafeOps.nil ?_
    repeat (first | refine Safe.seq ?_ | refine Safe.skip ?_ | with_reducible refine thenQ.n ?_ | with_reducible refine blockQ.n ?_)
    refine Safe.ret ?_
    repeat (first | with_reducible refine thenQ.r ?_ | with_reducible refine blockQ.r ?_)
    obtain rfl := Option.some.inj h
    exact retQ.gen (vs := [V.nils, V.int .i64 1]) rfl (.tmp (v := V.nils) rfl (.tmp (v := V.int .i64 1) rfl .nil)) (by exact (.tup (.cons (.nils _) (.cons (.free rfl) .nil)))) (by simp) (.inr rfl)
  · skip
    refine Safe.condN rfl hc1464 ?_
    repeat (first | refine Safe.seq ?_ | refine Safe.skip ?_ | with_reducible refine thenQ.n ?_ | with_reducible refine blockQ.n ?_)
    refine Safe.region ?_
    refine SafeOps.quiet0 E_good rfl rfl rfl (v := V.int .i64 x_1456) (.fn rfl) ?_
    refine SafeOps.quiet0 E_good rfl rfl rfl (v := V.bool (x_1456 != 0)) (.fn rfl) ?_
    refine SafeOps.quiet0 E_good rfl rfl rfl (v := V.bool (x_1456 != 0)) (.fn rfl) ?_
    refine SafeOps.nil ?_
    repeat (first | refine Safe.seq ?_ | refine Safe.skip ?_ | with_reducible refine thenQ.n ?_ | with_reducible refine blockQ.n ?_)
    refine ifG h (fun hc1465 h => ?_) (fun hc1465 h => ?_)
    · skip
      refine Safe.condK rfl hc1465 ?_
      repeat (first | refine Safe.seq ?_ | refine Safe.skip ?_ | with_reducible refine thenQ.n ?_ | with_reducible refine blockQ.n ?_)
      refine Safe.region ?_
      refine SafeOps.quiet0 E_good rfl rfl rfl (v := V.int .i64 x_1456) (.fn rfl) ?_
      refine SafeOps.quiet0 E_good rfl rfl rfl (v := V.nils) (.fn rfl) ?_
      refine SafeOps.quiet0 E_good rfl rfl rfl (v := V.int .i64 x_1456) (.fn rfl) ?_
      refine SafeOps.nil ?_
      repeat (first | refine Safe.seq ?_ | refine Safe.skip ?_ | with_reducible refine thenQ.n ?_ | with_reducible refine blockQ.n ?_)
      refine Safe.ret ?_
      repeat (first | with_reducible refine thenQ.r ?_ | with_reducible refine blockQ.r ?_)
      obtain rfl := Option.some.inj h
      exact retQ.gen (vs := [V.nils, V.int .i64 x_1456]) rfl (.tmp (v := V.nils) rfl (.tmp (v := V.int .i64 x_1456) rfl .nil)) (by exact (.tup (.cons (.nils _) (.cons (.free rfl) .nil)))) (by simp) (.inr rfl)
    · skip
      refine Safe.condN rfl hc1465 ?_
      repeat (first | refine Safe.seq ?_ | refine Safe.skip ?_ | with_reducible refine thenQ.n ?_ | with_reducible refine blockQ.n ?_)
      refine Safe.region ?_
      refine SafeOps.quiet0 E_good rfl rfl rfl (v := V.ref [14, 0] 0 (rws api_Timer.cells x_1454).length) (.fn rfl) ?_
      refine SafeOps.quiet0 E_good rfl rfl rfl (v := V.int .i64 x_1455) (.fn rfl) ?_
      refine SafeOps.quiet0 E_good rfl rfl rfl (v := V.int .i64 a2_1215) (.fn rfl) ?_
      refine okG h (fun hb1466 h => ?_)
      refine SafeOps.quiet0 E_good rfl rfl rfl (v := V.ptr [14, 0] (0 + Int.toNat x_1455) 0) (.idxRefM (f := api_Timer.cells) (xs := x_1454) rfl rfl rfl rfl rfl rfl hb1466) ?_
      refine SafeOps.quiet0 E_good rfl rfl rfl (v := V.ptr [14, 0] (0 + Int.toNat x_1455) 0) (.fn rfl) ?_
      refine SafeOps.store (z := Obj.rows 2 (rws api_Timer.cells (st x_1454 x_1455 (api_Timer.mk a2_1215 ((gt x_1454 x_1455).Id)))) false) E_good rfl rfl rfl rfl rfl rfl rfl (.rowsM (f := api_Timer.cells) (xs := x_1454) (y := (api_Timer.mk a2_1215 ((gt x_1454 x_1455).Id))) hb1466 rfl rfl rfl rfl) ?_
      refine SafeOps.see 15 (u := V.ref [14, 0] 0 (rws api_Timer.cells (st x_1454 x_1455 (api_Timer.mk a2_1215 ((gt x_1454 x_1455).Id)))).length) rfl (.len (by simp [rws, st])) ?_
      refine SafeOps.see 8 (u := V.ref [14, 0] 0 (rws api_Timer.cells (st x_1454 x_1455 (api_Timer.mk a2_1215 ((gt x_1454 x_1455).Id)))).length) rfl (.len (by simp [rws, st])) ?_
      refine SafeOps.see 33 (u := V.ref [14, 0] 0 (rws api_Timer.cells (st x_1454 x_1455 (api_Timer.mk a2_1215 ((gt x_1454 x_1455).Id)))).length) rfl (.len (by simp [rws, st])) ?_
      refine SafeOps.nil ?_
      repeat (first | refine Safe.seq ?_ | refine Safe.skip ?_ | with_reducible refine thenQ.n ?_ | with_reducible refine blockQ.n ?_)
      refine Safe.region ?_
      refine SafeOps.quiet0 E_good rfl rfl rfl (v := V.ref [14, 0] 0 (rws api_Timer.cells (st x_1454 x_1455 (api_Timer.mk a2_1215 ((gt x_1454 x_1455).Id)))).length) (.fn rfl) ?_
      refine SafeOps.quiet0 E_good rfl rfl rfl (v := V.int .i64 x_1455) (.fn rfl) ?_
      refine SafeOps.inline E_good rfl rfl rfl rfl rfl Try.func40 rfl (fun _ _ => Try.call40 _ _) rfl ?_
      repeat (first | refine Safe.seq ?_ | refine Safe.skip ?_ | with_reducible refine thenQ.n ?_ | with_reducible refine blockQ.n ?_)
      refine Safe.block ?_
      repeat (first | refine Safe.seq ?_ | refine Safe.skip ?_ | with_reducible refine thenQ.n ?_ | with_reducible refine blockQ.n ?_)
      refine Safe.loopW (fun ((v8_1583, v1_1584) : (List api_Timer) × Int) => ⟨Try.f40.ntmps, [(0, V.ref [14, 0] 0 (rws api_Timer.cells v8_1583).length), (1, V.int .i64 v1_1584)], [([14, 0], Obj.rows 2 (rws api_Timer.cells v8_1583) false)], [(Try.f15.ntmps, [(8, V.ref [14, 0] 0 (rws api_Timer.cells v8_1583).length), (9, V.int .i64 x_1455)])], [40]⟩) h (.cov ⟨rfl, rfl, (upT_cons (.refl _) (upT_cons (.refl _) upT_nil)), (upOb_cons rfl (.refl _) upOb_nil), (upOut_cons rfl (upT_cons (.refl _) (upT_cons (.refl _) upT_nil)) upOut_nil), rfl⟩) ?_
      rintro ⟨v8_1583, v1_1584⟩ ohr1585 h hr1585
      replace h : go_heap_Reset_s5 x_1455 (v8_1583, v1_1584) = some ohr1585 := h
      rw [go_heap_Reset_s5] at h
      repeat (first | refine Safe.seq ?_ | refine Safe.skip ?_ | with_reducible refine thenQ.n ?_ | with_reducible refine blockQ.n ?_)
      refine Safe.block ?_
      repeat (first | refine Safe.seq ?_ | refine Safe.skip ?_ | with_reducible refine thenQ.n ?_ | with_reducible refine blockQ.n ?_)
      refine Safe.region ?_
      refine SafeOps.quiet0 E_good rfl rfl rfl (v := V.int .i64 v1_1584) (.fn rfl) ?_
      refine SafeOps.quiet0 E_good rfl rfl rfl (v := V.int .i64 v1_1584) (.fn rfl) ?_
      refine SafeOps.nil ?_
      repeat (first | refine Safe.seq ?_ | refine Safe.skip ?_ | with_reducible refine thenQ.n ?_ | with_reducible refine blockQ.n ?_)
      refine Safe.region ?_
      refine SafeOps.quiet0 E_good rfl rfl rfl (v := V.int .i64 v1_1584) (.fn rfl) ?_
      refine SafeOps.quiet0 E_good rfl rfl rfl (v := V.int .i64 (IntKind.i64.wrap (4 * v1_1584))) (.fn rfl) ?_
      refine SafeOps.quiet0 E_good rfl rfl rfl (v := V.int .i64 (IntKind.i64.wrap ((IntKind.i64.wrap (4 * v1_1584)) + 1))) (.fn rfl) ?_
      refine SafeOps.quiet0 E_good rfl rfl rfl (v := V.int .i64 (IntKind.i64.wrap ((IntKind.i64.wrap (4 * v1_1584)) + 1))) (.fn rfl) ?_
      refine SafeOps.nil ?_
      repeat (first | refine Safe.seq ?_ | refine Safe.skip ?_ | with_reducible refine thenQ.n ?_ | with_reducible refine blockQ.n ?_)
      refine Safe.block ?_
      repeat (first | refine Safe.seq ?_ | refine Safe.skip ?_ | with_reducible refine thenQ.n ?_ | with_reducible refine blockQ.n ?_)
      refine Safe.loopW (fun ((v4_1628, v5_1629) : Int × Int) => ⟨Try.f40.ntmps, [(0, V.ref [14, 0] 0 (rws api_Timer.cells v8_1583).length), (1, V.int .i64 v1_1584), (4, V.int .i64 v4_1628), (5, V.int .i64 v5_1629)], [([14, 0], Obj.rows 2 (rws api_Timer.cells v8_1583) false)], [(Try.f15.ntmps, [(8, V.ref [14, 0] 0 (rws api_Timer.cells v8_1583).length), (9, V.int .i64 x_1455)])], [40]⟩) h (.cov ⟨rfl, rfl, (upT_cons (.refl _) (upT_cons (.refl _) (upT_cons (.refl _) (upT_cons (.refl _) upT_nil)))), (upOb_cons rfl (.refl _) upOb_nil), (upOut_cons rfl (upT_cons (.refl _) (upT_cons (.refl _) upT_nil)) upOut_nil), rfl⟩) ?_
      rintro ⟨v4_1628, v5_1629⟩ ohr1630 h hr1630
      replace h : go_heap_Reset_s7 x_1455 v8_1583 v1_1584 (v4_1628, v5_1629) = some ohr1630 := h
      rw [go_heap_Reset_s7] at h
      repeat (first | refine Safe.seq ?_ | refine Safe.skip ?_ | with_reducible refine thenQ.n ?_ | with_reducible refine blockQ.n ?_)
      refine Safe.region ?_
      refine SafeOps.quiet0 E_good rfl rfl rfl (v := V.int .i64 v5_1629) (.fn rfl) ?_
      refine SafeOps.quiet0 E_good rfl rfl rfl (v := V.int .i64 v1_1584) (.fn rfl) ?_
      refine SafeOps.quiet0 E_good rfl rfl rfl (v := V.int .i64 (IntKind.i64.wrap (4 * v1_1584))) (.fn rfl) ?_
      refine SafeOps.quiet0 E_good rfl rfl rfl (v := V.int .i64 (IntKind.i64.wrap ((IntKind.i64.wrap (4 * v1_1584)) + 4))) (.fn rfl) ?_
      refine SafeOps.quiet0 E_good rfl rfl rfl (v := V.bool (decide (v5_1629 ≤ (IntKind.i64.wrap ((IntKind.i64.wrap (4 * v1_1584)) + 4))))) (.fn rfl) ?_
      refine SafeOps.quiet0 E_good rfl rfl rfl (v := V.bool (decide (v5_1629 ≤ (IntKind.i64.wrap ((IntKind.i64.wrap (4 * v1_1584)) + 4))))) (.fn rfl) ?_
      refine SafeOps.bjoin 5 20 (b := ((decide (v5_1629 ≤ (IntKind.i64.wrap ((IntKind.i64.wrap (4 * v1_1584)) + 4)))) && (decide (v5_1629 < (v8_1583.length : Int))))) (b1 := decide (v5_1629 < (v8_1583.length : Int))) (b0 := false) (fun hc1631 K => ?_) (fun hc1631 K => ?_) bj_and ?_
      · skip
        refine SafeOps.quiet0 E_good (congrArg some hc1631) rfl rfl (v := V.int .i64 v5_1629) (.fn rfl) ?_
        refine SafeOps.quiet0 E_good (congrArg some hc1631) rfl rfl (v := V.ref [14, 0] 0 (rws api_Timer.cells v8_1583).length) (.fn rfl) ?_
        refine SafeOps.quiet0 E_good (congrArg some hc1631) rfl rfl (v := V.int .i64 (v8_1583.length : Int)) (.fnE rfl lenE) ?_
        refine SafeOps.quiet0 E_good (congrArg some hc1631) rfl rfl (v := V.bool (decide (v5_1629 < (v8_1583.length : Int)))) (.fn rfl) ?_
        refine SafeOps.quiet0 E_good rfl rfl rfl (v := V.bool (decide (v5_1629 < (v8_1583.length : Int)))) (.pickK rfl hc1631 rfl) ?_
        exact SafeOps.drop' 5 rfl rfl rfl K
      · skip
        refine SafeOps.skip (congrArg some hc1631) rfl rfl ?_
        refine SafeOps.skip (congrArg some hc1631) rfl rfl ?_
        refine SafeOps.skip (congrArg some hc1631) rfl rfl ?_
        refine SafeOps.skip (congrArg some hc1631) rfl rfl ?_
        refine SafeOps.quiet0 E_good rfl rfl rfl (v := V.bool false) (.pickK rfl hc1631 rfl) ?_
        exact SafeOps.drop' 5 rfl rfl rfl K
      refine SafeOps.nil ?_
      repeat (first | refine Safe.seq ?_ | refine Safe.skip ?_ | with_reducible refine thenQ.n ?_ | with_reducible refine blockQ.n ?_)
      refine ifG h (fun hc1632 h => ?_) (fun hc1632 h => ?_)
      · skip
        refine Safe.condK rfl hc1632 ?_
        repeat (first | refine Safe.seq ?_ | refine Safe.skip ?_ | with_reducible refine thenQ.n ?_ | with_reducible refine blockQ.n ?_)
        refine Safe.block ?_
        repeat (first | refine Safe.seq ?_ | refine Safe.skip ?_ | with_reducible refine thenQ.n ?_ | with_reducible refine blockQ.n ?_)
        refine Safe.regionD (n := 10) [] [] E_good mixed rfl ?_
        refine DAny.take (i := 0) rfl (by kernel_rfl) [] (by kernel_rfl) (by kernel_rfl) (by kernel_rfl) rfl rfl rfl (v := V.ref [14, 0] 0 (rws api_Timer.cells v8_1583).length) (fun _ hz => (.fn rfl)) ?_
        refine DAny.take (i := 1) rfl (by kernel_rfl) [] (by kernel_rfl) (by kernel_rfl) (by kernel_rfl) rfl rfl rfl (v := V.int .i64 v5_1629) (fun _ hz => (.fn rfl)) ?_
        refine okG h (fun hb1633 h => ?_)
        refine DAny.take (i := 2) rfl (by kernel_rfl) [] (by kernel_rfl) (by kernel_rfl) (by kernel_rfl) rfl rfl rfl (v := V.ptr [14, 0] (0 + Int.toNat v5_1629) 0) (fun _ hz => (.idxRefM (f := api_Timer.cells) (xs := v8_1583) rfl rfl rfl (hz _ _ rfl rfl) rfl rfl hb1633)) ?_
        refine DAny.take (i := 3) rfl (by kernel_rfl) [] (by kernel_rfl) (by kernel_rfl) (by kernel_rfl) rfl rfl rfl (v := V.agg [V.int .i64 ((gt v8_1583 v5_1629).At), V.int .i64 ((gt v8_1583 v5_1629).Id)]) (fun _ hz => (.load rfl rfl (.rowsM (f := api_Timer.cells) (xs := v8_1583) hb1633 (hz _ _ rfl rfl) rfl) rfl)) ?_
        refine DAny.take (i := 4) rfl (by kernel_rfl) [] (by kernel_rfl) (by kernel_rfl) (by kernel_rfl) rfl rfl rfl (v := V.ref [14, 0] 0 (rws api_Timer.cells v8_1583).length) (fun _ hz => (.fn rfl)) ?_
        refine DAny.take (i := 5) rfl (by kernel_rfl) [] (by kernel_rfl) (by kernel_rfl) (by kernel_rfl) rfl rfl rfl (v := V.int .i64 v4_1628) (fun _ hz => (.fn rfl)) ?_
        refine okG h (fun hb1634 h => ?_)
        refine DAny.take (i := 6) rfl (by kernel_rfl) [] (by kernel_rfl) (by kernel_rfl) (by kernel_rfl) rfl rfl rfl (v := V.ptr [14, 0] (0 + Int.toNat v4_1628) 0) (fun _ hz => (.idxRefM (f := api_Timer.cells) (xs := v8_1583) rfl rfl rfl (hz _ _ rfl rfl) rfl rfl hb1634)) ?_
        refine DAny.take (i := 7) rfl (by kernel_rfl) [] (by kernel_rfl) (by kernel_rfl) (by kernel_rfl) rfl rfl rfl (v := V.agg [V.int .i64 ((gt v8_1583 v4_1628).At), V.int .i64 ((gt v8_1583 v4_1628).Id)]) (fun _ hz => (.load rfl rfl (.rowsM (f := api_Timer.cells) (xs := v8_1583) hb1634 (hz _ _ rfl rfl) rfl) rfl)) ?_
        refine bindG h ?_
        intro x_1635 he1636 h
        refine DAny.take (i := 8) rfl (by kernel_rfl) [] (by kernel_rfl) (by kernel_rfl) (by kernel_rfl) rfl rfl rfl (v := V.int .i64 x_1635) (fun _ hz => (.callP rfl rfl (go_heap_order_sc (gt v8_1583 v5_1629) (gt v8_1583 v4_1628) _ he1636) rfl)) ?_
        refine DAny.take (i := 9) rfl (by kernel_rfl) [] (by kernel_rfl) (by kernel_rfl) (by kernel_rfl) rfl rfl rfl (v := V.bool (decide (x_1635 < 0))) (fun _ hz => (.fn rfl)) ?_
        refine DAny.nil (by kernel_rfl) ?_
        repeat (first | refine Safe.seq ?_ | refine Safe.skip ?_ | with_reducible refine thenQ.n ?_ | with_reducible refine blockQ.n ?_)
        refine ifG h (fun hc1637 h => ?_) (fun hc1637 h => ?_)
        · skip
          refine Safe.condK rfl hc1637 ?_
          repeat (first | refine Safe.seq ?_ | refine Safe.skip ?_ | with_reducible refine thenQ.n ?_ | with_reducible refine blockQ.n ?_)
          refine Safe.region ?_
          refine SafeOps.quiet0 E_good rfl rfl rfl (v := V.int .i64 v5_1629) (.fn rfl) ?_
          refine SafeOps.quiet0 E_good rfl rfl rfl (v := V.int .i64 v5_1629) (.fn rfl) ?_
          refine SafeOps.nil ?_
          repeat (first | refine Safe.seq ?_ | refine Safe.skip ?_ | with_reducible refine thenQ.n ?_ | with_reducible refine blockQ.n ?_)
          refine Safe.region ?_
          refine SafeOps.quiet0 E_good rfl rfl rfl (v := V.int .i64 v5_1629) (.fn rfl) ?_
          refine SafeOps.quiet0 E_good rfl rfl rfl (v := V.int .i64 (IntKind.i64.wrap (v5_1629 + 1))) (.fn rfl) ?_
          refine SafeOps.quiet0 E_good rfl rfl rfl (v := V.int .i64 (IntKind.i64.wrap (v5_1629 + 1))) (.fn rfl) ?_
          refine SafeOps.nil ?_
          repeat (first | refine Safe.seq ?_ | refine Safe.skip ?_ | with_reducible refine thenQ.n ?_ | with_reducible refine blockQ.n ?_)
          exact ⟨_, next_out h, (.cov ⟨rfl, rfl, (upT_cons (.refl _) (upT_cons (.refl _) (upT_cons (.refl _) (upT_cons (.refl _) upT_nil)))), (upOb_cons rfl (.refl _) upOb_nil), (upOut_cons rfl (upT_cons (.refl _) (upT_cons (.refl _) upT_nil)) upOut_nil), rfl⟩)⟩
        · skip
          refine Safe.condN rfl hc1637 ?_
          repeat (first | refine Safe.seq ?_ | refine Safe.skip ?_ | with_reducible refine thenQ.n ?_ | with_reducible refine blockQ.n ?_)
          refine Safe.region ?_
          refine SafeOps.quiet0 E_good rfl rfl rfl (v := V.int .i64 v5_1629) (.fn rfl) ?_
          refine SafeOps.quiet0 E_good rfl rfl rfl (v := V.int .i64 (IntKind.i64.wrap (v5_1629 + 1))) (.fn rfl) ?_
          refine SafeOps.quiet0 E_good rfl rfl rfl (v := V.int .i64 (IntKind.i64.wrap (v5_1629 + 1))) (.fn rfl) ?_
          refine SafeOps.nil ?_
          repeat (first | refine Safe.seq ?_ | refine Safe.skip ?_ | with_reducible refine thenQ.n ?_ | with_reducible refine blockQ.n ?_)
          exact ⟨_, next_out h, (.cov ⟨rfl, rfl, (upT_cons (.refl _) (upT_cons (.refl _) (upT_cons (.refl _) (upT_cons (.refl _) upT_nil)))), (upOb_cons rfl (.refl _) upOb_nil), (upOut_cons rfl (upT_cons (.refl _) (upT_cons (.refl _) upT_nil)) upOut_nil), rfl⟩)⟩
      · skip
        refine Safe.condN rfl hc1632 ?_
        repeat (first | refine Safe.seq ?_ | refine Safe.skip ?_ | with_reducible refine thenQ.n ?_ | with_reducible refine blockQ.n ?_)
        refine Safe.exit ?_
        repeat (first | with_reducible refine thenQ.e ?_ | with_reducible refine blockQ.x rfl ?_ | with_reducible refine blockQ.y rfl ?_)
        replace h := inr_out h hr1630
        repeat (first | refine Safe.seq ?_ | refine Safe.skip ?_ | with_reducible refine thenQ.n ?_ | with_reducible refine blockQ.n ?_)
        refine Safe.region ?_
        refine SafeOps.quiet0 E_good rfl rfl rfl (v := V.int .i64 v4_1628) (.fn rfl) ?_
        refine SafeOps.quiet0 E_good rfl rfl rfl (v := V.int .i64 v1_1584) (.fn rfl) ?_
        refine SafeOps.quiet0 E_good rfl rfl rfl (v := V.bool (v4_1628 == v1_1584)) (.fn rfl) ?_
        refine SafeOps.nil ?_
        repeat (first | refine Safe.seq ?_ | refine Safe.skip ?_ | with_reducible refine thenQ.n ?_ | with_reducible refine blockQ.n ?_)
        refine ifG h (fun hc1638 h => ?_) (fun hc1638 h => ?_)
        · skip
          refine Safe.condK rfl hc1638 ?_
          repeat (first | refine Safe.seq ?_ | refine Safe.skip ?_ | with_reducible refine thenQ.n ?_ | with_reducible refine blockQ.n ?_)
          refine Safe.ret ?_
          repeat (first | with_reducible refine thenQ.r ?_ | with_reducible refine blockQ.r ?_)
          refine inQ.gen (vs := []) (v := V.tup []) (.inr rfl) rfl .nil rfl ?_
          replace h := inr_out h hr1585
          refine SafeOps.nil ?_
          repeat (first | refine Safe.seq ?_ | refine Safe.skip ?_ | with_reducible refine thenQ.n ?_ | with_reducible refine blockQ.n ?_)
          refine Safe.region ?_
          refine SafeOps.quiet0 E_good rfl rfl rfl (v := V.ref [14, 0] 0 (rws api_Timer.cells v8_1583).length) (.fn rfl) ?_
          refine SafeOps.quiet0 E_good rfl rfl rfl (v := V.int .i64 x_1455) (.fn rfl) ?_
          refine SafeOps.inline E_good rfl rfl rfl rfl rfl Try.func34 rfl (fun _ _ => Try.call34 _ _) rfl ?_
          repeat (first | refine Safe.seq ?_ | refine Safe.skip ?_ | with_reducible refine thenQ.n ?_ | with_reducible refine blockQ.n ?_)
          refine Safe.block ?_
          repeat (first | refine Safe.seq ?_ | refine Safe.skip ?_ | with_reducible refine thenQ.n ?_ | with_reducible refine blockQ.n ?_)
          refine Safe.loopW (fun ((v8_1661, v1_1662) : (List api_Timer) × Int) => ⟨Try.f34.ntmps, [(0, V.ref [14, 0] 0 (rws api_Timer.cells v8_1661).length), (1, V.int .i64 v1_1662)], [([14, 0], Obj.rows 2 (rws api_Timer.cells v8_1661) false)], [(Try.f15.ntmps, [(8, V.ref [14, 0] 0 (rws api_Timer.cells v8_1661).length)])], [43]⟩) h (.cov ⟨rfl, rfl, (upT_cons (.refl _) (upT_cons (.refl _) upT_nil)), (upOb_cons rfl (.refl _) upOb_nil), (upOut_cons rfl (upT_cons (.refl _) upT_nil) upOut_nil), rfl⟩) ?_
          rintro ⟨v8_1661, v1_1662⟩ ohr1663 h hr1663
          replace h : go_heap_Reset_s8 (v8_1661, v1_1662) = some ohr1663 := h
          rw [go_heap_Reset_s8] at h
          repeat (first | refine Safe.seq ?_ | refine Safe.skip ?_ | with_reducible refine thenQ.n ?_ | with_reducible refine blockQ.n ?_)
          refine Safe.region ?_
          refine SafeOps.quiet0 E_good rfl rfl rfl (v := V.int .i64 v1_1662) (.fn rfl) ?_
          refine SafeOps.quiet0 E_good rfl rfl rfl (v := V.bool (decide (v1_1662 > 0))) (.fn rfl) ?_
          refine SafeOps.nil ?_
          repeat (first | refine Safe.seq ?_ | refine Safe.skip ?_ | with_reducible refine thenQ.n ?_ | with_reducible refine blockQ.n ?_)
          refine ifG h (fun hc1664 h => ?_) (fun hc1664 h => ?_)
          · skip
            refine Safe.condK rfl hc1664 ?_
            repeat (first | refine Safe.seq ?_ | refine Safe.skip ?_ | with_reducible refine thenQ.n ?_ | with_reducible refine blockQ.n ?_)
            refine Safe.block ?_
            repeat (first | refine Safe.seq ?_ | refine Safe.skip ?_ | with_reducible refine thenQ.n ?_ | with_reducible refine blockQ.n ?_)
            refine Safe.region ?_
            refine SafeOps.quiet0 E_good rfl rfl rfl (v := V.int .i64 v1_1662) (.fn rfl) ?_
            refine SafeOps.quiet0 E_good rfl rfl rfl (v := V.int .i64 (IntKind.i64.wrap (v1_1662 - 1))) (.fn rfl) ?_
            refine SafeOps.quiet0 E_good rfl rfl rfl (v := V.int .i64 (IntKind.i64.wrap (Int.tdiv (IntKind.i64.wrap (v1_1662 - 1)) 4))) (.quoV rfl rfl (by decide)) ?_
            refine SafeOps.quiet0 E_good rfl rfl rfl (v := V.int .i64 (IntKind.i64.wrap (Int.tdiv (IntKind.i64.wrap (v1_1662 - 1)) 4))) (.fn rfl) ?_
            refine SafeOps.nil ?_
            repeat (first | refine Safe.seq ?_ | refine Safe.skip ?_ | with_reducible refine thenQ.n ?_ | with_reducible refine blockQ.n ?_)
            refine Safe.regionD (n := 10) [] [] E_good mixed rfl ?_
            refine DAny.take (i := 0) rfl (by kernel_rfl) [] (by kernel_rfl) (by kernel_rfl) (by kernel_rfl) rfl rfl rfl (v := V.ref [14, 0] 0 (rws api_Timer.cells v8_1661).length) (fun _ hz => (.fn rfl)) ?_
            refine DAny.take (i := 1) rfl (by kernel_rfl) [] (by kernel_rfl) (by kernel_rfl) (by kernel_rfl) rfl rfl rfl (v := V.int .i64 (IntKind.i64.wrap (Int.tdiv (IntKind.i64.wrap (v1_1662 - 1)) 4))) (fun _ hz => (.fn rfl)) ?_
            refine okG h (fun hb1665 h => ?_)
            refine DAny.take (i := 2) rfl (by kernel_rfl) [] (by kernel_rfl) (by kernel_rfl) (by kernel_rfl) rfl rfl rfl (v := V.ptr [14, 0] (0 + Int.toNat (IntKind.i64.wrap (Int.tdiv (IntKind.i64.wrap (v1_1662 - 1)) 4))) 0) (fun _ hz => (.idxRefM (f := api_Timer.cells) (xs := v8_1661) rfl rfl rfl (hz _ _ rfl rfl) rfl rfl hb1665)) ?_
            refine DAny.take (i := 3) rfl (by kernel_rfl) [] (by kernel_rfl) (by kernel_rfl) (by kernel_rfl) rfl rfl rfl (v := V.agg [V.int .i64 ((gt v8_1661 (IntKind.i64.wrap (Int.tdiv (IntKind.i64.wrap (v1_1662 - 1)) 4))).At), V.int .i64 ((gt v8_1661 (IntKind.i64.wrap (Int.tdiv (IntKind.i64.wrap (v1_1662 - 1)) 4))).Id)]) (fun _ hz => (.load rfl rfl (.rowsM (f := api_Timer.cells) (xs := v8_1661) hb1665 (hz _ _ rfl rfl) rfl) rfl)) ?_
            refine DAny.take (i := 4) rfl (by kernel_rfl) [] (by kernel_rfl) (by kernel_rfl) (by kernel_rfl) rfl rfl rfl (v := V.ref [14, 0] 0 (rws api_Timer.cells v8_1661).length) (fun _ hz => (.fn rfl)) ?_
            refine DAny.take (i := 5) rfl (by kernel_rfl) [] (by kernel_rfl) (by kernel_rfl) (by kernel_rfl) rfl rfl rfl (v := V.int .i64 v1_1662) (fun _ hz => (.fn rfl)) ?_
            refine okG h (fun hb1666 h => ?_)
            refine DAny.take (i := 6) rfl (by kernel_rfl) [] (by kernel_rfl) (by kernel_rfl) (by kernel_rfl) rfl rfl rfl (v := V.ptr [14, 0] (0 + Int.toNat v1_1662) 0) (fun _ hz => (.idxRefM (f := api_Timer.cells) (xs := v8_1661) rfl rfl rfl (hz _ _ rfl rfl) rfl rfl hb1666)) ?_
            refine DAny.take (i := 7) rfl (by kernel_rfl) [] (by kernel_rfl) (by kernel_rfl) (by kernel_rfl) rfl rfl rfl (v := V.agg [V.int .i64 ((gt v8_1661 v1_1662).At), V.int .i64 ((gt v8_1661 v1_1662).Id)]) (fun _ hz => (.load rfl rfl (.rowsM (f := api_Timer.cells) (xs := v8_1661) hb1666 (hz _ _ rfl rfl) rfl) rfl)) ?_
            refine bindG h ?_
            intro x_1667 he1668 h
            refine DAny.take (i := 8) rfl (by kernel_rfl) [] (by kernel_rfl) (by kernel_rfl) (by kernel_rfl) rfl rfl rfl (v := V.int .i64 x_1667) (fun _ hz => (.callP rfl rfl (go_heap_order_sc (gt v8_1661 (IntKind.i64.wrap (Int.tdiv (IntKind.i64.wrap (v1_1662 - 1)) 4))) (gt v8_1661 v1_1662) _ he1668) rfl)) ?_
            refine DAny.take (i := 9) rfl (by kernel_rfl) [] (by kernel_rfl) (by kernel_rfl) (by kernel_rfl) rfl rfl rfl (v := V.bool (decide (x_1667 ≤ 0))) (fun _ hz => (.fn rfl)) ?_
            refine DAny.nil (by kernel_rfl) ?_
            repeat (first | refine Safe.seq ?_ | refine Safe.skip ?_ | with_reducible refine thenQ.n ?_ | with_reducible refine blockQ.n ?_)
            refine ifG h (fun hc1669 h => ?_) (fun hc1669 h => ?_)
            · skip
              refine Safe.condK rfl hc1669 ?_
              repeat (first | refine Safe.seq ?_ | refine Safe.skip ?_ | with_reducible refine thenQ.n ?_ | with_reducible refine blockQ.n ?_)
              refine Safe.ret ?_
              repeat (first | with_reducible refine thenQ.r ?_ | with_reducible refine blockQ.r ?_)
              refine inQ.gen (vs := []) (v := V.tup []) (.inr rfl) rfl .nil rfl ?_
              replace h := inr_out h hr1663
              refine SafeOps.nil ?_
              repeat (first | refine Safe.seq ?_ | refine Safe.skip ?_ | with_reducible refine thenQ.n ?_ | with_reducible refine blockQ.n ?_)
              refine Safe.region ?_
              refine SafeOps.quiet0 E_good rfl rfl rfl (v := V.ref [14, 0] 0 (rws api_Timer.cells v8_1661).length) (.fn rfl) ?_
              refine SafeOps.quiet0 E_good rfl rfl rfl (v := V.ref [14, 0] 0 (rws api_Timer.cells v8_1661).length) (.fn rfl) ?_
              refine SafeOps.quiet0 E_good rfl rfl rfl (v := V.int .i64 0) (.fn rfl) ?_
              refine SafeOps.nil ?_
              repeat (first | refine Safe.seq ?_ | refine Safe.skip ?_ | with_reducible refine thenQ.n ?_ | with_reducible refine blockQ.n ?_)
              refine Safe.ret ?_
              repeat (first | with_reducible refine thenQ.r ?_ | with_reducible refine blockQ.r ?_)
              obtain rfl := Option.some.inj h
              exact retQ.gen (vs := [V.ref [14, 0] 0 (rws api_Timer.cells v8_1661).length, V.int .i64 0]) rfl (.tmp (v := V.ref [14, 0] 0 (rws api_Timer.cells v8_1661).length) rfl (.tmp (v := V.int .i64 0) rfl .nil)) (by exact (.tup (.cons (.own rfl rfl) (.cons (.free rfl) .nil)))) (by simp) (.inr rfl)
            · skip
              refine Safe.condN rfl hc1669 ?_
              repeat (first | refine Safe.seq ?_ | refine Safe.skip ?_ | with_reducible refine thenQ.n ?_ | with_reducible refine blockQ.n ?_)
              refine Safe.regionD (n := 16) [(13, [12, 0]), (13, [14, 0]), (13, [35]), (15, [12, 0]), (15, [14, 0]), (15, [35])] [] E_good mixed rfl ?_
              refine DAny.take (i := 0) rfl (by kernel_rfl) [[12, 0], [14, 0], [35]] (by kernel_rfl) (by kernel_rfl) (by kernel_rfl) rfl rfl rfl (v := V.ref [14, 0] 0 (rws api_Timer.cells v8_1661).length) (fun _ hz => (.fn rfl)) ?_
              refine DAny.take (i := 1) rfl (by kernel_rfl) [[12, 0], [14, 0], [35]] (by kernel_rfl) (by kernel_rfl) (by kernel_rfl) rfl rfl rfl (v := V.int .i64 (IntKind.i64.wrap (Int.tdiv (IntKind.i64.wrap (v1_1662 - 1)) 4))) (fun _ hz => (.fn rfl)) ?_
              refine DAny.take (i := 2) rfl (by kernel_rfl) [[12, 0], [14, 0], [35]] (by kernel_rfl) (by kernel_rfl) (by kernel_rfl) rfl rfl rfl (v := V.ref [14, 0] 0 (rws api_Timer.cells v8_1661).length) (fun _ hz => (.fn rfl)) ?_
              refine DAny.take (i := 3) rfl (by kernel_rfl) [[12, 0], [14, 0], [35]] (by kernel_rfl) (by kernel_rfl) (by kernel_rfl) rfl rfl rfl (v := V.int .i64 v1_1662) (fun _ hz => (.fn rfl)) ?_
              refine DAny.take (i := 4) rfl (by kernel_rfl) [[12, 0], [14, 0], [35]] (by kernel_rfl) (by kernel_rfl) (by kernel_rfl) rfl rfl rfl (v := V.ref [14, 0] 0 (rws api_Timer.cells v8_1661).length) (fun _ hz => (.fn rfl)) ?_
              refine DAny.take (i := 5) rfl (by kernel_rfl) [[12, 0], [14, 0], [35]] (by kernel_rfl) (by kernel_rfl) (by kernel_rfl) rfl rfl rfl (v := V.int .i64 v1_1662) (fun _ hz => (.fn rfl)) ?_
              refine okG h (fun hb1670 h => ?_)
              refine DAny.take (i := 6) rfl (by kernel_rfl) [[12, 0], [35]] (by kernel_rfl) (by kernel_rfl) (by kernel_rfl) rfl rfl rfl (v := V.ptr [14, 0] (0 + Int.toNat v1_1662) 0) (fun _ hz => (.idxRefM (f := api_Timer.cells) (xs := v8_1661) rfl rfl rfl (hz _ _ rfl rfl) rfl rfl hb1670)) ?_
              refine DAny.take (i := 7) rfl (by kernel_rfl) [[12, 0], [35]] (by kernel_rfl) (by kernel_rfl) (by kernel_rfl) rfl rfl rfl (v := V.agg [V.int .i64 ((gt v8_1661 v1_1662).At), V.int .i64 ((gt v8_1661 v1_1662).Id)]) (fun _ hz => (.load rfl rfl (.rowsM (f := api_Timer.cells) (xs := v8_1661) hb1670 (hz _ _ rfl rfl) rfl) rfl)) ?_
              refine DAny.take (i := 8) rfl (by kernel_rfl) [[12, 0], [14, 0], [35]] (by kernel_rfl) (by kernel_rfl) (by kernel_rfl) rfl rfl rfl (v := V.ref [14, 0] 0 (rws api_Timer.cells v8_1661).length) (fun _ hz => (.fn rfl)) ?_
              refine DAny.take (i := 9) rfl (by kernel_rfl) [[12, 0], [14, 0], [35]] (by kernel_rfl) (by kernel_rfl) (by kernel_rfl) rfl rfl rfl (v := V.int .i64 (IntKind.i64.wrap (Int.tdiv (IntKind.i64.wrap (v1_1662 - 1)) 4))) (fun _ hz => (.fn rfl)) ?_
              refine okG h (fun hb1671 h => ?_)
              refine DAny.take (i := 10) rfl (by kernel_rfl) [[12, 0], [35]] (by kernel_rfl) (by kernel_rfl) (by kernel_rfl) rfl rfl rfl (v := V.ptr [14, 0] (0 + Int.toNat (IntKind.i64.wrap (Int.tdiv (IntKind.i64.wrap (v1_1662 - 1)) 4))) 0) (fun _ hz => (.idxRefM (f := api_Timer.cells) (xs := v8_1661) rfl rfl rfl (hz _ _ rfl rfl) rfl rfl hb1671)) ?_
              refine DAny.take (i := 11) rfl (by kernel_rfl) [[12, 0], [35]] (by kernel_rfl) (by kernel_rfl) (by kernel_rfl) rfl rfl rfl (v := V.agg [V.int .i64 ((gt v8_1661 (IntKind.i64.wrap (Int.tdiv (IntKind.i64.wrap (v1_1662 - 1)) 4))).At), V.int .i64 ((gt v8_1661 (IntKind.i64.wrap (Int.tdiv (IntKind.i64.wrap (v1_1662 - 1)) 4))).Id)]) (fun _ hz => (.load rfl rfl (.rowsM (f := api_Timer.cells) (xs := v8_1661) hb1671 (hz _ _ rfl rfl) rfl) rfl)) ?_
              refine okG h (fun hb1672 h => ?_)
              refine DAny.take (i := 12) rfl (by kernel_rfl) [[12, 0], [35]] (by kernel_rfl) (by kernel_rfl) (by kernel_rfl) rfl rfl rfl (v := V.ptr [14, 0] (0 + Int.toNat (IntKind.i64.wrap (Int.tdiv (IntKind.i64.wrap (v1_1662 - 1)) 4))) 0) (fun _ hz => (.idxRefM (f := api_Timer.cells) (xs := v8_1661) rfl rfl rfl (hz _ _ rfl rfl) rfl rfl hb1672)) ?_
              refine DAny.only (i := 13) rfl (by kernel_rfl) (.store (z := Obj.rows 2 (rws api_Timer.cells (st v8_1661 (IntKind.i64.wrap (Int.tdiv (IntKind.i64.wrap (v1_1662 - 1)) 4)) (gt v8_1661 v1_1662))) false) rfl rfl rfl rfl rfl rfl rfl (.rowsM (f := api_Timer.cells) (xs := v8_1661) (y := (gt v8_1661 v1_1662)) hb1672 rfl rfl rfl rfl) rfl ?_)
              refine okG h (fun hb1673 h => ?_)
              refine DAny.take (i := 14) rfl (by kernel_rfl) [[12, 0], [35]] (by kernel_rfl) (by kernel_rfl) (by kernel_rfl) rfl rfl rfl (v := V.ptr [14, 0] (0 + Int.toNat v1_1662) 0) (fun _ hz => (.idxRefL (f := api_Timer.cells) (xs := st v8_1661 (IntKind.i64.wrap (Int.tdiv (IntKind.i64.wrap (v1_1662 - 1)) 4)) (gt v8_1661 v1_1662)) (ys := v8_1661) rfl rfl rfl (hz _ _ rfl rfl) rfl (by simp [st]) hb1673)) ?_
              refine DAny.only (i := 15) rfl (by kernel_rfl) (.store (z := Obj.rows 2 (rws api_Timer.cells (st (st v8_1661 (IntKind.i64.wrap (Int.tdiv (IntKind.i64.wrap (v1_1662 - 1)) 4)) (gt v8_1661 v1_1662)) v1_1662 (gt v8_1661 (IntKind.i64.wrap (Int.tdiv (IntKind.i64.wrap (v1_1662 - 1)) 4))))) false) rfl rfl rfl rfl rfl rfl rfl (.rowsM (f := api_Timer.cells) (xs := st v8_1661 (IntKind.i64.wrap (Int.tdiv (IntKind.i64.wrap (v1_1662 - 1)) 4)) (gt v8_1661 v1_1662)) (y := (gt v8_1661 (IntKind.i64.wrap (Int.tdiv (IntKind.i64.wrap (v1_1662 - 1)) 4)))) hb1673 rfl rfl rfl rfl) rfl ?_)
              refine DAny.nil (by kernel_rfl) ?_
              repeat (first | refine Safe.seq ?_ | refine Safe.skip ?_ | with_reducible refine thenQ.n ?_ | with_reducible refine blockQ.n ?_)
              refine Safe.see 0 (u := V.ref [14, 0] 0 (rws api_Timer.cells (st (st v8_1661 (IntKind.i64.wrap (Int.tdiv (IntKind.i64.wrap (v1_1662 - 1)) 4)) (gt v8_1661 v1_1662)) v1_1662 (gt v8_1661 (IntKind.i64.wrap (Int.tdiv (IntKind.i64.wrap (v1_1662 - 1)) 4))))).length) rfl (.len (by simp [rws, st])) ?_
              refine Safe.see 10 (u := V.ref [14, 0] 0 (rws api_Timer.cells (st (st v8_1661 (IntKind.i64.wrap (Int.tdiv (IntKind.i64.wrap (v1_1662 - 1)) 4)) (gt v8_1661 v1_1662)) v1_1662 (gt v8_1661 (IntKind.i64.wrap (Int.tdiv (IntKind.i64.wrap (v1_1662 - 1)) 4))))).length) rfl (.len (by simp [rws, st])) ?_
              refine Safe.see 14 (u := V.ref [14, 0] 0 (rws api_Timer.cells (st (st v8_1661 (IntKind.i64.wrap (Int.tdiv (IntKind.i64.wrap (v1_1662 - 1)) 4)) (gt v8_1661 v1_1662)) v1_1662 (gt v8_1661 (IntKind.i64.wrap (Int.tdiv (IntKind.i64.wrap (v1_1662 - 1)) 4))))).length) rfl (.len (by simp [rws, st])) ?_
              refine Safe.see 20 (u := V.ref [14, 0] 0 (rws api_Timer.cells (st (st v8_1661 (IntKind.i64.wrap (Int.tdiv (IntKind.i64.wrap (v1_1662 - 1)) 4)) (gt v8_1661 v1_1662)) v1_1662 (gt v8_1661 (IntKind.i64.wrap (Int.tdiv (IntKind.i64.wrap (v1_1662 - 1)) 4))))).length) rfl (.len (by simp [rws, st])) ?_
              refine Safe.see 22 (u := V.ref [14, 0] 0 (rws api_Timer.cells (st (st v8_1661 (IntKind.i64.wrap (Int.tdiv (IntKind.i64.wrap (v1_1662 - 1)) 4)) (gt v8_1661 v1_1662)) v1_1662 (gt v8_1661 (IntKind.i64.wrap (Int.tdiv (IntKind.i64.wrap (v1_1662 - 1)) 4))))).length) rfl (.len (by simp [rws, st])) ?_
              refine Safe.see 24 (u := V.ref [14, 0] 0 (rws api_Timer.cells (st (st v8_1661 (IntKind.i64.wrap (Int.tdiv (IntKind.i64.wrap (v1_1662 - 1)) 4)) (gt v8_1661 v1_1662)) v1_1662 (gt v8_1661 (IntKind.i64.wrap (Int.tdiv (IntKind.i64.wrap (v1_1662 - 1)) 4))))).length) rfl (.len (by simp [rws, st])) ?_
              refine Safe.see 28 (u := V.ref [14, 0] 0 (rws api_Timer.cells (st (st v8_1661 (IntKind.i64.wrap (Int.tdiv (IntKind.i64.wrap (v1_1662 - 1)) 4)) (gt v8_1661 v1_1662)) v1_1662 (gt v8_1661 (IntKind.i64.wrap (Int.tdiv (IntKind.i64.wrap (v1_1662 - 1)) 4))))).length) rfl (.len (by simp [rws, st])) ?_
              repeat (first | refine Safe.seq ?_ | refine Safe.skip ?_ | with_reducible refine thenQ.n ?_ | with_reducible refine blockQ.n ?_)
              refine Safe.region ?_
              refine SafeOps.quiet0 E_good rfl rfl rfl (v := V.int .i64 (IntKind.i64.wrap (Int.tdiv (IntKind.i64.wrap (v1_1662 - 1)) 4))) (.fn rfl) ?_
              refine SafeOps.quiet0 E_good rfl rfl rfl (v := V.int .i64 (IntKind.i64.wrap (Int.tdiv (IntKind.i64.wrap (v1_1662 - 1)) 4))) (.fn rfl) ?_
              refine SafeOps.nil ?_
              repeat (first | refine Safe.seq ?_ | refine Safe.skip ?_ | with_reducible refine thenQ.n ?_ | with_reducible refine blockQ.n ?_)
              exact ⟨_, next_out h, (.cov ⟨rfl, rfl, (upT_cons (.refl _) (upT_cons (.refl _) upT_nil)), (upOb_cons rfl (.refl _) upOb_nil), (upOut_cons rfl (upT_cons (.len (by simp [rws, st])) upT_nil) upOut_nil), rfl⟩)⟩
          · skip
            refine Safe.condN rfl hc1664 ?_
            repeat (first | refine Safe.seq ?_ | refine Safe.skip ?_ | with_reducible refine thenQ.n ?_ | with_reducible refine blockQ.n ?_)
            refine Safe.exit ?_
            repeat (first | with_reducible refine thenQ.e ?_ | with_reducible refine blockQ.x rfl ?_ | with_reducible refine blockQ.y rfl ?_)
            replace h := inr_out h hr1663
            repeat (first | refine Safe.seq ?_ | refine Safe.skip ?_ | with_reducible refine thenQ.n ?_ | with_reducible refine blockQ.n ?_)
            repeat (first | with_reducible refine thenQ.r ?_ | with_reducible refine blockQ.r ?_)
            refine inQ.gen (vs := []) (v := V.tup []) (.inl rfl) rfl .nil rfl ?_
            refine SafeOps.nil ?_
            repeat (first | refine Safe.seq ?_ | refine Safe.skip ?_ | with_reducible refine thenQ.n ?_ | with_reducible refine blockQ.n ?_)
            refine Safe.region ?_
            refine SafeOps.quiet0 E_good rfl rfl rfl (v := V.ref [14, 0] 0 (rws api_Timer.cells v8_1661).length) (.fn rfl) ?_
            refine SafeOps.quiet0 E_good rfl rfl rfl (v := V.ref [14, 0] 0 (rws api_Timer.cells v8_1661).length) (.fn rfl) ?_
            refine SafeOps.quiet0 E_good rfl rfl rfl (v := V.int .i64 0) (.fn rfl) ?_
            refine SafeOps.nil ?_
            repeat (first | refine Safe.seq ?_ | refine Safe.skip ?_ | with_reducible refine thenQ.n ?_ | with_reducible refine blockQ.n ?_)
            refine Safe.ret ?_
            repeat (first | with_reducible refine thenQ.r ?_ | with_reducible refine blockQ.r ?_)
            obtain rfl := Option.some.inj h
            exact retQ.gen (vs := [V.ref [14, 0] 0 (rws api_Timer.cells v8_1661).length, V.int .i64 0]) rfl (.tmp (v := V.ref [14, 0] 0 (rws api_Timer.cells v8_1661).length) rfl (.tmp (v := V.int .i64 0) rfl .nil)) (by exact (.tup (.cons (.own rfl rfl) (.cons (.free rfl) .nil)))) (by simp) (.inr rfl)
        · skip
          refine Safe.condN rfl hc1638 ?_
          repeat (first | refine Safe.seq ?_ | refine Safe.skip ?_ | with_reducible refine thenQ.n ?_ | with_reducible refine blockQ.n ?_)
          refine Safe.regionD (n := 16) [(13, [12, 0]), (13, [14, 0]), (15, [12, 0]), (15, [14, 0])] [] E_good mixed rfl ?_
          refine DAny.take (i := 0) rfl (by kernel_rfl) [[12, 0], [14, 0]] (by kernel_rfl) (by kernel_rfl) (by kernel_rfl) rfl rfl rfl (v := V.ref [14, 0] 0 (rws api_Timer.cells v8_1583).length) (fun _ hz => (.fn rfl)) ?_
          refine DAny.take (i := 1) rfl (by kernel_rfl) [[12, 0], [14, 0]] (by kernel_rfl) (by kernel_rfl) (by kernel_rfl) rfl rfl rfl (v := V.int .i64 v4_1628) (fun _ hz => (.fn rfl)) ?_
          refine DAny.take (i := 2) rfl (by kernel_rfl) [[12, 0], [14, 0]] (by kernel_rfl) (by kernel_rfl) (by kernel_rfl) rfl rfl rfl (v := V.ref [14, 0] 0 (rws api_Timer.cells v8_1583).length) (fun _ hz => (.fn rfl)) ?_
          refine DAny.take (i := 3) rfl (by kernel_rfl) [[12, 0], [14, 0]] (by kernel_rfl) (by kernel_rfl) (by kernel_rfl) rfl rfl rfl (v := V.int .i64 v1_1584) (fun _ hz => (.fn rfl)) ?_
          refine DAny.take (i := 4) rfl (by kernel_rfl) [[12, 0], [14, 0]] (by kernel_rfl) (by kernel_rfl) (by kernel_rfl) rfl rfl rfl (v := V.ref [14, 0] 0 (rws api_Timer.cells v8_1583).length) (fun _ hz => (.fn rfl)) ?_
          refine DAny.take (i := 5) rfl (by kernel_rfl) [[12, 0], [14, 0]] (by kernel_rfl) (by kernel_rfl) (by kernel_rfl) rfl rfl rfl (v := V.int .i64 v1_1584) (fun _ hz => (.fn rfl)) ?_
          refine okG h (fun hb1674 h => ?_)
          refine DAny.take (i := 6) rfl (by kernel_rfl) [[12, 0]] (by kernel_rfl) (by kernel_rfl) (by kernel_rfl) rfl rfl rfl (v := V.ptr [14, 0] (0 + Int.toNat v1_1584) 0) (fun _ hz => (.idxRefM (f := api_Timer.cells) (xs := v8_1583) rfl rfl rfl (hz _ _ rfl rfl) rfl rfl hb1674)) ?_
          refine DAny.take (i := 7) rfl (by kernel_rfl) [[12, 0]] (by kernel_rfl) (by kernel_rfl) (by kernel_rfl) rfl rfl rfl (v := V.agg [V.int .i64 ((gt v8_1583 v1_1584).At), V.int .i64 ((gt v8_1583 v1_1584).Id)]) (fun _ hz => (.load rfl rfl (.rowsM (f := api_Timer.cells) (xs := v8_1583) hb1674 (hz _ _ rfl rfl) rfl) rfl)) ?_
          refine DAny.take (i := 8) rfl (by kernel_rfl) [[12, 0], [14, 0]] (by kernel_rfl) (by kernel_rfl) (by kernel_rfl) rfl rfl rfl (v := V.ref [14, 0] 0 (rws api_Timer.cells v8_1583).length) (fun _ hz => (.fn rfl)) ?_
          refine DAny.take (i := 9) rfl (by kernel_rfl) [[12, 0], [14, 0]] (by kernel_rfl) (by kernel_rfl) (by kernel_rfl) rfl rfl rfl (v := V.int .i64 v4_1628) (fun _ hz => (.fn rfl)) ?_
          refine okG h (fun hb1675 h => ?_)
          refine DAny.take (i := 10) rfl (by kernel_rfl) [[12, 0]] (by kernel_rfl) (by kernel_rfl) (by kernel_rfl) rfl rfl rfl (v := V.ptr [14, 0] (0 + Int.toNat v4_1628) 0) (fun _ hz => (.idxRefM (f := api_Timer.cells) (xs := v8_1583) rfl rfl rfl (hz _ _ rfl rfl) rfl rfl hb1675)) ?_
          refine DAny.take (i := 11) rfl (by kernel_rfl) [[12, 0]] (by kernel_rfl) (by kernel_rfl) (by kernel_rfl) rfl rfl rfl (v := V.agg [V.int .i64 ((gt v8_1583 v4_1628).At), V.int .i64 ((gt v8_1583 v4_1628).Id)]) (fun _ hz => (.load rfl rfl (.rowsM (f := api_Timer.cells) (xs := v8_1583) hb1675 (hz _ _ rfl rfl) rfl) rfl)) ?_
          refine okG h (fun hb1676 h => ?_)
          refine DAny.take (i := 12) rfl (by kernel_rfl) [[12, 0]] (by kernel_rfl) (by kernel_rfl) (by kernel_rfl) rfl rfl rfl (v := V.ptr [14, 0] (0 + Int.toNat v4_1628) 0) (fun _ hz => (.idxRefM (f := api_Timer.cells) (xs := v8_1583) rfl rfl rfl (hz _ _ rfl rfl) rfl rfl hb1676)) ?_
          refine DAny.only (i := 13) rfl (by kernel_rfl) (.store (z := Obj.rows 2 (rws api_Timer.cells (st v8_1583 v4_1628 (gt v8_1583 v1_1584))) false) rfl rfl rfl rfl rfl rfl rfl (.rowsM (f := api_Timer.cells) (xs := v8_1583) (y := (gt v8_1583 v1_1584)) hb1676 rfl rfl rfl rfl) rfl ?_)
          refine okG h (fun hb1677 h => ?_)
          refine DAny.take (i := 14) rfl (by kernel_rfl) [[12, 0]] (by kernel_rfl) (by kernel_rfl) (by kernel_rfl) rfl rfl rfl (v := V.ptr [14, 0] (0 + Int.toNat v1_1584) 0) (fun _ hz => (.idxRefL (f := api_Timer.cells) (xs := st v8_1583 v4_1628 (gt v8_1583 v1_1584)) (ys := v8_1583) rfl rfl rfl (hz _ _ rfl rfl) rfl (by simp [st]) hb1677)) ?_
          refine DAny.only (i := 15) rfl (by kernel_rfl) (.store (z := Obj.rows 2 (rws api_Timer.cells (st (st v8_1583 v4_1628 (gt v8_1583 v1_1584)) v1_1584 (gt v8_1583 v4_1628))) false) rfl rfl rfl rfl rfl rfl rfl (.rowsM (f := api_Timer.cells) (xs := st v8_1583 v4_1628 (gt v8_1583 v1_1584)) (y := (gt v8_1583 v4_1628)) hb1677 rfl rfl rfl rfl) rfl ?_)
          refine DAny.nil (by kernel_rfl) ?_
          repeat (first | refine Safe.seq ?_ | refine Safe.skip ?_ | with_reducible refine thenQ.n ?_ | with_reducible refine blockQ.n ?_)
          refine Safe.see 0 (u := V.ref [14, 0] 0 (rws api_Timer.cells (st (st v8_1583 v4_1628 (gt v8_1583 v1_1584)) v1_1584 (gt v8_1583 v4_1628))).length) rfl (.len (by simp [rws, st])) ?_
          refine Safe.see 37 (u := V.ref [14, 0] 0 (rws api_Timer.cells (st (st v8_1583 v4_1628 (gt v8_1583 v1_1584)) v1_1584 (gt v8_1583 v4_1628))).length) rfl (.len (by simp [rws, st])) ?_
          refine Safe.see 39 (u := V.ref [14, 0] 0 (rws api_Timer.cells (st (st v8_1583 v4_1628 (gt v8_1583 v1_1584)) v1_1584 (gt v8_1583 v4_1628))).length) rfl (.len (by simp [rws, st])) ?_
          refine Safe.see 41 (u := V.ref [14, 0] 0 (rws api_Timer.cells (st (st v8_1583 v4_1628 (gt v8_1583 v1_1584)) v1_1584 (gt v8_1583 v4_1628))).length) rfl (.len (by simp [rws, st])) ?_
          refine Safe.see 45 (u := V.ref [14, 0] 0 (rws api_Timer.cells (st (st v8_1583 v4_1628 (gt v8_1583 v1_1584)) v1_1584 (gt v8_1583 v4_1628))).length) rfl (.len (by simp [rws, st])) ?_
          repeat (first | refine Safe.seq ?_ | refine Safe.skip ?_ | with_reducible refine thenQ.n ?_ | with_reducible refine blockQ.n ?_)
          refine Safe.region ?_
          refine SafeOps.quiet0 E_good rfl rfl rfl (v := V.int .i64 v4_1628) (.fn rfl) ?_
          refine SafeOps.quiet0 E_good rfl rfl rfl (v := V.int .i64 v4_1628) (.fn rfl) ?_
          refine SafeOps.nil ?_
          repeat (first | refine Safe.seq ?_ | refine Safe.skip ?_ | with_reducible refine thenQ.n ?_ | with_reducible refine blockQ.n ?_)
          exact ⟨_, next_out h, (.cov ⟨rfl, rfl, (upT_cons (.refl _) (upT_cons (.refl _) upT_nil)), (upOb_cons rfl (.refl _) upOb_nil), (upOut_cons rfl (upT_cons (.len (by simp [rws, st])) (upT_cons (.refl _) upT_nil)) upOut_nil), rfl⟩)⟩

noncomputable def go_ravelref08_Reset (a0_1681 : List api_Timer) (a1_1682 : Int) (a2_1683 : Int) : Option ((List api_Timer) × Int) :=
  (go_ravelref08_Check a0_1681).bind fun x_1695 =>
  if (((x_1695 != 0) || (decide (a2_1683 < 0))) || (decide (a2_1683 > 1125899906842624))) = true then
    some ([], 1)
  else
    (go_ravelref08_Cancel a0_1681 a1_1682).bind fun (x_1700, x_1701) =>
    if (x_1701 != 0) = true then
      some ([], x_1701)
    else
      (go_ravelref08_with x_1700 (api_Timer.mk a2_1683 a1_1682)).bind fun x_1704 =>
      some (x_1704, 0)

theorem go_ravelref08_Reset_sc (a0_1681 : List api_Timer) (a1_1682 : Int) (a2_1683 : Int) (r : (List api_Timer) × Int) (h : go_ravelref08_Reset a0_1681 a1_1682 a2_1683 = some r) : SC Try.prog gl 16 [V.sl 2 (rws api_Timer.cells a0_1681), V.int .i64 a1_1682, V.int .i64 a2_1683] (V.tup [V.own 2 (rws api_Timer.cells r.1), V.int .i64 r.2]) := by
  rw [go_ravelref08_Reset] at h
  refine SC.of E_good Try.func16 rfl (fun _ _ => Try.call16 _ _) rfl ?_
  repeat (first | refine Safe.seq ?_ | refine Safe.skip ?_ | with_reducible refine thenQ.n ?_ | with_reducible refine blockQ.n ?_)
  refine Safe.region ?_
  refine SafeOps.quiet0 E_good rfl rfl rfl (v := V.nils) (.fn rfl) ?_
  refine SafeOps.quiet0 E_good rfl rfl rfl (v := V.int .i64 0) (.fn rfl) ?_
  refine SafeOps.nil ?_
  repeat (first | refine Safe.seq ?_ | refine Safe.skip ?_ | with_reducible refine thenQ.n ?_ | with_reducible refine blockQ.n ?_)
  refine Safe.region ?_
  refine SafeOps.quiet0 E_good rfl rfl rfl (v := V.sl 2 (rws api_Timer.cells a0_1681)) (.fn rfl) ?_
  refine bindG h ?_
  intro x_1695 he1696 h
  refine SafeOps.quiet0 E_good rfl rfl rfl (v := V.int .i64 x_1695) (.callP rfl rfl (go_ravelref08_Check_sc a0_1681 _ he1696) rfl) ?_
  refine SafeOps.quiet0 E_good rfl rfl rfl (v := V.bool (x_1695 != 0)) (.fn rfl) ?_
  refine SafeOps.quiet0 E_good rfl rfl rfl (v := V.bool (x_1695 != 0)) (.fn rfl) ?_
  refine SafeOps.bjoin 3 16 (b := ((x_1695 != 0) || (decide (a2_1683 < 0)))) (b1 := true) (b0 := decide (a2_1683 < 0)) (fun hc1697 K => ?_) (fun hc1697 K => ?_) bj_or ?_
  · skip
    refine SafeOps.skip (congrArg (fun b => some (!b)) hc1697) rfl rfl ?_
    refine SafeOps.skip (congrArg (fun b => some (!b)) hc1697) rfl rfl ?_
    refine SafeOps.quiet0 E_good rfl rfl rfl (v := V.bool true) (.pickK rfl hc1697 rfl) ?_
    exact SafeOps.drop' 3 rfl rfl rfl K
  · skip
    refine SafeOps.quiet0 E_good (congrArg (fun b => some (!b)) hc1697) rfl rfl (v := V.int .i64 a2_1683) (.fn rfl) ?_
    refine SafeOps.quiet0 E_good (congrArg (fun b => some (!b)) hc1697) rfl rfl (v := V.bool (decide (a2_1683 < 0))) (.fn rfl) ?_
    refine SafeOps.quiet0 E_good rfl rfl rfl (v := V.bool (decide (a2_1683 < 0))) (.pickK rfl hc1697 rfl) ?_
    exact SafeOps.drop' 3 rfl rfl rfl K
  refine SafeOps.quiet0 E_good rfl rfl rfl (v := V.bool ((x_1695 != 0) || (decide (a2_1683 < 0)))) (.fn rfl) ?_
  refine SafeOps.bjoin 3 20 (b := (((x_1695 != 0) || (decide (a2_1683 < 0))) || (decide (a2_1683 > 1125899906842624)))) (b1 := true) (b0 := decide (a2_1683 > 1125899906842624)) (fun hc1698 K => ?_) (fun hc1698 K => ?_) bj_or ?_
  · skip
    refine SafeOps.skip (congrArg (fun b => some (!b)) hc1698) rfl rfl ?_
    refine SafeOps.skip (congrArg (fun b => some (!b)) hc1698) rfl rfl ?_
    refine SafeOps.quiet0 E_good rfl rfl rfl (v := V.bool true) (.pickK rfl hc1698 rfl) ?_
    exact SafeOps.drop' 3 rfl rfl rfl K
  · skip
    refine SafeOps.quiet0 E_good (congrArg (fun b => some (!b)) hc1698) rfl rfl (v := V.int .i64 a2_1683) (.fn rfl) ?_
    refine SafeOps.quiet0 E_good (congrArg (fun b => some (!b)) hc1698) rfl rfl (v := V.bool (decide (a2_1683 > 1125899906842624))) (.fn rfl) ?_
    refine SafeOps.quiet0 E_good rfl rfl rfl (v := V.bool (decide (a2_1683 > 1125899906842624))) (.pickK rfl hc1698 rfl) ?_
    exact SafeOps.drop' 3 rfl rfl rfl K
  refine SafeOps.nil ?_
  repeat (first | refine Safe.seq ?_ | refine Safe.skip ?_ | with_reducible refine thenQ.n ?_ | with_reducible refine blockQ.n ?_)
  refine ifG h (fun hc1699 h => ?_) (fun hc1699 h => ?_)
  · skip
    refine Safe.condK rfl hc1699 ?_
    repeat (first | refine Safe.seq ?_ | refine Safe.skip ?_ | with_reducible refine thenQ.n ?_ | with_reducible refine blockQ.n ?_)
    refine Safe.region ?_
    refine SafeOps.quiet0 E_good rfl rfl rfl (v := V.nils) (.fn rfl) ?_
    refine SafeOps.quiet0 E_good rfl rfl rfl (v := V.int .i64 1) (.fn rfl) ?_
    refine SafeOps.nil ?_
    repeat (first | refine Safe.seq ?_ | refine Safe.skip ?_ | with_reducible refine thenQ.n ?_ | with_reducible refine blockQ.n ?_)
    refine Safe.ret ?_
    repeat (first | with_reducible refine thenQ.r ?_ | with_reducible refine blockQ.r ?_)
    obtain rfl := Option.some.inj h
    exact retQ.gen (vs := [V.nils, V.int .i64 1]) rfl (.tmp (v := V.nils) rfl (.tmp (v := V.int .i64 1) rfl .nil)) (by exact (.tup (.cons (.nils _) (.cons (.free rfl) .nil)))) (by simp) (.inr rfl)
  · skip
    refine Safe.condN rfl hc1699 ?_
    repeat (first | refine Safe.seq ?_ | refine Safe.skip ?_ | with_reducible refine thenQ.n ?_ | with_reducible refine blockQ.n ?_)
    refine Safe.region ?_
    refine SafeOps.quiet0 E_good rfl rfl rfl (v := V.sl 2 (rws api_Timer.cells a0_1681)) (.fn rfl) ?_
    refine SafeOps.quiet0 E_good rfl rfl rfl (v := V.int .i64 a1_1682) (.fn rfl) ?_
    refine bindG h ?_
    rintro ⟨x_1700, x_1701⟩ he1702 h
    refine SafeOps.quiet E_good rfl rfl rfl (v := V.tup [V.ref [24, 0] 0 (rws api_Timer.cells x_1700).length, V.int .i64 x_1701]) (.callP rfl rfl (go_ravelref08_Cancel_sc a0_1681 a1_1682 _ he1702) rfl) rfl ?_
    refine SafeOps.quiet0 E_good rfl rfl rfl (v := V.tup [V.ref [24, 0] 0 (rws api_Timer.cells x_1700).length, V.int .i64 x_1701]) (.fn rfl) ?_
    refine SafeOps.quiet0 E_good rfl rfl rfl (v := V.ref [24, 0] 0 (rws api_Timer.cells x_1700).length) (.fn rfl) ?_
    refine SafeOps.quiet0 E_good rfl rfl rfl (v := V.int .i64 x_1701) (.fn rfl) ?_
    refine SafeOps.quiet0 E_good rfl rfl rfl (v := V.ref [24, 0] 0 (rws api_Timer.cells x_1700).length) (.fn rfl) ?_
    refine SafeOps.quiet0 E_good rfl rfl rfl (v := V.int .i64 x_1701) (.fn rfl) ?_
    refine SafeOps.nil ?_
    repeat (first | refine Safe.seq ?_ | refine Safe.skip ?_ | with_reducible refine thenQ.n ?_ | with_reducible refine blockQ.n ?_)
    refine Safe.region ?_
    refine SafeOps.quiet0 E_good rfl rfl rfl (v := V.int .i64 x_1701) (.fn rfl) ?_
    refine SafeOps.quiet0 E_good rfl rfl rfl (v := V.bool (x_1701 != 0)) (.fn rfl) ?_
    refine SafeOps.nil ?_
    repeat (first | refine Safe.seq ?_ | refine Safe.skip ?_ | with_reducible refine thenQ.n ?_ | with_reducible refine blockQ.n ?_)
    refine ifG h (fun hc1703 h => ?_) (fun hc1703 h => ?_)
    · skip
      refine Safe.condK rfl hc1703 ?_
      repeat (first | refine Safe.seq ?_ | refine Safe.skip ?_ | with_reducible refine thenQ.n ?_ | with_reducible refine blockQ.n ?_)
      refine Safe.region ?_
      refine SafeOps.quiet0 E_good rfl rfl rfl (v := V.int .i64 x_1701) (.fn rfl) ?_
      refine SafeOps.quiet0 E_good rfl rfl rfl (v := V.nils) (.fn rfl) ?_
      refine SafeOps.quiet0 E_good rfl rfl rfl (v := V.int .i64 x_1701) (.fn rfl) ?_
      refine SafeOps.nil ?_
      repeat (first | refine Safe.seq ?_ | refine Safe.skip ?_ | with_reducible refine thenQ.n ?_ | with_reducible refine blockQ.n ?_)
      refine Safe.ret ?_
      repeat (first | with_reducible refine thenQ.r ?_ | with_reducible refine blockQ.r ?_)
      obtain rfl := Option.some.inj h
      exact retQ.gen (vs := [V.nils, V.int .i64 x_1701]) rfl (.tmp (v := V.nils) rfl (.tmp (v := V.int .i64 x_1701) rfl .nil)) (by exact (.tup (.cons (.nils _) (.cons (.free rfl) .nil)))) (by simp) (.inr rfl)
    · skip
      refine Safe.condN rfl hc1703 ?_
      repeat (first | refine Safe.seq ?_ | refine Safe.skip ?_ | with_reducible refine thenQ.n ?_ | with_reducible refine blockQ.n ?_)
      refine Safe.region ?_
      refine SafeOps.quiet0 E_good rfl rfl rfl (v := V.ref [24, 0] 0 (rws api_Timer.cells x_1700).length) (.fn rfl) ?_
      refine SafeOps.quiet0 E_good rfl rfl rfl (v := V.int .i64 a2_1683) (.fn rfl) ?_
      refine SafeOps.quiet0 E_good rfl rfl rfl (v := V.int .i64 a1_1682) (.fn rfl) ?_
      refine SafeOps.quiet0 E_good rfl rfl rfl (v := V.agg [V.int .i64 a2_1683, V.int .i64 a1_1682]) (.fn rfl) ?_
      refine bindG h ?_
      intro x_1704 he1705 h
      refine SafeOps.quiet E_good rfl rfl rfl (v := V.ref [34, 0] 0 (rws api_Timer.cells x_1704).length) (.callS rfl (.cons (.full rfl rfl) (.cons (.free rfl) .nil)) (go_ravelref08_with_sc x_1700 (api_Timer.mk a2_1683 a1_1682) _ he1705) (.ownM (fun _ => rfl)) rfl) rfl ?_
      refine SafeOps.quiet0 E_good rfl rfl rfl (v := V.ref [34, 0] 0 (rws api_Timer.cells x_1704).length) (.fn rfl) ?_
      refine SafeOps.quiet0 E_good rfl rfl rfl (v := V.int .i64 0) (.fn rfl) ?_
      refine SafeOps.nil ?_
      repeat (first | refine Safe.seq ?_ | refine Safe.skip ?_ | with_reducible refine thenQ.n ?_ | with_reducible refine blockQ.n ?_)
      refine Safe.ret ?_
      repeat (first | with_reducible refine thenQ.r ?_ | with_reducible refine blockQ.r ?_)
      obtain rfl := Option.some.inj h
      exact retQ.gen (vs := [V.ref [34, 0] 0 (rws api_Timer.cells x_1704).length, V.int .i64 0]) rfl (.tmp (v := V.ref [34, 0] 0 (rws api_Timer.cells x_1704).length) rfl (.tmp (v := V.int .i64 0) rfl .nil)) (by exact (.tup (.cons (.own rfl rfl) (.cons (.free rfl) .nil)))) (by simp) (.inr rfl)

theorem okT24 : (eqOk Try.prog E 20 24 && !Try.prog.eqGuardType Try.prog.depth 24) = true := by kernel_rfl

noncomputable def go_ravelref08_SameList_s1 (a0_1735 : List api_Timer) (a1_1736 : List api_Timer) : (Int) → Option ((Int) ⊕ (Bool))
  | v13_1765 =>
    if (decide (v13_1765 < (a0_1735.length : Int))) = true then
      if 0 ≤ v13_1765 ∧ v13_1765 < (a0_1735.length : Int) then
        if 0 ≤ v13_1765 ∧ v13_1765 < (a1_1736.length : Int) then
          if (!(api_Timer.beq (gt a0_1735 v13_1765) (gt a1_1736 v13_1765))) = true then
            inrO (
              some false)
          else
            nextO (IntKind.i64.wrap (v13_1765 + 1))
        else none
      else none
    else
      inrO (
        some true)

noncomputable def go_ravelref08_SameList (a0_1735 : List api_Timer) (a1_1736 : List api_Timer) : Option Bool :=
  if ((a0_1735.length : Int) != (a1_1736.length : Int)) = true then
    some false
  else
    whileO (go_ravelref08_SameList_s1 a0_1735 a1_1736) 0

theorem go_ravelref08_SameList_sc (a0_1735 : List api_Timer) (a1_1736 : List api_Timer) (r : Bool) (h : go_ravelref08_SameList a0_1735 a1_1736 = some r) : SC Try.prog gl 18 [V.sl 2 (rws api_Timer.cells a0_1735), V.sl 2 (rws api_Timer.cells a1_1736)] (V.bool r) := by
  rw [go_ravelref08_SameList] at h
  refine SC.of E_good Try.func18 rfl (fun _ _ => Try.call18 _ _) rfl ?_
  repeat (first | refine Safe.seq ?_ | refine Safe.skip ?_ | with_reducible refine thenQ.n ?_ | with_reducible refine blockQ.n ?_)
  refine Safe.region ?_
  refine SafeOps.quiet0 E_good rfl rfl rfl (v := V.bool false) (.fn rfl) ?_
  refine SafeOps.nil ?_
  repeat (first | refine Safe.seq ?_ | refine Safe.skip ?_ | with_reducible refine thenQ.n ?_ | with_reducible refine blockQ.n ?_)
  refine Safe.region ?_
  refine SafeOps.quiet0 E_good rfl rfl rfl (v := V.sl 2 (rws api_Timer.cells a0_1735)) (.fn rfl) ?_
  refine SafeOps.quiet0 E_good rfl rfl rfl (v := V.int .i64 (a0_1735.length : Int)) (.fnE rfl lenE) ?_
  refine SafeOps.quiet0 E_good rfl rfl rfl (v := V.sl 2 (rws api_Timer.cells a1_1736)) (.fn rfl) ?_
  refine SafeOps.quiet0 E_good rfl rfl rfl (v := V.int .i64 (a1_1736.length : Int)) (.fnE rfl lenE) ?_
  refine SafeOps.quiet0 E_good rfl rfl rfl (v := V.bool ((a0_1735.length : Int) != (a1_1736.length : Int))) (.fn rfl) ?_
  refine SafeOps.nil ?_
  repeat (first | refine Safe.seq ?_ | refine Safe.skip ?_ | with_reducible refine thenQ.n ?_ | with_reducible refine blockQ.n ?_)
  refine ifG h (fun hc1755 h => ?_) (fun hc1755 h => ?_)
  · skip
    refine Safe.condK rfl hc1755 ?_
    repeat (first | refine Safe.seq ?_ | refine Safe.skip ?_ | with_reducible refine thenQ.n ?_ | with_reducible refine blockQ.n ?_)
    refine Safe.region ?_
    refine SafeOps.quiet0 E_good rfl rfl rfl (v := V.bool false) (.fn rfl) ?_
    refine SafeOps.nil ?_
    repeat (first | refine Safe.seq ?_ | refine Safe.skip ?_ | with_reducible refine thenQ.n ?_ | with_reducible refine blockQ.n ?_)
    refine Safe.ret ?_
    repeat (first | with_reducible refine thenQ.r ?_ | with_reducible refine blockQ.r ?_)
    obtain rfl := Option.some.inj h
    exact retQ.gen (vs := [V.bool false]) rfl (.tmp (v := V.bool false) rfl .nil) (.free rfl) (by simp) (.inr rfl)
  · skip
    refine Safe.condN rfl hc1755 ?_
    repeat (first | refine Safe.seq ?_ | refine Safe.skip ?_ | with_reducible refine thenQ.n ?_ | with_reducible refine blockQ.n ?_)
    refine Safe.region ?_
    refine SafeOps.quiet0 E_good rfl rfl rfl (v := V.sl 2 (rws api_Timer.cells a0_1735)) (.fn rfl) ?_
    refine SafeOps.quiet0 E_good rfl rfl rfl (v := V.int .i64 (a0_1735.length : Int)) (.fnE rfl lenE) ?_
    refine SafeOps.quiet0 E_good rfl rfl rfl (v := V.int .i64 0) (.fn rfl) ?_
    refine SafeOps.nil ?_
    repeat (first | refine Safe.seq ?_ | refine Safe.skip ?_ | with_reducible refine thenQ.n ?_ | with_reducible refine blockQ.n ?_)
    refine Safe.block ?_
    repeat (first | refine Safe.seq ?_ | refine Safe.skip ?_ | with_reducible refine thenQ.n ?_ | with_reducible refine blockQ.n ?_)
    refine Safe.loopW (fun (v13_1765 : Int) => ⟨Try.f18.ntmps, [(0, V.sl 2 (rws api_Timer.cells a0_1735)), (1, V.sl 2 (rws api_Timer.cells a1_1736)), (12, V.int .i64 (a0_1735.length : Int)), (13, V.int .i64 v13_1765)], [], [], []⟩) h (.cov ⟨rfl, rfl, (upT_cons (.refl _) (upT_cons (.refl _) (upT_cons (.refl _) (upT_cons (.refl _) upT_nil)))), upOb_nil, upOut_nil, rfl⟩) ?_
    intro v13_1765 ohr1766 h hr1766
    replace h : go_ravelref08_SameList_s1 a0_1735 a1_1736 v13_1765 = some ohr1766 := h
    rw [go_ravelref08_SameList_s1] at h
    repeat (first | refine Safe.seq ?_ | refine Safe.skip ?_ | with_reducible refine thenQ.n ?_ | with_reducible refine blockQ.n ?_)
    refine Safe.region ?_
    refine SafeOps.quiet0 E_good rfl rfl rfl (v := V.bool (decide (v13_1765 < (a0_1735.length : Int)))) (.fn rfl) ?_
    refine SafeOps.nil ?_
    repeat (first | refine Safe.seq ?_ | refine Safe.skip ?_ | with_reducible refine thenQ.n ?_ | with_reducible refine blockQ.n ?_)
    refine ifG h (fun hc1767 h => ?_) (fun hc1767 h => ?_)
    · skip
      refine Safe.condK rfl hc1767 ?_
      repeat (first | refine Safe.seq ?_ | refine Safe.skip ?_ | with_reducible refine thenQ.n ?_ | with_reducible refine blockQ.n ?_)
      refine Safe.block ?_
      repeat (first | refine Safe.seq ?_ | refine Safe.skip ?_ | with_reducible refine thenQ.n ?_ | with_reducible refine blockQ.n ?_)
      refine Safe.region ?_
      refine SafeOps.quiet0 E_good rfl rfl rfl (v := V.int .i64 v13_1765) (.fn rfl) ?_
      refine SafeOps.quiet0 E_good rfl rfl rfl (v := V.int .i64 v13_1765) (.fn rfl) ?_
      refine SafeOps.nil ?_
      repeat (first | refine Safe.seq ?_ | refine Safe.skip ?_ | with_reducible refine thenQ.n ?_ | with_reducible refine blockQ.n ?_)
      refine Safe.regionD (n := 9) [] [] E_good mixed rfl ?_
      refine DAny.take (i := 0) rfl (by kernel_rfl) [] (by kernel_rfl) (by kernel_rfl) (by kernel_rfl) rfl rfl rfl (v := V.sl 2 (rws api_Timer.cells a0_1735)) (fun _ hz => (.fn rfl)) ?_
      refine DAny.take (i := 1) rfl (by kernel_rfl) [] (by kernel_rfl) (by kernel_rfl) (by kernel_rfl) rfl rfl rfl (v := V.int .i64 v13_1765) (fun _ hz => (.fn rfl)) ?_
      refine okG h (fun hb1768 h => ?_)
      refine DAny.take (i := 2) rfl (by kernel_rfl) [] (by kernel_rfl) (by kernel_rfl) (by kernel_rfl) rfl rfl rfl (v := V.spt 2 (rws api_Timer.cells a0_1735) (Int.toNat v13_1765) 0) (fun _ hz => (.idxSlM (f := api_Timer.cells) rfl rfl rfl rfl rfl hb1768)) ?_
      refine DAny.take (i := 3) rfl (by kernel_rfl) [] (by kernel_rfl) (by kernel_rfl) (by kernel_rfl) rfl rfl rfl (v := V.agg [V.int .i64 ((gt a0_1735 v13_1765).At), V.int .i64 ((gt a0_1735 v13_1765).Id)]) (fun _ hz => (.load rfl rfl (.sptM (f := api_Timer.cells) hb1768 rfl) rfl)) ?_
      refine DAny.take (i := 4) rfl (by kernel_rfl) [] (by kernel_rfl) (by kernel_rfl) (by kernel_rfl) rfl rfl rfl (v := V.sl 2 (rws api_Timer.cells a1_1736)) (fun _ hz => (.fn rfl)) ?_
      refine DAny.take (i := 5) rfl (by kernel_rfl) [] (by kernel_rfl) (by kernel_rfl) (by kernel_rfl) rfl rfl rfl (v := V.int .i64 v13_1765) (fun _ hz => (.fn rfl)) ?_
      refine okG h (fun hb1769 h => ?_)
      refine DAny.take (i := 6) rfl (by kernel_rfl) [] (by kernel_rfl) (by kernel_rfl) (by kernel_rfl) rfl rfl rfl (v := V.spt 2 (rws api_Timer.cells a1_1736) (Int.toNat v13_1765) 0) (fun _ hz => (.idxSlM (f := api_Timer.cells) rfl rfl rfl rfl rfl hb1769)) ?_
      refine DAny.take (i := 7) rfl (by kernel_rfl) [] (by kernel_rfl) (by kernel_rfl) (by kernel_rfl) rfl rfl rfl (v := V.agg [V.int .i64 ((gt a1_1736 v13_1765).At), V.int .i64 ((gt a1_1736 v13_1765).Id)]) (fun _ hz => (.load rfl rfl (.sptM (f := api_Timer.cells) hb1769 rfl) rfl)) ?_
      refine DAny.take (i := 8) rfl (by kernel_rfl) [] (by kernel_rfl) (by kernel_rfl) (by kernel_rfl) rfl rfl rfl (v := V.bool (!(api_Timer.beq (gt a0_1735 v13_1765) (gt a1_1736 v13_1765)))) (fun _ hz => (.neA rfl rfl rfl rfl okT24 rfl)) ?_
      refine DAny.nil (by kernel_rfl) ?_
      repeat (first | refine Safe.seq ?_ | refine Safe.skip ?_ | with_reducible refine thenQ.n ?_ | with_reducible refine blockQ.n ?_)
      refine ifG h (fun hc1770 h => ?_) (fun hc1770 h => ?_)
      · skip
        refine Safe.condK rfl hc1770 ?_
        repeat (first | refine Safe.seq ?_ | refine Safe.skip ?_ | with_reducible refine thenQ.n ?_ | with_reducible refine blockQ.n ?_)
        refine Safe.region ?_
        refine SafeOps.quiet0 E_good rfl rfl rfl (v := V.bool false) (.fn rfl) ?_
        refine SafeOps.nil ?_
        repeat (first | refine Safe.seq ?_ | refine Safe.skip ?_ | with_reducible refine thenQ.n ?_ | with_reducible refine blockQ.n ?_)
        refine Safe.ret ?_
        repeat (first | with_reducible refine thenQ.r ?_ | with_reducible refine blockQ.r ?_)
        replace h := inr_out h hr1766
        obtain rfl := Option.some.inj h
        exact retQ.gen (vs := [V.bool false]) rfl (.tmp (v := V.bool false) rfl .nil) (.free rfl) (by simp) (.inr rfl)
      · skip
        refine Safe.condN rfl hc1770 ?_
        repeat (first | refine Safe.seq ?_ | refine Safe.skip ?_ | with_reducible refine thenQ.n ?_ | with_reducible refine blockQ.n ?_)
        refine Safe.region ?_
        refine SafeOps.quiet0 E_good rfl rfl rfl (v := V.int .i64 (IntKind.i64.wrap (v13_1765 + 1))) (.fn rfl) ?_
        refine SafeOps.quiet0 E_good rfl rfl rfl (v := V.int .i64 (IntKind.i64.wrap (v13_1765 + 1))) (.fn rfl) ?_
        refine SafeOps.nil ?_
        repeat (first | refine Safe.seq ?_ | refine Safe.skip ?_ | with_reducible refine thenQ.n ?_ | with_reducible refine blockQ.n ?_)
        exact ⟨_, next_out h, (.cov ⟨rfl, rfl, (upT_cons (.refl _) (upT_cons (.refl _) (upT_cons (.refl _) (upT_cons (.refl _) upT_nil)))), upOb_nil, upOut_nil, rfl⟩)⟩
    · skip
      refine Safe.condN rfl hc1767 ?_
      repeat (first | refine Safe.seq ?_ | refine Safe.skip ?_ | with_reducible refine thenQ.n ?_ | with_reducible refine blockQ.n ?_)
      refine Safe.exit ?_
      repeat (first | with_reducible refine thenQ.e ?_ | with_reducible refine blockQ.x rfl ?_ | with_reducible refine blockQ.y rfl ?_)
      replace h := inr_out h hr1766
      repeat (first | refine Safe.seq ?_ | refine Safe.skip ?_ | with_reducible refine thenQ.n ?_ | with_reducible refine blockQ.n ?_)
      refine Safe.region ?_
      refine SafeOps.quiet0 E_good rfl rfl rfl (v := V.bool true) (.fn rfl) ?_
      refine SafeOps.nil ?_
      repeat (first | refine Safe.seq ?_ | refine Safe.skip ?_ | with_reducible refine thenQ.n ?_ | with_reducible refine blockQ.n ?_)
      refine Safe.ret ?_
      repeat (first | with_reducible refine thenQ.r ?_ | with_reducible refine blockQ.r ?_)
      obtain rfl := Option.some.inj h
      exact retQ.gen (vs := [V.bool true]) rfl (.tmp (v := V.bool true) rfl .nil) (.free rfl) (by simp) (.inr rfl)

noncomputable def go_ravelref08_Same (a0_1729 : List api_Timer) (a1_1730 : List api_Timer) : Option Bool :=
  (go_ravelref08_Order a0_1729).bind fun x_1773 =>
  (go_ravelref08_Order a1_1730).bind fun x_1775 =>
  (go_ravelref08_SameList x_1773 x_1775).bind fun x_1777 =>
  some x_1777

theorem go_ravelref08_Same_sc (a0_1729 : List api_Timer) (a1_1730 : List api_Timer) (r : Bool) (h : go_ravelref08_Same a0_1729 a1_1730 = some r) : SC Try.prog gl 30 [V.sl 2 (rws api_Timer.cells a0_1729), V.sl 2 (rws api_Timer.cells a1_1730)] (V.bool r) := by
  rw [go_ravelref08_Same] at h
  refine SC.of E_good Try.func30 rfl (fun _ _ => Try.call30 _ _) rfl ?_
  repeat (first | refine Safe.seq ?_ | refine Safe.skip ?_ | with_reducible refine thenQ.n ?_ | with_reducible refine blockQ.n ?_)
  refine Safe.region ?_
  refine SafeOps.quiet0 E_good rfl rfl rfl (v := V.bool false) (.fn rfl) ?_
  refine SafeOps.nil ?_
  repeat (first | refine Safe.seq ?_ | refine Safe.skip ?_ | with_reducible refine thenQ.n ?_ | with_reducible refine blockQ.n ?_)
  refine Safe.region ?_
  refine SafeOps.quiet0 E_good rfl rfl rfl (v := V.sl 2 (rws api_Timer.cells a0_1729)) (.fn rfl) ?_
  refine bindG h ?_
  intro x_1773 he1774 h
  refine SafeOps.quiet E_good rfl rfl rfl (v := V.ref [6, 0] 0 (rws api_Timer.cells x_1773).length) (.callP rfl rfl (go_ravelref08_Order_sc a0_1729 _ he1774) rfl) rfl ?_
  refine SafeOps.quiet0 E_good rfl rfl rfl (v := V.sl 2 (rws api_Timer.cells a1_1730)) (.fn rfl) ?_
  refine bindG h ?_
  intro x_1775 he1776 h
  refine SafeOps.quiet E_good rfl rfl rfl (v := V.ref [8, 0] 0 (rws api_Timer.cells x_1775).length) (.callP rfl rfl (go_ravelref08_Order_sc a1_1730 _ he1776) rfl) rfl ?_
  refine bindG h ?_
  intro x_1777 he1778 h
  refine SafeOps.quiet0 E_good rfl rfl rfl (v := V.bool x_1777) (.callS rfl (.cons (.full rfl rfl) (.cons (.full rfl rfl) .nil)) (go_ravelref08_SameList_sc x_1773 x_1775 _ he1778) (.plain rfl) rfl) ?_
  refine SafeOps.quiet0 E_good rfl rfl rfl (v := V.bool x_1777) (.fn rfl) ?_
  refine SafeOps.nil ?_
  repeat (first | refine Safe.seq ?_ | refine Safe.skip ?_ | with_reducible refine thenQ.n ?_ | with_reducible refine blockQ.n ?_)
  refine Safe.ret ?_
  repeat (first | with_reducible refine thenQ.r ?_ | with_reducible refine blockQ.r ?_)
  obtain rfl := Option.some.inj h
  exact retQ.gen (vs := [V.bool x_1777]) rfl (.tmp (v := V.bool x_1777) rfl .nil) (.free rfl) (by simp) (.inr rfl)

noncomputable def go_ravellaw08_fits (a0_1709 : List api_Timer) (a1_1710 : Int) (a2_1711 : List api_Timer) (a3_1712 : Int) : Option Bool :=
  if ((a1_1710 != 0) || (a3_1712 != 0)) = true then
    some ((a1_1710 == a3_1712) && ((a0_1709.length : Int) == 0))
  else
    (go_ravelref08_Check a0_1709).bind fun x_1787 =>
    if (x_1787 == 0) = true then
      (go_ravelref08_Same a0_1709 a2_1711).bind fun x_1792 =>
      some x_1792
    else
      some false

theorem go_ravellaw08_fits_sc (a0_1709 : List api_Timer) (a1_1710 : Int) (a2_1711 : List api_Timer) (a3_1712 : Int) (r : Bool) (h : go_ravellaw08_fits a0_1709 a1_1710 a2_1711 a3_1712 = some r) : SC Try.prog gl 17 [V.sl 2 (rws api_Timer.cells a0_1709), V.int .i64 a1_1710, V.sl 2 (rws api_Timer.cells a2_1711), V.int .i64 a3_1712] (V.bool r) := by
  rw [go_ravellaw08_fits] at h
  refine SC.of E_good Try.func17 rfl (fun _ _ => Try.call17 _ _) rfl ?_
  repeat (first | refine Safe.seq ?_ | refine Safe.skip ?_ | with_reducible refine thenQ.n ?_ | with_reducible refine blockQ.n ?_)
  refine Safe.region ?_
  refine SafeOps.quiet0 E_good rfl rfl rfl (v := V.bool false) (.fn rfl) ?_
  refine SafeOps.nil ?_
  repeat (first | refine Safe.seq ?_ | refine Safe.skip ?_ | with_reducible refine thenQ.n ?_ | with_reducible refine blockQ.n ?_)
  refine Safe.region ?_
  refine SafeOps.quiet0 E_good rfl rfl rfl (v := V.int .i64 a1_1710) (.fn rfl) ?_
  refine SafeOps.quiet0 E_good rfl rfl rfl (v := V.bool (a1_1710 != 0)) (.fn rfl) ?_
  refine SafeOps.quiet0 E_good rfl rfl rfl (v := V.bool (a1_1710 != 0)) (.fn rfl) ?_
  refine SafeOps.bjoin 3 14 (b := ((a1_1710 != 0) || (a3_1712 != 0))) (b1 := true) (b0 := (a3_1712 != 0)) (fun hc1783 K => ?_) (fun hc1783 K => ?_) bj_or ?_
  · skip
    refine SafeOps.skip (congrArg (fun b => some (!b)) hc1783) rfl rfl ?_
    refine SafeOps.skip (congrArg (fun b => some (!b)) hc1783) rfl rfl ?_
    refine SafeOps.quiet0 E_good rfl rfl rfl (v := V.bool true) (.pickK rfl hc1783 rfl) ?_
    exact SafeOps.drop' 3 rfl rfl rfl K
  · skip
    refine SafeOps.quiet0 E_good (congrArg (fun b => some (!b)) hc1783) rfl rfl (v := V.int .i64 a3_1712) (.fn rfl) ?_
    refine SafeOps.quiet0 E_good (congrArg (fun b => some (!b)) hc1783) rfl rfl (v := V.bool (a3_1712 != 0)) (.fn rfl) ?_
    refine SafeOps.quiet0 E_good rfl rfl rfl (v := V.bool (a3_1712 != 0)) (.pickK rfl hc1783 rfl) ?_
    exact SafeOps.drop' 3 rfl rfl rfl K
  refine SafeOps.nil ?_
  repeat (first | refine Safe.seq ?_ | refine Safe.skip ?_ | with_reducible refine thenQ.n ?_ | with_reducible refine blockQ.n ?_)
  refine ifG h (fun hc1785 h => ?_) (fun hc1785 h => ?_)
  · skip
    refine Safe.condK rfl hc1785 ?_
    repeat (first | refine Safe.seq ?_ | refine Safe.skip ?_ | with_reducible refine thenQ.n ?_ | with_reducible refine blockQ.n ?_)
    refine Safe.region ?_
    refine SafeOps.quiet0 E_good rfl rfl rfl (v := V.int .i64 a1_1710) (.fn rfl) ?_
    refine SafeOps.quiet0 E_good rfl rfl rfl (v := V.int .i64 a3_1712) (.fn rfl) ?_
    refine SafeOps.quiet0 E_good rfl rfl rfl (v := V.bool (a1_1710 == a3_1712)) (.fn rfl) ?_
    refine SafeOps.quiet0 E_good rfl rfl rfl (v := V.bool (a1_1710 == a3_1712)) (.fn rfl) ?_
    refine SafeOps.bjoin 4 22 (b := ((a1_1710 == a3_1712) && ((a0_1709.length : Int) == 0))) (b1 := ((a0_1709.length : Int) == 0)) (b0 := false) (fun hc1786 K => ?_) (fun hc1786 K => ?_) bj_and ?_
    · skip
      refine SafeOps.quiet0 E_good (congrArg some hc1786) rfl rfl (v := V.sl 2 (rws api_Timer.cells a0_1709)) (.fn rfl) ?_
      refine SafeOps.quiet0 E_good (congrArg some hc1786) rfl rfl (v := V.int .i64 (a0_1709.length : Int)) (.fnE rfl lenE) ?_
      refine SafeOps.quiet0 E_good (congrArg some hc1786) rfl rfl (v := V.bool ((a0_1709.length : Int) == 0)) (.fn rfl) ?_
      refine SafeOps.quiet0 E_good rfl rfl rfl (v := V.bool ((a0_1709.length : Int) == 0)) (.pickK rfl hc1786 rfl) ?_
      exact SafeOps.drop' 4 rfl rfl rfl K
    · skip
      refine SafeOps.skip (congrArg some hc1786) rfl rfl ?_
      refine SafeOps.skip (congrArg some hc1786) rfl rfl ?_
      refine SafeOps.skip (congrArg some hc1786) rfl rfl ?_
      refine SafeOps.quiet0 E_good rfl rfl rfl (v := V.bool false) (.pickK rfl hc1786 rfl) ?_
      exact SafeOps.drop' 4 rfl rfl rfl K
    refine SafeOps.quiet0 E_good rfl rfl rfl (v := V.bool ((a1_1710 == a3_1712) && ((a0_1709.length : Int) == 0))) (.fn rfl) ?_
    refine SafeOps.nil ?_
    repeat (first | refine Safe.seq ?_ | refine Safe.skip ?_ | with_reducible refine thenQ.n ?_ | with_reducible refine blockQ.n ?_)
    refine Safe.ret ?_
    repeat (first | with_reducible refine thenQ.r ?_ | with_reducible refine blockQ.r ?_)
    obtain rfl := Option.some.inj h
    exact retQ.gen (vs := [V.bool ((a1_1710 == a3_1712) && ((a0_1709.length : Int) == 0))]) rfl (.tmp (v := V.bool ((a1_1710 == a3_1712) && ((a0_1709.length : Int) == 0))) rfl .nil) (.free rfl) (by simp) (.inr rfl)
  · skip
    refine Safe.condN rfl hc1785 ?_
    repeat (first | refine Safe.seq ?_ | refine Safe.skip ?_ | with_reducible refine thenQ.n ?_ | with_reducible refine blockQ.n ?_)
    refine Safe.region ?_
    refine SafeOps.quiet0 E_good rfl rfl rfl (v := V.sl 2 (rws api_Timer.cells a0_1709)) (.fn rfl) ?_
    refine bindG h ?_
    intro x_1787 he1788 h
    refine SafeOps.quiet0 E_good rfl rfl rfl (v := V.int .i64 x_1787) (.callP rfl rfl (go_ravelref08_Check_sc a0_1709 _ he1788) rfl) ?_
    refine SafeOps.quiet0 E_good rfl rfl rfl (v := V.bool (x_1787 == 0)) (.fn rfl) ?_
    refine SafeOps.quiet0 E_good rfl rfl rfl (v := V.bool (x_1787 == 0)) (.fn rfl) ?_
    refine ifG h (fun hc1789 h => ?_) (fun hc1789 h => ?_)
    · skip
      refine SafeOps.quiet0 E_good (congrArg some hc1789) rfl rfl (v := V.sl 2 (rws api_Timer.cells a0_1709)) (.fn rfl) ?_
      refine SafeOps.quiet0 E_good (congrArg some hc1789) rfl rfl (v := V.sl 2 (rws api_Timer.cells a2_1711)) (.fn rfl) ?_
      refine bindG h ?_
      intro x_1792 he1793 h
      refine SafeOps.quiet0 E_good (congrArg some hc1789) rfl rfl (v := V.bool x_1792) (.callP rfl rfl (go_ravelref08_Same_sc a0_1709 a2_1711 _ he1793) rfl) ?_
      refine SafeOps.quiet0 E_good rfl rfl rfl (v := V.bool x_1792) (.pickK rfl hc1789 rfl) ?_
      refine SafeOps.quiet0 E_good rfl rfl rfl (v := V.bool x_1792) (.fn rfl) ?_
      refine SafeOps.nil ?_
      repeat (first | refine Safe.seq ?_ | refine Safe.skip ?_ | with_reducible refine thenQ.n ?_ | with_reducible refine blockQ.n ?_)
      refine Safe.ret ?_
      repeat (first | with_reducible refine thenQ.r ?_ | with_reducible refine blockQ.r ?_)
      obtain rfl := Option.some.inj h
      exact retQ.gen (vs := [V.bool x_1792]) rfl (.tmp (v := V.bool x_1792) rfl .nil) (.free rfl) (by simp) (.inr rfl)
    · skip
      refine SafeOps.skip (congrArg some hc1789) rfl rfl ?_
      refine SafeOps.skip (congrArg some hc1789) rfl rfl ?_
      refine SafeOps.skip (congrArg some hc1789) rfl rfl ?_
      refine SafeOps.quiet0 E_good rfl rfl rfl (v := V.bool false) (.pickK rfl hc1789 rfl) ?_
      refine SafeOps.quiet0 E_good rfl rfl rfl (v := V.bool false) (.fn rfl) ?_
      refine SafeOps.nil ?_
      repeat (first | refine Safe.seq ?_ | refine Safe.skip ?_ | with_reducible refine thenQ.n ?_ | with_reducible refine blockQ.n ?_)
      refine Safe.ret ?_
      repeat (first | with_reducible refine thenQ.r ?_ | with_reducible refine blockQ.r ?_)
      obtain rfl := Option.some.inj h
      exact retQ.gen (vs := [V.bool false]) rfl (.tmp (v := V.bool false) rfl .nil) (.free rfl) (by simp) (.inr rfl)

noncomputable def go_ravellaw08_HeapDoes_s4 (a0_1 : List api_Timer) (x_1844 : Bool) (x_1849 : List api_Timer) (b_1877 : Bool) : ((List api_Timer) × Int) → Option (((List api_Timer) × Int) ⊕ (Bool))
  | (v11_1901, v93_1902) =>
    if (decide (v93_1902 < (x_1849.length : Int))) = true then
      if 0 ≤ v93_1902 ∧ v93_1902 < (v11_1901.length : Int) then
        if 0 ≤ v93_1902 ∧ v93_1902 < (v11_1901.length : Int) then
          nextO (st v11_1901 v93_1902 (api_Timer.mk (IntKind.i64.wrap (((gt v11_1901 v93_1902).At) + 1)) ((gt v11_1901 v93_1902).Id)), IntKind.i64.wrap (v93_1902 + 1))
        else none
      else none
    else
      inrO (
        if (x_1844 && b_1877) = true then
          (go_ravelref08_SameList a0_1 ([] ++ a0_1)).bind fun x_1911 =>
          some x_1911
        else
          some false)

noncomputable def go_ravellaw08_HeapDoes_j2 (a0_1 : List api_Timer) (x_1844 : Bool) (x_1849 : List api_Timer) (b_1877 : Bool) : Option Bool :=
  whileO (go_ravellaw08_HeapDoes_s4 a0_1 x_1844 x_1849 b_1877) (x_1849, 0)

noncomputable def go_ravellaw08_HeapDoes_j1 (a0_1 : List api_Timer) (x_1844 : Bool) (x_1849 : List api_Timer) (x_1861 : List api_Timer) (x_1862 : Int) (x_1864 : List api_Timer) (x_1865 : Int) (b_1872 : Bool) : Option Bool :=
  if b_1872 = true then
    (go_ravellaw08_fits x_1861 x_1862 x_1864 x_1865).bind fun x_1913 =>
    go_ravellaw08_HeapDoes_j2 a0_1 x_1844 x_1849 x_1913
  else
    go_ravellaw08_HeapDoes_j2 a0_1 x_1844 x_1849 false

noncomputable def go_ravellaw08_HeapDoes (a0_1 : List api_Timer) (a1_2 : api_Timer) (a2_3 : Int) (a3_4 : Int) : Option Bool :=
  (go_ravellaw08_live).bind fun x_1844 =>
  if (!x_1844) = true then
    some false
  else
    if (decide ((a0_1.length : Int) > 300)) = true then
      some x_1844
    else
      if few ([] ++ a0_1).length then
        (go_heap_Add a0_1 a1_2).bind fun (x_1849, x_1850) =>
        (go_ravelref08_Add a0_1 a1_2).bind fun (x_1852, x_1853) =>
        (go_heap_Cancel a0_1 a2_3).bind fun (x_1855, x_1856) =>
        (go_ravelref08_Cancel a0_1 a2_3).bind fun (x_1858, x_1859) =>
        (go_heap_Reset a0_1 a2_3 a3_4).bind fun (x_1861, x_1862) =>
        (go_ravelref08_Reset a0_1 a2_3 a3_4).bind fun (x_1864, x_1865) =>
        (go_ravellaw08_fits x_1849 x_1850 x_1852 x_1853).bind fun x_1867 =>
        if x_1867 = true then
          (go_ravellaw08_fits x_1855 x_1856 x_1858 x_1859).bind fun x_1915 =>
          go_ravellaw08_HeapDoes_j1 a0_1 x_1844 x_1849 x_1861 x_1862 x_1864 x_1865 x_1915
        else
          go_ravellaw08_HeapDoes_j1 a0_1 x_1844 x_1849 x_1861 x_1862 x_1864 x_1865 false
      else none

theorem go_ravellaw08_HeapDoes_sc (a0_1 : List api_Timer) (a1_2 : api_Timer) (a2_3 : Int) (a3_4 : Int) (r : Bool) (h : go_ravellaw08_HeapDoes a0_1 a1_2 a2_3 a3_4 = some r) : SC Try.prog gl 3 [V.sl 2 (rws api_Timer.cells a0_1), V.agg [V.int .i64 a1_2.At, V.int .i64 a1_2.Id], V.int .i64 a2_3, V.int .i64 a3_4] (V.bool r) := by
  rw [go_ravellaw08_HeapDoes] at h
  refine SC.of E_good Try.func3 rfl (fun _ _ => Try.call3 _ _) rfl ?_
  repeat (first | refine Safe.seq ?_ | refine Safe.skip ?_ | with_reducible refine thenQ.n ?_ | with_reducible refine blockQ.n ?_)
  refine Safe.region ?_
  refine SafeOps.quiet1 E_good rfl rfl rfl (.box rfl rfl) rfl ?_
  refine SafeOps.quiet0 E_good rfl rfl rfl (v := V.bool false) (.fn rfl) ?_
  refine SafeOps.nil ?_
  repeat (first | refine Safe.seq ?_ | refine Safe.skip ?_ | with_reducible refine thenQ.n ?_ | with_reducible refine blockQ.n ?_)
  refine Safe.region ?_
  refine bindG h ?_
  intro x_1844 he1845 h
  refine SafeOps.quiet0 E_good rfl rfl rfl (v := V.bool x_1844) (.callP rfl rfl (go_ravellaw08_live_sc  _ he1845) rfl) ?_
  refine SafeOps.quiet0 E_good rfl rfl rfl (v := V.bool x_1844) (.fn rfl) ?_
  refine SafeOps.nil ?_
  repeat (first | refine Safe.seq ?_ | refine Safe.skip ?_ | with_reducible refine thenQ.n ?_ | with_reducible refine blockQ.n ?_)
  refine Safe.region ?_
  refine SafeOps.quiet0 E_good rfl rfl rfl (v := V.bool x_1844) (.fn rfl) ?_
  refine SafeOps.quiet0 E_good rfl rfl rfl (v := V.bool (!x_1844)) (.fn rfl) ?_
  refine SafeOps.nil ?_
  repeat (first | refine Safe.seq ?_ | refine Safe.skip ?_ | with_reducible refine thenQ.n ?_ | with_reducible refine blockQ.n ?_)
  refine ifG h (fun hc1846 h => ?_) (fun hc1846 h => ?_)
  · skip
    refine Safe.condK rfl hc1846 ?_
    repeat (first | refine Safe.seq ?_ | refine Safe.skip ?_ | with_reducible refine thenQ.n ?_ | with_reducible refine blockQ.n ?_)
    refine Safe.region ?_
    refine SafeOps.quiet0 E_good rfl rfl rfl (v := V.bool false) (.fn rfl) ?_
    refine SafeOps.nil ?_
    repeat (first | refine Safe.seq ?_ | refine Safe.skip ?_ | with_reducible refine thenQ.n ?_ | with_reducible refine blockQ.n ?_)
    refine Safe.ret ?_
    repeat (first | with_reducible refine thenQ.r ?_ | with_reducible refine blockQ.r ?_)
    obtain rfl := Option.some.inj h
    exact retQ.gen (vs := [V.bool false]) rfl (.tmp (v := V.bool false) rfl .nil) (.free rfl) (by simp) (.inr rfl)
  · skip
    refine Safe.condN rfl hc1846 ?_
    repeat (first | refine Safe.seq ?_ | refine Safe.skip ?_ | with_reducible refine thenQ.n ?_ | with_reducible refine blockQ.n ?_)
    refine Safe.region ?_
    refine SafeOps.quiet0 E_good rfl rfl rfl (v := V.sl 2 (rws api_Timer.cells a0_1)) (.fn rfl) ?_
    refine SafeOps.quiet0 E_good rfl rfl rfl (v := V.int .i64 (a0_1.length : Int)) (.fnE rfl lenE) ?_
    refine SafeOps.quiet0 E_good rfl rfl rfl (v := V.bool (decide ((a0_1.length : Int) > 300))) (.fn rfl) ?_
    refine SafeOps.nil ?_
    repeat (first | refine Safe.seq ?_ | refine Safe.skip ?_ | with_reducible refine thenQ.n ?_ | with_reducible refine blockQ.n ?_)
    refine ifG h (fun hc1847 h => ?_) (fun hc1847 h => ?_)
    · skip
      refine Safe.condK rfl hc1847 ?_
      repeat (first | refine Safe.seq ?_ | refine Safe.skip ?_ | with_reducible refine thenQ.n ?_ | with_reducible refine blockQ.n ?_)
      refine Safe.region ?_
      refine SafeOps.quiet0 E_good rfl rfl rfl (v := V.bool x_1844) (.fn rfl) ?_
      refine SafeOps.quiet0 E_good rfl rfl rfl (v := V.bool x_1844) (.fn rfl) ?_
      refine SafeOps.nil ?_
      repeat (first | refine Safe.seq ?_ | refine Safe.skip ?_ | with_reducible refine thenQ.n ?_ | with_reducible refine blockQ.n ?_)
      refine Safe.ret ?_
      repeat (first | with_reducible refine thenQ.r ?_ | with_reducible refine blockQ.r ?_)
      obtain rfl := Option.some.inj h
      exact retQ.gen (vs := [V.bool x_1844]) rfl (.tmp (v := V.bool x_1844) rfl .nil) (.free rfl) (by simp) (.inr rfl)
    · skip
      refine Safe.condN rfl hc1847 ?_
      repeat (first | refine Safe.seq ?_ | refine Safe.skip ?_ | with_reducible refine thenQ.n ?_ | with_reducible refine blockQ.n ?_)
      refine Safe.region ?_
      refine SafeOps.quiet0 E_good rfl rfl rfl (v := V.sl 2 (rws api_Timer.cells a0_1)) (.fn rfl) ?_
      refine okG h (fun hb1848 h => ?_)
      refine SafeOps.appendM api_Timer.cells (xs := []) (ys := a0_1) E_good rfl rfl rfl rfl rfl rfl rfl rfl rfl .nils (.sl _) (fun _ => rfl) hb1848 ?_
      refine SafeOps.quiet0 E_good rfl rfl rfl (v := V.ref [33] 0 (rws api_Timer.cells ([] ++ a0_1)).length) (.fn rfl) ?_
      refine SafeOps.nil ?_
      repeat (first | refine Safe.seq ?_ | refine Safe.skip ?_ | with_reducible refine thenQ.n ?_ | with_reducible refine blockQ.n ?_)
      refine Safe.region ?_
      refine SafeOps.quiet0 E_good rfl rfl rfl (v := V.sl 2 (rws api_Timer.cells a0_1)) (.fn rfl) ?_
      refine SafeOps.quiet0 E_good rfl rfl rfl (v := V.agg [V.int .i64 a1_2.At, V.int .i64 a1_2.Id]) (.load rfl rfl (.box rfl rfl) rfl) ?_
      refine bindG h ?_
      rintro ⟨x_1849, x_1850⟩ he1851 h
      refine SafeOps.quiet E_good rfl rfl rfl (v := V.tup [V.ref [37, 0] 0 (rws api_Timer.cells x_1849).length, V.int .i64 x_1850]) (.callP rfl rfl (go_heap_Add_sc a0_1 a1_2 _ he1851) rfl) rfl ?_
      refine SafeOps.quiet0 E_good rfl rfl rfl (v := V.tup [V.ref [37, 0] 0 (rws api_Timer.cells x_1849).length, V.int .i64 x_1850]) (.fn rfl) ?_
      refine SafeOps.quiet0 E_good rfl rfl rfl (v := V.ref [37, 0] 0 (rws api_Timer.cells x_1849).length) (.fn rfl) ?_
      refine SafeOps.quiet0 E_good rfl rfl rfl (v := V.int .i64 x_1850) (.fn rfl) ?_
      refine SafeOps.quiet0 E_good rfl rfl rfl (v := V.ref [37, 0] 0 (rws api_Timer.cells x_1849).length) (.fn rfl) ?_
      refine SafeOps.quiet0 E_good rfl rfl rfl (v := V.int .i64 x_1850) (.fn rfl) ?_
      refine SafeOps.nil ?_
      repeat (first | refine Safe.seq ?_ | refine Safe.skip ?_ | with_reducible refine thenQ.n ?_ | with_reducible refine blockQ.n ?_)
      refine Safe.region ?_
      refine SafeOps.quiet0 E_good rfl rfl rfl (v := V.sl 2 (rws api_Timer.cells a0_1)) (.fn rfl) ?_
      refine SafeOps.quiet0 E_good rfl rfl rfl (v := V.agg [V.int .i64 a1_2.At, V.int .i64 a1_2.Id]) (.load rfl rfl (.box rfl rfl) rfl) ?_
      refine bindG h ?_
      rintro ⟨x_1852, x_1853⟩ he1854 h
      refine SafeOps.quiet E_good rfl rfl rfl (v := V.tup [V.ref [43, 0] 0 (rws api_Timer.cells x_1852).length, V.int .i64 x_1853]) (.callP rfl rfl (go_ravelref08_Add_sc a0_1 a1_2 _ he1854) rfl) rfl ?_
      refine SafeOps.quiet0 E_good rfl rfl rfl (v := V.tup [V.ref [43, 0] 0 (rws api_Timer.cells x_1852).length, V.int .i64 x_1853]) (.fn rfl) ?_
      refine SafeOps.quiet0 E_good rfl rfl rfl (v := V.ref [43, 0] 0 (rws api_Timer.cells x_1852).length) (.fn rfl) ?_
      refine SafeOps.quiet0 E_good rfl rfl rfl (v := V.int .i64 x_1853) (.fn rfl) ?_
      refine SafeOps.quiet0 E_good rfl rfl rfl (v := V.ref [43, 0] 0 (rws api_Timer.cells x_1852).length) (.fn rfl) ?_
      refine SafeOps.quiet0 E_good rfl rfl rfl (v := V.int .i64 x_1853) (.fn rfl) ?_
      refine SafeOps.nil ?_
      repeat (first | refine Safe.seq ?_ | refine Safe.skip ?_ | with_reducible refine thenQ.n ?_ | with_reducible refine blockQ.n ?_)
      refine Safe.region ?_
      refine SafeOps.quiet0 E_good rfl rfl rfl (v := V.sl 2 (rws api_Timer.cells a0_1)) (.fn rfl) ?_
      refine SafeOps.quiet0 E_good rfl rfl rfl (v := V.int .i64 a2_3) (.fn rfl) ?_
      refine bindG h ?_
      rintro ⟨x_1855, x_1856⟩ he1857 h
      refine SafeOps.quiet E_good rfl rfl rfl (v := V.tup [V.ref [49, 0] 0 (rws api_Timer.cells x_1855).length, V.int .i64 x_1856]) (.callP rfl rfl (go_heap_Cancel_sc a0_1 a2_3 _ he1857) rfl) rfl ?_
      refine SafeOps.quiet0 E_good rfl rfl rfl (v := V.tup [V.ref [49, 0] 0 (rws api_Timer.cells x_1855).length, V.int .i64 x_1856]) (.fn rfl) ?_
      refine SafeOps.quiet0 E_good rfl rfl rfl (v := V.ref [49, 0] 0 (rws api_Timer.cells x_1855).length) (.fn rfl) ?_
      refine SafeOps.quiet0 E_good rfl rfl rfl (v := V.int .i64 x_1856) (.fn rfl) ?_
      refine SafeOps.quiet0 E_good rfl rfl rfl (v := V.ref [49, 0] 0 (rws api_Timer.cells x_1855).length) (.fn rfl) ?_
      refine SafeOps.quiet0 E_good rfl rfl rfl (v := V.int .i64 x_1856) (.fn rfl) ?_
      refine SafeOps.nil ?_
      repeat (first | refine Safe.seq ?_ | refine Safe.skip ?_ | with_reducible refine thenQ.n ?_ | with_reducible refine blockQ.n ?_)
      refine Safe.region ?_
      refine SafeOps.quiet0 E_good rfl rfl rfl (v := V.sl 2 (rws api_Timer.cells a0_1)) (.fn rfl) ?_
      refine SafeOps.quiet0 E_good rfl rfl rfl (v := V.int .i64 a2_3) (.fn rfl) ?_
      refine bindG h ?_
      rintro ⟨x_1858, x_1859⟩ he1860 h
      refine SafeOps.quiet E_good rfl rfl rfl (v := V.tup [V.ref [55, 0] 0 (rws api_Timer.cells x_1858).length, V.int .i64 x_1859]) (.callP rfl rfl (go_ravelref08_Cancel_sc a0_1 a2_3 _ he1860) rfl) rfl ?_
      refine SafeOps.quiet0 E_good rfl rfl rfl (v := V.tup [V.ref [55, 0] 0 (rws api_Timer.cells x_1858).length, V.int .i64 x_1859]) (.fn rfl) ?_
      refine SafeOps.quiet0 E_good rfl rfl rfl (v := V.ref [55, 0] 0 (rws api_Timer.cells x_1858).length) (.fn rfl) ?_
      refine SafeOps.quiet0 E_good rfl rfl rfl (v := V.int .i64 x_1859) (.fn rfl) ?_
      refine SafeOps.quiet0 E_good rfl rfl rfl (v := V.ref [55, 0] 0 (rws api_Timer.cells x_1858).length) (.fn rfl) ?_
      refine SafeOps.quiet0 E_good rfl rfl rfl (v := V.int .i64 x_1859) (.fn rfl) ?_
      refine SafeOps.nil ?_
      repeat (first | refine Safe.seq ?_ | refine Safe.skip ?_ | with_reducible refine thenQ.n ?_ | with_reducible refine blockQ.n ?_)
      refine Safe.region ?_
      refine SafeOps.quiet0 E_good rfl rfl rfl (v := V.sl 2 (rws api_Timer.cells a0_1)) (.fn rfl) ?_
      refine SafeOps.quiet0 E_good rfl rfl rfl (v := V.int .i64 a2_3) (.fn rfl) ?_
      refine SafeOps.quiet0 E_good rfl rfl rfl (v := V.int .i64 a3_4) (.fn rfl) ?_
      refine bindG h ?_
      rintro ⟨x_1861, x_1862⟩ he1863 h
      refine SafeOps.quiet E_good rfl rfl rfl (v := V.tup [V.ref [62, 0] 0 (rws api_Timer.cells x_1861).length, V.int .i64 x_1862]) (.callP rfl rfl (go_heap_Reset_sc a0_1 a2_3 a3_4 _ he1863) rfl) rfl ?_
      refine SafeOps.quiet0 E_good rfl rfl rfl (v := V.tup [V.ref [62, 0] 0 (rws api_Timer.cells x_1861).length, V.int .i64 x_1862]) (.fn rfl) ?_
      refine SafeOps.quiet0 E_good rfl rfl rfl (v := V.ref [62, 0] 0 (rws api_Timer.cells x_1861).length) (.fn rfl) ?_
      refine SafeOps.quiet0 E_good rfl rfl rfl (v := V.int .i64 x_1862) (.fn rfl) ?_
      refine SafeOps.quiet0 E_good rfl rfl rfl (v := V.ref [62, 0] 0 (rws api_Timer.cells x_1861).length) (.fn rfl) ?_
      refine SafeOps.quiet0 E_good rfl rfl rfl (v := V.int .i64 x_1862) (.fn rfl) ?_
      refine SafeOps.nil ?_
      repeat (first | refine Safe.seq ?_ | refine Safe.skip ?_ | with_reducible refine thenQ.n ?_ | with_reducible refine blockQ.n ?_)
      refine Safe.region ?_
      refine SafeOps.quiet0 E_good rfl rfl rfl (v := V.sl 2 (rws api_Timer.cells a0_1)) (.fn rfl) ?_
      refine SafeOps.quiet0 E_good rfl rfl rfl (v := V.int .i64 a2_3) (.fn rfl) ?_
      refine SafeOps.quiet0 E_good rfl rfl rfl (v := V.int .i64 a3_4) (.fn rfl) ?_
      refine bindG h ?_
      rintro ⟨x_1864, x_1865⟩ he1866 h
      refine SafeOps.quiet E_good rfl rfl rfl (v := V.tup [V.ref [69, 0] 0 (rws api_Timer.cells x_1864).length, V.int .i64 x_1865]) (.callP rfl rfl (go_ravelref08_Reset_sc a0_1 a2_3 a3_4 _ he1866) rfl) rfl ?_
      refine SafeOps.quiet0 E_good rfl rfl rfl (v := V.tup [V.ref [69, 0] 0 (rws api_Timer.cells x_1864).length, V.int .i64 x_1865]) (.fn rfl) ?_
      refine SafeOps.quiet0 E_good rfl rfl rfl (v := V.ref [69, 0] 0 (rws api_Timer.cells x_1864).length) (.fn rfl) ?_
      refine SafeOps.quiet0 E_good rfl rfl rfl (v := V.int .i64 x_1865) (.fn rfl) ?_
      refine SafeOps.quiet0 E_good rfl rfl rfl (v := V.ref [69, 0] 0 (rws api_Timer.cells x_1864).length) (.fn rfl) ?_
      refine SafeOps.quiet0 E_good rfl rfl rfl (v := V.int .i64 x_1865) (.fn rfl) ?_
      refine SafeOps.nil ?_
      repeat (first | refine Safe.seq ?_ | refine Safe.skip ?_ | with_reducible refine thenQ.n ?_ | with_reducible refine blockQ.n ?_)
      refine Safe.region ?_
      refine SafeOps.quiet0 E_good rfl rfl rfl (v := V.ref [37, 0] 0 (rws api_Timer.cells x_1849).length) (.fn rfl) ?_
      refine SafeOps.quiet0 E_good rfl rfl rfl (v := V.int .i64 x_1850) (.fn rfl) ?_
      refine SafeOps.quiet0 E_good rfl rfl rfl (v := V.ref [43, 0] 0 (rws api_Timer.cells x_1852).length) (.fn rfl) ?_
      refine SafeOps.quiet0 E_good rfl rfl rfl (v := V.int .i64 x_1853) (.fn rfl) ?_
      refine bindG h ?_
      intro x_1867 he1868 h
      refine SafeOps.quiet0 E_good rfl rfl rfl (v := V.bool x_1867) (.callS rfl (.cons (.full rfl rfl) (.cons (.free rfl) (.cons (.full rfl rfl) (.cons (.free rfl) .nil)))) (go_ravellaw08_fits_sc x_1849 x_1850 x_1852 x_1853 _ he1868) (.plain rfl) rfl) ?_
      refine SafeOps.quiet0 E_good rfl rfl rfl (v := V.bool x_1867) (.fn rfl) ?_
      refine SafeOps.bsplit 6 83 (fun b_1872 => go_ravellaw08_HeapDoes_j1 a0_1 x_1844 x_1849 x_1861 x_1862 x_1864 x_1865 b_1872 = some r) (fun HJ1873 => ?_) (fun b_1872 h => ?_)
      · refine ifG h (fun hc1869 h => ?_) (fun hc1869 h => ?_)
        · skip
          refine SafeOps.quiet0 E_good (congrArg some hc1869) rfl rfl (v := V.ref [49, 0] 0 (rws api_Timer.cells x_1855).length) (.fn rfl) ?_
          refine SafeOps.quiet0 E_good (congrArg some hc1869) rfl rfl (v := V.int .i64 x_1856) (.fn rfl) ?_
          refine SafeOps.quiet0 E_good (congrArg some hc1869) rfl rfl (v := V.ref [55, 0] 0 (rws api_Timer.cells x_1858).length) (.fn rfl) ?_
          refine SafeOps.quiet0 E_good (congrArg some hc1869) rfl rfl (v := V.int .i64 x_1859) (.fn rfl) ?_
          refine bindG h ?_
          intro x_1915 he1916 h
          refine SafeOps.quiet0 E_good (congrArg some hc1869) rfl rfl (v := V.bool x_1915) (.callS rfl (.cons (.full rfl rfl) (.cons (.free rfl) (.cons (.full rfl rfl) (.cons (.free rfl) .nil)))) (go_ravellaw08_fits_sc x_1855 x_1856 x_1858 x_1859 _ he1916) (.plain rfl) rfl) ?_
          refine SafeOps.quiet0 E_good rfl rfl rfl (v := V.bool x_1915) (.pickK rfl hc1869 rfl) ?_
          exact SafeOps.drop' 6 rfl rfl rfl (HJ1873 _ h)
        · skip
          refine SafeOps.skip (congrArg some hc1869) rfl rfl ?_
          refine SafeOps.skip (congrArg some hc1869) rfl rfl ?_
          refine SafeOps.skip (congrArg some hc1869) rfl rfl ?_
          refine SafeOps.skip (congrArg some hc1869) rfl rfl ?_
          refine SafeOps.skip (congrArg some hc1869) rfl rfl ?_
          refine SafeOps.quiet0 E_good rfl rfl rfl (v := V.bool false) (.pickK rfl hc1869 rfl) ?_
          exact SafeOps.drop' 6 rfl rfl rfl (HJ1873 _ h)
      · replace h : go_ravellaw08_HeapDoes_j1 a0_1 x_1844 x_1849 x_1861 x_1862 x_1864 x_1865 b_1872 = some r := h
        rw [go_ravellaw08_HeapDoes_j1] at h
        refine SafeOps.quiet0 E_good rfl rfl rfl (v := V.bool b_1872) (.fn rfl) ?_
        refine SafeOps.bsplit 6 90 (fun b_1877 => go_ravellaw08_HeapDoes_j2 a0_1 x_1844 x_1849 b_1877 = some r) (fun HJ1878 => ?_) (fun b_1877 h => ?_)
        · refine ifG h (fun hc1874 h => ?_) (fun hc1874 h => ?_)
          · skip
            refine SafeOps.quiet0 E_good (congrArg some hc1874) rfl rfl (v := V.ref [62, 0] 0 (rws api_Timer.cells x_1861).length) (.fn rfl) ?_
            refine SafeOps.quiet0 E_good (congrArg some hc1874) rfl rfl (v := V.int .i64 x_1862) (.fn rfl) ?_
            refine SafeOps.quiet0 E_good (congrArg some hc1874) rfl rfl (v := V.ref [69, 0] 0 (rws api_Timer.cells x_1864).length) (.fn rfl) ?_
            refine SafeOps.quiet0 E_good (congrArg some hc1874) rfl rfl (v := V.int .i64 x_1865) (.fn rfl) ?_
            refine bindG h ?_
            intro x_1913 he1914 h
            refine SafeOps.quiet0 E_good (congrArg some hc1874) rfl rfl (v := V.bool x_1913) (.callS rfl (.cons (.full rfl rfl) (.cons (.free rfl) (.cons (.full rfl rfl) (.cons (.free rfl) .nil)))) (go_ravellaw08_fits_sc x_1861 x_1862 x_1864 x_1865 _ he1914) (.plain rfl) rfl) ?_
            refine SafeOps.quiet0 E_good rfl rfl rfl (v := V.bool x_1913) (.pickK rfl hc1874 rfl) ?_
            exact SafeOps.drop' 6 rfl rfl rfl (HJ1878 _ h)
          · skip
            refine SafeOps.skip (congrArg some hc1874) rfl rfl ?_
            refine SafeOps.skip (congrArg some hc1874) rfl rfl ?_
            refine SafeOps.skip (congrArg some hc1874) rfl rfl ?_
            refine SafeOps.skip (congrArg some hc1874) rfl rfl ?_
            refine SafeOps.skip (congrArg some hc1874) rfl rfl ?_
            refine SafeOps.quiet0 E_good rfl rfl rfl (v := V.bool false) (.pickK rfl hc1874 rfl) ?_
            exact SafeOps.drop' 6 rfl rfl rfl (HJ1878 _ h)
        · replace h : go_ravellaw08_HeapDoes_j2 a0_1 x_1844 x_1849 b_1877 = some r := h
          rw [go_ravellaw08_HeapDoes_j2] at h
          refine SafeOps.quiet0 E_good rfl rfl rfl (v := V.bool b_1877) (.fn rfl) ?_
          refine SafeOps.nil ?_
          repeat (first | refine Safe.seq ?_ | refine Safe.skip ?_ | with_reducible refine thenQ.n ?_ | with_reducible refine blockQ.n ?_)
          refine Safe.region ?_
          refine SafeOps.quiet0 E_good rfl rfl rfl (v := V.ref [37, 0] 0 (rws api_Timer.cells x_1849).length) (.fn rfl) ?_
          refine SafeOps.quiet0 E_good rfl rfl rfl (v := V.int .i64 (x_1849.length : Int)) (.fnE rfl lenE) ?_
          refine SafeOps.quiet0 E_good rfl rfl rfl (v := V.int .i64 0) (.fn rfl) ?_
          refine SafeOps.nil ?_
          repeat (first | refine Safe.seq ?_ | refine Safe.skip ?_ | with_reducible refine thenQ.n ?_ | with_reducible refine blockQ.n ?_)
          refine Safe.block ?_
          repeat (first | refine Safe.seq ?_ | refine Safe.skip ?_ | with_reducible refine thenQ.n ?_ | with_reducible refine blockQ.n ?_)
          refine Safe.loopW (fun ((v11_1901, v93_1902) : (List api_Timer) × Int) => ⟨Try.f3.ntmps, [(0, V.sl 2 (rws api_Timer.cells a0_1)), (9, V.bool x_1844), (10, V.ref [33] 0 (rws api_Timer.cells ([] ++ a0_1)).length), (11, V.ref [37, 0] 0 (rws api_Timer.cells v11_1901).length), (23, V.bool b_1877), (92, V.int .i64 (x_1849.length : Int)), (93, V.int .i64 v93_1902)], [([33], Obj.rows 2 (rws api_Timer.cells ([] ++ a0_1)) false), ([37, 0], Obj.rows 2 (rws api_Timer.cells v11_1901) false)], [], []⟩) h (.cov ⟨rfl, rfl, (upT_cons (.refl _) (upT_cons (.refl _) (upT_cons (.refl _) (upT_cons (.refl _) (upT_cons (.refl _) (upT_cons (.refl _) (upT_cons (.refl _) upT_nil))))))), (upOb_cons rfl (.refl _) (upOb_cons rfl (.refl _) upOb_nil)), upOut_nil, rfl⟩) ?_
          rintro ⟨v11_1901, v93_1902⟩ ohr1903 h hr1903
          replace h : go_ravellaw08_HeapDoes_s4 a0_1 x_1844 x_1849 b_1877 (v11_1901, v93_1902) = some ohr1903 := h
          rw [go_ravellaw08_HeapDoes_s4] at h
          repeat (first | refine Safe.seq ?_ | refine Safe.skip ?_ | with_reducible refine thenQ.n ?_ | with_reducible refine blockQ.n ?_)
          refine Safe.region ?_
          refine SafeOps.quiet0 E_good rfl rfl rfl (v := V.bool (decide (v93_1902 < (x_1849.length : Int)))) (.fn rfl) ?_
          refine SafeOps.nil ?_
          repeat (first | refine Safe.seq ?_ | refine Safe.skip ?_ | with_reducible refine thenQ.n ?_ | with_reducible refine blockQ.n ?_)
          refine ifG h (fun hc1904 h => ?_) (fun hc1904 h => ?_)
          · skip
            refine Safe.condK rfl hc1904 ?_
            repeat (first | refine Safe.seq ?_ | refine Safe.skip ?_ | with_reducible refine thenQ.n ?_ | with_reducible refine blockQ.n ?_)
            refine Safe.block ?_
            repeat (first | refine Safe.seq ?_ | refine Safe.skip ?_ | with_reducible refine thenQ.n ?_ | with_reducible refine blockQ.n ?_)
            refine Safe.region ?_
            refine SafeOps.quiet0 E_good rfl rfl rfl (v := V.int .i64 v93_1902) (.fn rfl) ?_
            refine SafeOps.quiet0 E_good rfl rfl rfl (v := V.int .i64 v93_1902) (.fn rfl) ?_
            refine SafeOps.nil ?_
            repeat (first | refine Safe.seq ?_ | refine Safe.skip ?_ | with_reducible refine thenQ.n ?_ | with_reducible refine blockQ.n ?_)
            refine Safe.region ?_
            refine SafeOps.quiet0 E_good rfl rfl rfl (v := V.ref [37, 0] 0 (rws api_Timer.cells v11_1901).length) (.fn rfl) ?_
            refine SafeOps.quiet0 E_good rfl rfl rfl (v := V.int .i64 v93_1902) (.fn rfl) ?_
            refine okG h (fun hb1905 h => ?_)
            refine SafeOps.quiet0 E_good rfl rfl rfl (v := V.ptr [37, 0] (0 + Int.toNat v93_1902) 0) (.idxRefM (f := api_Timer.cells) (xs := v11_1901) rfl rfl rfl rfl rfl rfl hb1905) ?_
            refine SafeOps.quiet0 E_good rfl rfl rfl (v := V.ptr [37, 0] (0 + Int.toNat v93_1902) 0) (.fn rfl) ?_
            refine SafeOps.quiet0 E_good rfl rfl rfl (v := V.int .i64 ((gt v11_1901 v93_1902).At)) (.load rfl rfl (.rowsM (f := api_Timer.cells) (xs := v11_1901) hb1905 rfl rfl) rfl) ?_
            refine SafeOps.quiet0 E_good rfl rfl rfl (v := V.int .i64 (IntKind.i64.wrap (((gt v11_1901 v93_1902).At) + 1))) (.fn rfl) ?_
            refine okG h (fun hb1906 h => ?_)
            refine SafeOps.quiet0 E_good rfl rfl rfl (v := V.ptr [37, 0] (0 + Int.toNat v93_1902) 0) (.idxRefM (f := api_Timer.cells) (xs := v11_1901) rfl rfl rfl rfl rfl rfl hb1906) ?_
            refine SafeOps.quiet0 E_good rfl rfl rfl (v := V.ptr [37, 0] (0 + Int.toNat v93_1902) 0) (.fn rfl) ?_
            refine SafeOps.store (z := Obj.rows 2 (rws api_Timer.cells (st v11_1901 v93_1902 (api_Timer.mk (IntKind.i64.wrap (((gt v11_1901 v93_1902).At) + 1)) ((gt v11_1901 v93_1902).Id)))) false) E_good rfl rfl rfl rfl rfl rfl rfl (.rowsM (f := api_Timer.cells) (xs := v11_1901) (y := (api_Timer.mk (IntKind.i64.wrap (((gt v11_1901 v93_1902).At) + 1)) ((gt v11_1901 v93_1902).Id))) hb1906 rfl rfl rfl rfl) ?_
            refine SafeOps.see 11 (u := V.ref [37, 0] 0 (rws api_Timer.cells (st v11_1901 v93_1902 (api_Timer.mk (IntKind.i64.wrap (((gt v11_1901 v93_1902).At) + 1)) ((gt v11_1901 v93_1902).Id)))).length) rfl (.len (by simp [rws, st])) ?_
            refine SafeOps.see 96 (u := V.ref [37, 0] 0 (rws api_Timer.cells (st v11_1901 v93_1902 (api_Timer.mk (IntKind.i64.wrap (((gt v11_1901 v93_1902).At) + 1)) ((gt v11_1901 v93_1902).Id)))).length) rfl (.len (by simp [rws, st])) ?_
            refine SafeOps.nil ?_
            repeat (first | refine Safe.seq ?_ | refine Safe.skip ?_ | with_reducible refine thenQ.n ?_ | with_reducible refine blockQ.n ?_)
            refine Safe.region ?_
            refine SafeOps.quiet0 E_good rfl rfl rfl (v := V.int .i64 (IntKind.i64.wrap (v93_1902 + 1))) (.fn rfl) ?_
            refine SafeOps.quiet0 E_good rfl rfl rfl (v := V.int .i64 (IntKind.i64.wrap (v93_1902 + 1))) (.fn rfl) ?_
            refine SafeOps.nil ?_
            repeat (first | refine Safe.seq ?_ | refine Safe.skip ?_ | with_reducible refine thenQ.n ?_ | with_reducible refine blockQ.n ?_)
            exact ⟨_, next_out h, (.cov ⟨rfl, rfl, (upT_cons (.refl _) (upT_cons (.refl _) (upT_cons (.refl _) (upT_cons (.refl _) (upT_cons (.refl _) (upT_cons (.refl _) (upT_cons (.refl _) upT_nil))))))), (upOb_cons rfl (.refl _) (upOb_cons rfl (.refl _) upOb_nil)), upOut_nil, rfl⟩)⟩
          · skip
            refine Safe.condN rfl hc1904 ?_
            repeat (first | refine Safe.seq ?_ | refine Safe.skip ?_ | with_reducible refine thenQ.n ?_ | with_reducible refine blockQ.n ?_)
            refine Safe.exit ?_
            repeat (first | with_reducible refine thenQ.e ?_ | with_reducible refine blockQ.x rfl ?_ | with_reducible refine blockQ.y rfl ?_)
            replace h := inr_out h hr1903
            repeat (first | refine Safe.seq ?_ | refine Safe.skip ?_ | with_reducible refine thenQ.n ?_ | with_reducible refine blockQ.n ?_)
            refine Safe.region ?_
            refine SafeOps.quiet0 E_good rfl rfl rfl (v := V.bool x_1844) (.fn rfl) ?_
            refine SafeOps.quiet0 E_good rfl rfl rfl (v := V.bool x_1844) (.fn rfl) ?_
            refine SafeOps.bjoin 2 108 (b := (x_1844 && b_1877)) (b1 := b_1877) (b0 := false) (fun hc1907 K => ?_) (fun hc1907 K => ?_) bj_and ?_
            · skip
              refine SafeOps.quiet0 E_good (congrArg some hc1907) rfl rfl (v := V.bool b_1877) (.fn rfl) ?_
              refine SafeOps.quiet0 E_good rfl rfl rfl (v := V.bool b_1877) (.pickK rfl hc1907 rfl) ?_
              exact SafeOps.drop' 2 rfl rfl rfl K
            · skip
              refine SafeOps.skip (congrArg some hc1907) rfl rfl ?_
              refine SafeOps.quiet0 E_good rfl rfl rfl (v := V.bool false) (.pickK rfl hc1907 rfl) ?_
              exact SafeOps.drop' 2 rfl rfl rfl K
            refine SafeOps.quiet0 E_good rfl rfl rfl (v := V.bool (x_1844 && b_1877)) (.fn rfl) ?_
            refine ifG h (fun hc1908 h => ?_) (fun hc1908 h => ?_)
            · skip
              refine SafeOps.quiet0 E_good (congrArg some hc1908) rfl rfl (v := V.sl 2 (rws api_Timer.cells a0_1)) (.fn rfl) ?_
              refine SafeOps.quiet0 E_good (congrArg some hc1908) rfl rfl (v := V.ref [33] 0 (rws api_Timer.cells ([] ++ a0_1)).length) (.fn rfl) ?_
              refine bindG h ?_
              intro x_1911 he1912 h
              refine SafeOps.quiet0 E_good (congrArg some hc1908) rfl rfl (v := V.bool x_1911) (.callS rfl (.cons (.free rfl) (.cons (.full rfl rfl) .nil)) (go_ravelref08_SameList_sc a0_1 ([] ++ a0_1) _ he1912) (.plain rfl) rfl) ?_
              refine SafeOps.quiet0 E_good rfl rfl rfl (v := V.bool x_1911) (.pickK rfl hc1908 rfl) ?_
              refine SafeOps.quiet0 E_good rfl rfl rfl (v := V.bool x_1911) (.fn rfl) ?_
              refine SafeOps.nil ?_
              repeat (first | refine Safe.seq ?_ | refine Safe.skip ?_ | with_reducible refine thenQ.n ?_ | with_reducible refine blockQ.n ?_)
              refine Safe.ret ?_
              repeat (first | with_reducible refine thenQ.r ?_ | with_reducible refine blockQ.r ?_)
              obtain rfl := Option.some.inj h
              exact retQ.gen (vs := [V.bool x_1911]) rfl (.tmp (v := V.bool x_1911) rfl .nil) (.free rfl) (by simp) (.inr rfl)
            · skip
              refine SafeOps.skip (congrArg some hc1908) rfl rfl ?_
              refine SafeOps.skip (congrArg some hc1908) rfl rfl ?_
              refine SafeOps.skip (congrArg some hc1908) rfl rfl ?_
              refine SafeOps.quiet0 E_good rfl rfl rfl (v := V.bool false) (.pickK rfl hc1908 rfl) ?_
              refine SafeOps.quiet0 E_good rfl rfl rfl (v := V.bool false) (.fn rfl) ?_
              refine SafeOps.nil ?_
              repeat (first | refine Safe.seq ?_ | refine Safe.skip ?_ | with_reducible refine thenQ.n ?_ | with_reducible refine blockQ.n ?_)
              refine Safe.ret ?_
              repeat (first | with_reducible refine thenQ.r ?_ | with_reducible refine blockQ.r ?_)
              obtain rfl := Option.some.inj h
              exact retQ.gen (vs := [V.bool false]) rfl (.tmp (v := V.bool false) rfl .nil) (.free rfl) (by simp) (.inr rfl)
end Go.Proofs.Ytbcapidhhbkkcaa
