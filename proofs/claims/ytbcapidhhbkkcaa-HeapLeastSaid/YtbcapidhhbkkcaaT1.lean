/- Helper lemmas for the claim's theorem: an abstract machine over the model, proved sound; no condition beyond each lemma's own. -/
import Derived.Test.YtbcapidhhbkkcaaT0
set_option linter.unusedVariables false
set_option linter.unusedSimpArgs false
set_option linter.unnecessarySimpa false
set_option linter.unusedSectionVars false
namespace Go.Proofs.Ytbcapidhhbkkcaa
open Go Go.AM
set_option maxRecDepth 100000
set_option maxHeartbeats 1000000
set_option linter.unusedVariables false
set_option linter.unusedSimpArgs false
variable {gl : List (Nat × List V)}
noncomputable def go_heap_Cancel_s8  : ((List api_Timer) × Int) → Option (((List api_Timer) × Int) ⊕ ((List api_Timer) × Int))
  | (v0_1138, v1_1139) =>
    if (decide (v1_1139 > 0)) = true then
      if 0 ≤ (IntKind.i64.wrap (Int.tdiv (IntKind.i64.wrap (v1_1139 - 1)) 4)) ∧ (IntKind.i64.wrap (Int.tdiv (IntKind.i64.wrap (v1_1139 - 1)) 4)) < (v0_1138.length : Int) then
        if 0 ≤ v1_1139 ∧ v1_1139 < (v0_1138.length : Int) then
          (go_heap_order (gt v0_1138 (IntKind.i64.wrap (Int.tdiv (IntKind.i64.wrap (v1_1139 - 1)) 4))) (gt v0_1138 v1_1139)).bind fun x_1144 =>
          if (decide (x_1144 ≤ 0)) = true then
            inrO (
              some (v0_1138, 0))
          else
            if 0 ≤ v1_1139 ∧ v1_1139 < (v0_1138.length : Int) then
              if 0 ≤ (IntKind.i64.wrap (Int.tdiv (IntKind.i64.wrap (v1_1139 - 1)) 4)) ∧ (IntKind.i64.wrap (Int.tdiv (IntKind.i64.wrap (v1_1139 - 1)) 4)) < (v0_1138.length : Int) then
                if 0 ≤ (IntKind.i64.wrap (Int.tdiv (IntKind.i64.wrap (v1_1139 - 1)) 4)) ∧ (IntKind.i64.wrap (Int.tdiv (IntKind.i64.wrap (v1_1139 - 1)) 4)) < (v0_1138.length : Int) then
                  if 0 ≤ v1_1139 ∧ v1_1139 < ((st v0_1138 (IntKind.i64.wrap (Int.tdiv (IntKind.i64.wrap (v1_1139 - 1)) 4)) (gt v0_1138 v1_1139)).length : Int) then
                    nextO (st (st v0_1138 (IntKind.i64.wrap (Int.tdiv (IntKind.i64.wrap (v1_1139 - 1)) 4)) (gt v0_1138 v1_1139)) v1_1139 (gt v0_1138 (IntKind.i64.wrap (Int.tdiv (IntKind.i64.wrap (v1_1139 - 1)) 4))), IntKind.i64.wrap (Int.tdiv (IntKind.i64.wrap (v1_1139 - 1)) 4))
                  else none
                else none
              else none
            else none
        else none
      else none
    else
      inrO (
        some (v0_1138, 0))

noncomputable def go_heap_Cancel_s7 (x_936 : Int) (v0_1060 : List api_Timer) (v1_1061 : Int) : (Int × Int) → Option ((Int × Int) ⊕ (((List api_Timer) × Int) ⊕ ((List api_Timer) × Int)))
  | (v4_1105, v5_1106) =>
    if ((decide (v5_1106 ≤ (IntKind.i64.wrap ((IntKind.i64.wrap (4 * v1_1061)) + 4)))) && (decide (v5_1106 < (v0_1060.length : Int)))) = true then
      if 0 ≤ v5_1106 ∧ v5_1106 < (v0_1060.length : Int) then
        if 0 ≤ v4_1105 ∧ v4_1105 < (v0_1060.length : Int) then
          (go_heap_order (gt v0_1060 v5_1106) (gt v0_1060 v4_1105)).bind fun x_1112 =>
          if (decide (x_1112 < 0)) = true then
            nextO (v5_1106, IntKind.i64.wrap (v5_1106 + 1))
          else
            nextO (v4_1105, IntKind.i64.wrap (v5_1106 + 1))
        else none
      else none
    else
      inrO (
        if (v4_1105 == v1_1061) = true then
          inrO (
            whileO go_heap_Cancel_s8 (v0_1060, x_936))
        else
          if 0 ≤ v1_1061 ∧ v1_1061 < (v0_1060.length : Int) then
            if 0 ≤ v4_1105 ∧ v4_1105 < (v0_1060.length : Int) then
              if 0 ≤ v4_1105 ∧ v4_1105 < (v0_1060.length : Int) then
                if 0 ≤ v1_1061 ∧ v1_1061 < ((st v0_1060 v4_1105 (gt v0_1060 v1_1061)).length : Int) then
                  nextO (st (st v0_1060 v4_1105 (gt v0_1060 v1_1061)) v1_1061 (gt v0_1060 v4_1105), v4_1105)
                else none
              else none
            else none
          else none)

noncomputable def go_heap_Cancel_s5 (x_936 : Int) : ((List api_Timer) × Int) → Option (((List api_Timer) × Int) ⊕ ((List api_Timer) × Int))
  | (v0_1060, v1_1061) =>
    whileO (go_heap_Cancel_s7 x_936 v0_1060 v1_1061) (v1_1061, IntKind.i64.wrap ((IntKind.i64.wrap (4 * v1_1061)) + 1))

noncomputable def go_heap_Cancel (a0_699 : List api_Timer) (a1_700 : Int) : Option ((List api_Timer) × Int) :=
  (go_heap_find a0_699 a1_700).bind fun (x_935, x_936, x_937) =>
  if (x_937 != 0) = true then
    some ([], x_937)
  else
    if 0 ≤ (IntKind.i64.wrap ((x_935.length : Int) - 1)) ∧ (IntKind.i64.wrap ((x_935.length : Int) - 1)) < (x_935.length : Int) then
      if 0 ≤ x_936 ∧ x_936 < (x_935.length : Int) then
        if 0 ≤ (IntKind.i64.wrap ((x_935.length : Int) - 1)) ∧ (IntKind.i64.wrap ((x_935.length : Int) - 1)) ≤ ((st x_935 x_936 (gt x_935 (IntKind.i64.wrap ((x_935.length : Int) - 1)))).length : Int) then
          if (decide (x_936 < (IntKind.i64.wrap ((x_935.length : Int) - 1)))) = true then
            whileO (go_heap_Cancel_s5 x_936) (sub (st x_935 x_936 (gt x_935 (IntKind.i64.wrap ((x_935.length : Int) - 1)))) 0 (IntKind.i64.wrap ((x_935.length : Int) - 1)), x_936)
          else
            some (sub (st x_935 x_936 (gt x_935 (IntKind.i64.wrap ((x_935.length : Int) - 1)))) 0 (IntKind.i64.wrap ((x_935.length : Int) - 1)), 0)
        else none
      else none
    else none

theorem go_heap_Cancel_sc (a0_699 : List api_Timer) (a1_700 : Int) (r : (List api_Timer) × Int) (h : go_heap_Cancel a0_699 a1_700 = some r) : SC Try.prog gl 13 [V.sl 2 (rws api_Timer.cells a0_699), V.int .i64 a1_700] (V.tup [V.own 2 (rws api_Timer.cells r.1), V.int .i64 r.2]) := by
  rw [go_heap_Cancel] at h
  refine SC.of E_good Try.func13 rfl (fun _ _ => Try.call13 _ _) rfl ?_
  repeat (first | refine Safe.seq ?_ | refine Safe.skip ?_ | with_reducible refine thenQ.n ?_ | with_reducible refine blockQ.n ?_)
  refine Safe.region ?_
  refine SafeOps.quiet0 E_good rfl rfl rfl (v := V.nils) (.fn rfl) ?_
  refine SafeOps.quiet0 E_good rfl rfl rfl (v := V.int .i64 0) (.fn rfl) ?_
  refine SafeOps.nil ?_
  repeat (first | refine Safe.seq ?_ | refine Safe.skip ?_ | with_reducible refine thenQ.n ?_ | with_reducible refine blockQ.n ?_)
  refine Safe.region ?_
  refine SafeOps.quiet0 E_good rfl rfl rfl (v := V.sl 2 (rws api_Timer.cells a0_699)) (.fn rfl) ?_
  refine SafeOps.quiet0 E_good rfl rfl rfl (v := V.int .i64 a1_700) (.fn rfl) ?_
  refine bindG h ?_
  rintro ⟨x_935, x_936, x_937⟩ he938 h
  refine SafeOps.quiet E_good rfl rfl rfl (v := V.tup [V.ref [12, 0] 0 (rws api_Timer.cells x_935).length, V.int .i64 x_936, V.int .i64 x_937]) (.callP rfl rfl (go_heap_find_sc a0_699 a1_700 _ he938) rfl) rfl ?_
  refine SafeOps.quiet0 E_good rfl rfl rfl (v := V.tup [V.ref [12, 0] 0 (rws api_Timer.cells x_935).length, V.int .i64 x_936, V.int .i64 x_937]) (.fn rfl) ?_
  refine SafeOps.quiet0 E_good rfl rfl rfl (v := V.ref [12, 0] 0 (rws api_Timer.cells x_935).length) (.fn rfl) ?_
  refine SafeOps.quiet0 E_good rfl rfl rfl (v := V.int .i64 x_936) (.fn rfl) ?_
  refine SafeOps.quiet0 E_good rfl rfl rfl (v := V.int .i64 x_937) (.fn rfl) ?_
  refine SafeOps.quiet0 E_good rfl rfl rfl (v := V.ref [12, 0] 0 (rws api_Timer.cells x_935).length) (.fn rfl) ?_
  refine SafeOps.quiet0 E_good rfl rfl rfl (v := V.int .i64 x_936) (.fn rfl) ?_
  refine SafeOps.quiet0 E_good rfl rfl rfl (v := V.int .i64 x_937) (.fn rfl) ?_
  refine SafeOps.nil ?_
  repeat (first | refine Safe.seq ?_ | refine Safe.skip ?_ | with_reducible refine thenQ.n ?_ | with_reducible refine blockQ.n ?_)
  refine Safe.region ?_
  refine SafeOps.quiet0 E_good rfl rfl rfl (v := V.int .i64 x_937) (.fn rfl) ?_
  refine SafeOps.quiet0 E_good rfl rfl rfl (v := V.bool (x_937 != 0)) (.fn rfl) ?_
  refine SafeOps.nil ?_
  repeat (first | refine Safe.seq ?_ | refine Safe.skip ?_ | with_reducible refine thenQ.n ?_ | with_reducible refine blockQ.n ?_)
  refine ifG h (fun hc939 h => ?_) (fun hc939 h => ?_)
  · skip
    refine Safe.condK rfl hc939 ?_
    repeat (first | refine Safe.seq ?_ | refine Safe.skip ?_ | with_reducible refine thenQ.n ?_ | with_reducible refine blockQ.n ?_)
    refine Safe.region ?_
    refine SafeOps.quiet0 E_good rfl rfl rfl (v := V.int .i64 x_937) (.fn rfl) ?_
    refine SafeOps.quiet0 E_good rfl rfl rfl (v := V.nils) (.fn rfl) ?_
    refine SafeOps.quiet0 E_good rfl rfl rfl (v := V.int .i64 x_937) (.fn rfl) ?_
    refine SafeOps.nil ?_
    repeat (first | refine Safe.seq ?_ | refine Safe.skip ?_ | with_reducible refine thenQ.n ?_ | with_reducible refine blockQ.n ?_)
    refine Safe.ret ?_
    repeat (first | with_reducible refine thenQ.r ?_ | with_reducible refine blockQ.r ?_)
    obtain rfl := Option.some.inj h
    exact retQ.gen (vs := [V.nils, V.int .i64 x_937]) rfl (.tmp (v := V.nils) rfl (.tmp (v := V.int .i64 x_937) rfl .nil)) (by exact (.tup (.cons (.nils _) (.cons (.free rfl) .nil)))) (by simp) (.inr rfl)
  · skip
    refine Safe.condN rfl hc939 ?_
    repeat (first | refine Safe.seq ?_ | refine Safe.skip ?_ | with_reducible refine thenQ.n ?_ | with_reducible refine blockQ.n ?_)
    refine Safe.region ?_
    refine SafeOps.quiet0 E_good rfl rfl rfl (v := V.ref [12, 0] 0 (rws api_Timer.cells x_935).length) (.fn rfl) ?_
    refine SafeOps.quiet0 E_good rfl rfl rfl (v := V.int .i64 x_936) (.fn rfl) ?_
    refine SafeOps.inline E_good rfl rfl rfl rfl rfl Try.func39 rfl (fun _ _ => Try.call39 _ _) rfl ?_
    repeat (first | refine Safe.seq ?_ | refine Safe.skip ?_ | with_reducible refine thenQ.n ?_ | with_reducible refine blockQ.n ?_)
    refine Safe.region ?_
    refine SafeOps.quiet0 E_good rfl rfl rfl (v := V.nils) (.fn rfl) ?_
    refine SafeOps.nil ?_
    repeat (first | refine Safe.seq ?_ | refine Safe.skip ?_ | with_reducible refine thenQ.n ?_ | with_reducible refine blockQ.n ?_)
    refine Safe.region ?_
    refine SafeOps.quiet0 E_good rfl rfl rfl (v := V.ref [12, 0] 0 (rws api_Timer.cells x_935).length) (.fn rfl) ?_
    refine SafeOps.quiet0 E_good rfl rfl rfl (v := V.int .i64 (x_935.length : Int)) (.fnE rfl lenE) ?_
    refine SafeOps.quiet0 E_good rfl rfl rfl (v := V.int .i64 (IntKind.i64.wrap ((x_935.length : Int) - 1))) (.fn rfl) ?_
    refine SafeOps.quiet0 E_good rfl rfl rfl (v := V.int .i64 (IntKind.i64.wrap ((x_935.length : Int) - 1))) (.fn rfl) ?_
    refine SafeOps.nil ?_
    repeat (first | refine Safe.seq ?_ | refine Safe.skip ?_ | with_reducible refine thenQ.n ?_ | with_reducible refine blockQ.n ?_)
    refine Safe.region ?_
    refine SafeOps.quiet0 E_good rfl rfl rfl (v := V.ref [12, 0] 0 (rws api_Timer.cells x_935).length) (.fn rfl) ?_
    refine SafeOps.quiet0 E_good rfl rfl rfl (v := V.int .i64 x_936) (.fn rfl) ?_
    refine SafeOps.quiet0 E_good rfl rfl rfl (v := V.ref [12, 0] 0 (rws api_Timer.cells x_935).length) (.fn rfl) ?_
    refine SafeOps.quiet0 E_good rfl rfl rfl (v := V.int .i64 (IntKind.i64.wrap ((x_935.length : Int) - 1))) (.fn rfl) ?_
    refine okG h (fun hb940 h => ?_)
    refine SafeOps.quiet0 E_good rfl rfl rfl (v := V.ptr [12, 0] (0 + Int.toNat (IntKind.i64.wrap ((x_935.length : Int) - 1))) 0) (.idxRefM (f := api_Timer.cells) (xs := x_935) rfl rfl rfl rfl rfl rfl hb940) ?_
    refine SafeOps.quiet0 E_good rfl rfl rfl (v := V.agg [V.int .i64 ((gt x_935 (IntKind.i64.wrap ((x_935.length : Int) - 1))).At), V.int .i64 ((gt x_935 (IntKind.i64.wrap ((x_935.length : Int) - 1))).Id)]) (.load rfl rfl (.rowsM (f := api_Timer.cells) (xs := x_935) hb940 rfl rfl) rfl) ?_
    refine okG h (fun hb941 h => ?_)
    refine SafeOps.quiet0 E_good rfl rfl rfl (v := V.ptr [12, 0] (0 + Int.toNat x_936) 0) (.idxRefM (f := api_Timer.cells) (xs := x_935) rfl rfl rfl rfl rfl rfl hb941) ?_
    refine SafeOps.store (z := Obj.rows 2 (rws api_Timer.cells (st x_935 x_936 (gt x_935 (IntKind.i64.wrap ((x_935.length : Int) - 1))))) false) E_good rfl rfl rfl rfl rfl rfl rfl (.rowsM (f := api_Timer.cells) (xs := x_935) (y := (gt x_935 (IntKind.i64.wrap ((x_935.length : Int) - 1)))) hb941 rfl rfl rfl rfl) ?_
    refine SafeOps.see 0 (u := V.ref [12, 0] 0 (rws api_Timer.cells (st x_935 x_936 (gt x_935 (IntKind.i64.wrap ((x_935.length : Int) - 1))))).length) rfl (.len (by simp [rws, st])) ?_
    refine SafeOps.see 6 (u := V.ref [12, 0] 0 (rws api_Timer.cells (st x_935 x_936 (gt x_935 (IntKind.i64.wrap ((x_935.length : Int) - 1))))).length) rfl (.len (by simp [rws, st])) ?_
    refine SafeOps.see 9 (u := V.ref [12, 0] 0 (rws api_Timer.cells (st x_935 x_936 (gt x_935 (IntKind.i64.wrap ((x_935.length : Int) - 1))))).length) rfl (.len (by simp [rws, st])) ?_
    refine SafeOps.see 11 (u := V.ref [12, 0] 0 (rws api_Timer.cells (st x_935 x_936 (gt x_935 (IntKind.i64.wrap ((x_935.length : Int) - 1))))).length) rfl (.len (by simp [rws, st])) ?_
    refine SafeOps.nil ?_
    repeat (first | refine Safe.seq ?_ | refine Safe.skip ?_ | with_reducible refine thenQ.n ?_ | with_reducible refine blockQ.n ?_)
    refine Safe.region ?_
    refine SafeOps.quiet0 E_good rfl rfl rfl (v := V.ref [12, 0] 0 (rws api_Timer.cells (st x_935 x_936 (gt x_935 (IntKind.i64.wrap ((x_935.length : Int) - 1))))).length) (.fn rfl) ?_
    refine SafeOps.quiet0 E_good rfl rfl rfl (v := V.int .i64 (IntKind.i64.wrap ((x_935.length : Int) - 1))) (.fn rfl) ?_
    refine okG h (fun hb942 h => ?_)
    refine SafeOps.quiet0 E_good rfl rfl rfl (v := V.ref [12, 0] 0 (Int.toNat (IntKind.i64.wrap ((x_935.length : Int) - 1)))) (.slRefH (f := api_Timer.cells) (xs := st x_935 x_936 (gt x_935 (IntKind.i64.wrap ((x_935.length : Int) - 1)))) rfl rfl rfl rfl rfl hb942) ?_
    refine SafeOps.truncM (f := api_Timer.cells) (xs := st x_935 x_936 (gt x_935 (IntKind.i64.wrap ((x_935.length : Int) - 1)))) [12, 0] (IntKind.i64.wrap ((x_935.length : Int) - 1)) rfl ?_
    refine SafeOps.see 18 (u := V.ref [12, 0] 0 (rws api_Timer.cells (sub (st x_935 x_936 (gt x_935 (IntKind.i64.wrap ((x_935.length : Int) - 1)))) 0 (IntKind.i64.wrap ((x_935.length : Int) - 1)))).length) rfl (.len (len_sub hb942)) ?_
    refine SafeOps.quiet0 E_good rfl rfl rfl (v := V.ref [12, 0] 0 (rws api_Timer.cells (sub (st x_935 x_936 (gt x_935 (IntKind.i64.wrap ((x_935.length : Int) - 1)))) 0 (IntKind.i64.wrap ((x_935.length : Int) - 1)))).length) (.fn rfl) ?_
    refine SafeOps.nil ?_
    repeat (first | refine Safe.seq ?_ | refine Safe.skip ?_ | with_reducible refine thenQ.n ?_ | with_reducible refine blockQ.n ?_)
    refine Safe.region ?_
    refine SafeOps.quiet0 E_good rfl rfl rfl (v := V.int .i64 x_936) (.fn rfl) ?_
    refine SafeOps.quiet0 E_good rfl rfl rfl (v := V.int .i64 (IntKind.i64.wrap ((x_935.length : Int) - 1))) (.fn rfl) ?_
    refine SafeOps.quiet0 E_good rfl rfl rfl (v := V.bool (decide (x_936 < (IntKind.i64.wrap ((x_935.length : Int) - 1))))) (.fn rfl) ?_
    refine SafeOps.nil ?_
    repeat (first | refine Safe.seq ?_ | refine Safe.skip ?_ | with_reducible refine thenQ.n ?_ | with_reducible refine blockQ.n ?_)
    refine ifG h (fun hc943 h => ?_) (fun hc943 h => ?_)
    · skip
      refine Safe.condK rfl hc943 ?_
      repeat (first | refine Safe.seq ?_ | refine Safe.skip ?_ | with_reducible refine thenQ.n ?_ | with_reducible refine blockQ.n ?_)
      refine Safe.region ?_
      refine SafeOps.quiet0 E_good rfl rfl rfl (v := V.ref [12, 0] 0 (rws api_Timer.cells (sub (st x_935 x_936 (gt x_935 (IntKind.i64.wrap ((x_935.length : Int) - 1)))) 0 (IntKind.i64.wrap ((x_935.length : Int) - 1)))).length) (.fn rfl) ?_
      refine SafeOps.quiet0 E_good rfl rfl rfl (v := V.int .i64 x_936) (.fn rfl) ?_
      refine SafeOps.inline E_good rfl rfl rfl rfl rfl Try.func40 rfl (fun _ _ => Try.call40 _ _) rfl ?_
      repeat (first | refine Safe.seq ?_ | refine Safe.skip ?_ | with_reducible refine thenQ.n ?_ | with_reducible refine blockQ.n ?_)
      refine Safe.block ?_
      repeat (first | refine Safe.seq ?_ | refine Safe.skip ?_ | with_reducible refine thenQ.n ?_ | with_reducible refine blockQ.n ?_)
      refine Safe.loopW (fun ((v0_1060, v1_1061) : (List api_Timer) × Int) => ⟨Try.f40.ntmps, [(0, V.ref [12, 0] 0 (rws api_Timer.cells v0_1060).length), (1, V.int .i64 v1_1061)], [([12, 0], Obj.rows 2 (rws api_Timer.cells v0_1060) false)], [(Try.f39.ntmps, [(0, V.ref [12, 0] 0 (rws api_Timer.cells v0_1060).length), (1, V.int .i64 x_936)]), (Try.f13.ntmps, [])], [21, 24]⟩) h (.cov ⟨rfl, rfl, (upT_cons (.refl _) (upT_cons (.refl _) upT_nil)), (upOb_cons rfl (.refl _) upOb_nil), (upOut_cons rfl (upT_cons (.refl _) (upT_cons (.refl _) upT_nil)) (upOut_cons rfl upT_nil upOut_nil)), rfl⟩) ?_
      rintro ⟨v0_1060, v1_1061⟩ ohr1062 h hr1062
      replace h : go_heap_Cancel_s5 x_936 (v0_1060, v1_1061) = some ohr1062 := h
      rw [go_heap_Cancel_s5] at h
      repeat (first | refine Safe.seq ?_ | refine Safe.skip ?_ | with_reducible refine thenQ.n ?_ | with_reducible refine blockQ.n ?_)
      refine Safe.block ?_
      repeat (first | refine Safe.seq ?_ | refine Safe.skip ?_ | with_reducible refine thenQ.n ?_ | with_reducible refine blockQ.n ?_)
      refine Safe.region ?_
      refine SafeOps.quiet0 E_good rfl rfl rfl (v := V.int .i64 v1_1061) (.fn rfl) ?_
      refine SafeOps.quiet0 E_good rfl rfl rfl (v := V.int .i64 v1_1061) (.fn rfl) ?_
      refine SafeOps.nil ?_
      repeat (first | refine Safe.seq ?_ | refine Safe.skip ?_ | with_reducible refine thenQ.n ?_ | with_reducible refine blockQ.n ?_)
      refine Safe.region ?_
      refine SafeOps.quiet0 E_good rfl rfl rfl (v := V.int .i64 v1_1061) (.fn rfl) ?_
      refine SafeOps.quiet0 E_good rfl rfl rfl (v := V.int .i64 (IntKind.i64.wrap (4 * v1_1061))) (.fn rfl) ?_
      refine SafeOps.quiet0 E_good rfl rfl rfl (v := V.int .i64 (IntKind.i64.wrap ((IntKind.i64.wrap (4 * v1_1061)) + 1))) (.fn rfl) ?_
      refine SafeOps.quiet0 E_good rfl rfl rfl (v := V.int .i64 (IntKind.i64.wrap ((IntKind.i64.wrap (4 * v1_1061)) + 1))) (.fn rfl) ?_
      refine SafeOps.nil ?_
      repeat (first | refine Safe.seq ?_ | refine Safe.skip ?_ | with_reducible refine thenQ.n ?_ | with_reducible refine blockQ.n ?_)
      refine Safe.block ?_
      repeat (first | refine Safe.seq ?_ | refine Safe.skip ?_ | with_reducible refine thenQ.n ?_ | with_reducible refine blockQ.n ?_)
      refine Safe.loopW (fun ((v4_1105, v5_1106) : Int × Int) => ⟨Try.f40.ntmps, [(0, V.ref [12, 0] 0 (rws api_Timer.cells v0_1060).length), (1, V.int .i64 v1_1061), (4, V.int .i64 v4_1105), (5, V.int .i64 v5_1106)], [([12, 0], Obj.rows 2 (rws api_Timer.cells v0_1060) false)], [(Try.f39.ntmps, [(0, V.ref [12, 0] 0 (rws api_Timer.cells v0_1060).length), (1, V.int .i64 x_936)]), (Try.f13.ntmps, [])], [21, 24]⟩) h (.cov ⟨rfl, rfl, (upT_cons (.refl _) (upT_cons (.refl _) (upT_cons (.refl _) (upT_cons (.refl _) upT_nil)))), (upOb_cons rfl (.refl _) upOb_nil), (upOut_cons rfl (upT_cons (.refl _) (upT_cons (.refl _) upT_nil)) (upOut_cons rfl upT_nil upOut_nil)), rfl⟩) ?_
      rintro ⟨v4_1105, v5_1106⟩ ohr1107 h hr1107
      replace h : go_heap_Cancel_s7 x_936 v0_1060 v1_1061 (v4_1105, v5_1106) = some ohr1107 := h
      rw [go_heap_Cancel_s7] at h
      repeat (first | refine Safe.seq ?_ | refine Safe.skip ?_ | with_reducible refine thenQ.n ?_ | with_reducible refine blockQ.n ?_)
      refine Safe.region ?_
      refine SafeOps.quiet0 E_good rfl rfl rfl (v := V.int .i64 v5_1106) (.fn rfl) ?_
      refine SafeOps.quiet0 E_good rfl rfl rfl (v := V.int .i64 v1_1061) (.fn rfl) ?_
      refine SafeOps.quiet0 E_good rfl rfl rfl (v := V.int .i64 (IntKind.i64.wrap (4 * v1_1061))) (.fn rfl) ?_
      refine SafeOps.quiet0 E_good rfl rfl rfl (v := V.int .i64 (IntKind.i64.wrap ((IntKind.i64.wrap (4 * v1_1061)) + 4))) (.fn rfl) ?_
      refine SafeOps.quiet0 E_good rfl rfl rfl (v := V.bool (decide (v5_1106 ≤ (IntKind.i64.wrap ((IntKind.i64.wrap (4 * v1_1061)) + 4))))) (.fn rfl) ?_
      refine SafeOps.quiet0 E_good rfl rfl rfl (v := V.bool (decide (v5_1106 ≤ (IntKind.i64.wrap ((IntKind.i64.wrap (4 * v1_1061)) + 4))))) (.fn rfl) ?_
      refine SafeOps.bjoin 5 20 (b := ((decide (v5_1106 ≤ (IntKind.i64.wrap ((IntKind.i64.wrap (4 * v1_1061)) + 4)))) && (decide (v5_1106 < (v0_1060.length : Int))))) (b1 := decide (v5_1106 < (v0_1060.length : Int))) (b0 := false) (fun hc1108 K => ?_) (fun hc1108 K => ?_) bj_and ?_
      · skip
        refine SafeOps.quiet0 E_good (congrArg some hc1108) rfl rfl (v := V.int .i64 v5_1106) (.fn rfl) ?_
        refine SafeOps.quiet0 E_good (congrArg some hc1108) rfl rfl (v := V.ref [12, 0] 0 (rws api_Timer.cells v0_1060).length) (.fn rfl) ?_
        refine SafeOps.quiet0 E_good (congrArg some hc1108) rfl rfl (v := V.int .i64 (v0_1060.length : Int)) (.fnE rfl lenE) ?_
        refine SafeOps.quiet0 E_good (congrArg some hc1108) rfl rfl (v := V.bool (decide (v5_1106 < (v0_1060.length : Int)))) (.fn rfl) ?_
        refine SafeOps.quiet0 E_good rfl rfl rfl (v := V.bool (decide (v5_1106 < (v0_1060.length : Int)))) (.pickK rfl hc1108 rfl) ?_
        exact SafeOps.drop' 5 rfl rfl rfl K
      · skip
        refine SafeOps.skip (congrArg some hc1108) rfl rfl ?_
        refine SafeOps.skip (congrArg some hc1108) rfl rfl ?_
        refine SafeOps.skip (congrArg some hc1108) rfl rfl ?_
        refine SafeOps.skip (congrArg some hc1108) rfl rfl ?_
        refine SafeOps.quiet0 E_good rfl rfl rfl (v := V.bool false) (.pickK rfl hc1108 rfl) ?_
        exact SafeOps.drop' 5 rfl rfl rfl K
      refine SafeOps.nil ?_
      repeat (first | refine Safe.seq ?_ | refine Safe.skip ?_ | with_reducible refine thenQ.n ?_ | with_reducible refine blockQ.n ?_)
      refine ifG h (fun hc1109 h => ?_) (fun hc1109 h => ?_)
      · skip
        refine Safe.condK rfl hc1109 ?_
        repeat (first | refine Safe.seq ?_ | refine Safe.skip ?_ | with_reducible refine thenQ.n ?_ | with_reducible refine blockQ.n ?_)
        refine Safe.block ?_
        repeat (first | refine Safe.seq ?_ | refine Safe.skip ?_ | with_reducible refine thenQ.n ?_ | with_reducible refine blockQ.n ?_)
        refine Safe.regionD (n := 10) [] [] E_good mixed rfl ?_
        refine DAny.take (i := 0) rfl (by kernel_rfl) [] (by kernel_rfl) (by kernel_rfl) (by kernel_rfl) rfl rfl rfl (v := V.ref [12, 0] 0 (rws api_Timer.cells v0_1060).length) (fun _ hz => (.fn rfl)) ?_
        refine DAny.take (i := 1) rfl (by kernel_rfl) [] (by kernel_rfl) (by kernel_rfl) (by kernel_rfl) rfl rfl rfl (v := V.int .i64 v5_1106) (fun _ hz => (.fn rfl)) ?_
        refine okG h (fun hb1110 h => ?_)
        refine DAny.take (i := 2) rfl (by kernel_rfl) [] (by kernel_rfl) (by kernel_rfl) (by kernel_rfl) rfl rfl rfl (v := V.ptr [12, 0] (0 + Int.toNat v5_1106) 0) (fun _ hz => (.idxRefM (f := api_Timer.cells) (xs := v0_1060) rfl rfl rfl (hz _ _ rfl rfl) rfl rfl hb1110)) ?_
        refine DAny.take (i := 3) rfl (by kernel_rfl) [] (by kernel_rfl) (by kernel_rfl) (by kernel_rfl) rfl rfl rfl (v := V.agg [V.int .i64 ((gt v0_1060 v5_1106).At), V.int .i64 ((gt v0_1060 v5_1106).Id)]) (fun _ hz => (.load rfl rfl (.rowsM (f := api_Timer.cells) (xs := v0_1060) hb1110 (hz _ _ rfl rfl) rfl) rfl)) ?_
        refine DAny.take (i := 4) rfl (by kernel_rfl) [] (by kernel_rfl) (by kernel_rfl) (by kernel_rfl) rfl rfl rfl (v := V.ref [12, 0] 0 (rws api_Timer.cells v0_1060).length) (fun _ hz => (.fn rfl)) ?_
        refine DAny.take (i := 5) rfl (by kernel_rfl) [] (by kernel_rfl) (by kernel_rfl) (by kernel_rfl) rfl rfl rfl (v := V.int .i64 v4_1105) (fun _ hz => (.fn rfl)) ?_
        refine okG h (fun hb1111 h => ?_)
        refine DAny.take (i := 6) rfl (by kernel_rfl) [] (by kernel_rfl) (by kernel_rfl) (by kernel_rfl) rfl rfl rfl (v := V.ptr [12, 0] (0 + Int.toNat v4_1105) 0) (fun _ hz => (.idxRefM (f := api_Timer.cells) (xs := v0_1060) rfl rfl rfl (hz _ _ rfl rfl) rfl rfl hb1111)) ?_
        refine DAny.take (i := 7) rfl (by kernel_rfl) [] (by kernel_rfl) (by kernel_rfl) (by kernel_rfl) rfl rfl rfl (v := V.agg [V.int .i64 ((gt v0_1060 v4_1105).At), V.int .i64 ((gt v0_1060 v4_1105).Id)]) (fun _ hz => (.load rfl rfl (.rowsM (f := api_Timer.cells) (xs := v0_1060) hb1111 (hz _ _ rfl rfl) rfl) rfl)) ?_
        refine bindG h ?_
        intro x_1112 he1113 h
        refine DAny.take (i := 8) rfl (by kernel_rfl) [] (by kernel_rfl) (by kernel_rfl) (by kernel_rfl) rfl rfl rfl (v := V.int .i64 x_1112) (fun _ hz => (.callP rfl rfl (go_heap_order_sc (gt v0_1060 v5_1106) (gt v0_1060 v4_1105) _ he1113) rfl)) ?_
        refine DAny.take (i := 9) rfl (by kernel_rfl) [] (by kernel_rfl) (by kernel_rfl) (by kernel_rfl) rfl rfl rfl (v := V.bool (decide (x_1112 < 0))) (fun _ hz => (.fn rfl)) ?_
        refine DAny.nil (by kernel_rfl) ?_
        repeat (first | refine Safe.seq ?_ | refine Safe.skip ?_ | with_reducible refine thenQ.n ?_ | with_reducible refine blockQ.n ?_)
        refine ifG h (fun hc1114 h => ?_) (fun hc1114 h => ?_)
        · skip
          refine Safe.condK rfl hc1114 ?_
          repeat (first | refine Safe.seq ?_ | refine Safe.skip ?_ | with_reducible refine thenQ.n ?_ | with_reducible refine blockQ.n ?_)
          refine Safe.region ?_
          refine SafeOps.quiet0 E_good rfl rfl rfl (v := V.int .i64 v5_1106) (.fn rfl) ?_
          refine SafeOps.quiet0 E_good rfl rfl rfl (v := V.int .i64 v5_1106) (.fn rfl) ?_
          refine SafeOps.nil ?_
          repeat (first | refine Safe.seq ?_ | refine Safe.skip ?_ | with_reducible refine thenQ.n ?_ | with_reducible refine blockQ.n ?_)
          refine Safe.region ?_
          refine SafeOps.quiet0 E_good rfl rfl rfl (v := V.int .i64 v5_1106) (.fn rfl) ?_
          refine SafeOps.quiet0 E_good rfl rfl rfl (v := V.int .i64 (IntKind.i64.wrap (v5_1106 + 1))) (.fn rfl) ?_
          refine SafeOps.quiet0 E_good rfl rfl rfl (v := V.int .i64 (IntKind.i64.wrap (v5_1106 + 1))) (.fn rfl) ?_
          refine SafeOps.nil ?_
          repeat (first | refine Safe.seq ?_ | refine Safe.skip ?_ | with_reducible refine thenQ.n ?_ | with_reducible refine blockQ.n ?_)
          exact ⟨_, next_out h, (.cov ⟨rfl, rfl, (upT_cons (.refl _) (upT_cons (.refl _) (upT_cons (.refl _) (upT_cons (.refl _) upT_nil)))), (upOb_cons rfl (.refl _) upOb_nil), (upOut_cons rfl (upT_cons (.refl _) (upT_cons (.refl _) upT_nil)) (upOut_cons rfl upT_nil upOut_nil)), rfl⟩)⟩
        · skip
          refine Safe.condN rfl hc1114 ?_
          repeat (first | refine Safe.seq ?_ | refine Safe.skip ?_ | with_reducible refine thenQ.n ?_ | with_reducible refine blockQ.n ?_)
          refine Safe.region ?_
          refine SafeOps.quiet0 E_good rfl rfl rfl (v := V.int .i64 v5_1106) (.fn rfl) ?_
          refine SafeOps.quiet0 E_good rfl rfl rfl (v := V.int .i64 (IntKind.i64.wrap (v5_1106 + 1))) (.fn rfl) ?_
          refine SafeOps.quiet0 E_good rfl rfl rfl (v := V.int .i64 (IntKind.i64.wrap (v5_1106 + 1))) (.fn rfl) ?_
          refine SafeOps.nil ?_
          repeat (first | refine Safe.seq ?_ | refine Safe.skip ?_ | with_reducible refine thenQ.n ?_ | with_reducible refine blockQ.n ?_)
          exact ⟨_, next_out h, (.cov ⟨rfl, rfl, (upT_cons (.refl _) (upT_cons (.refl _) (upT_cons (.refl _) (upT_cons (.refl _) upT_nil)))), (upOb_cons rfl (.refl _) upOb_nil), (upOut_cons rfl (upT_cons (.refl _) (upT_cons (.refl _) upT_nil)) (upOut_cons rfl upT_nil upOut_nil)), rfl⟩)⟩
      · skip
        refine Safe.condN rfl hc1109 ?_
        repeat (first | refine Safe.seq ?_ | refine Safe.skip ?_ | with_reducible refine thenQ.n ?_ | with_reducible refine blockQ.n ?_)
        refine Safe.exit ?_
        repeat (first | with_reducible refine thenQ.e ?_ | with_reducible refine blockQ.x rfl ?_ | with_reducible refine blockQ.y rfl ?_)
        replace h := inr_out h hr1107
        repeat (first | refine Safe.seq ?_ | refine Safe.skip ?_ | with_reducible refine thenQ.n ?_ | with_reducible refine blockQ.n ?_)
        refine Safe.region ?_
        refine SafeOps.quiet0 E_good rfl rfl rfl (v := V.int .i64 v4_1105) (.fn rfl) ?_
        refine SafeOps.quiet0 E_good rfl rfl rfl (v := V.int .i64 v1_1061) (.fn rfl) ?_
        refine SafeOps.quiet0 E_good rfl rfl rfl (v := V.bool (v4_1105 == v1_1061)) (.fn rfl) ?_
        refine SafeOps.nil ?_
        repeat (first | refine Safe.seq ?_ | refine Safe.skip ?_ | with_reducible refine thenQ.n ?_ | with_reducible refine blockQ.n ?_)
        refine ifG h (fun hc1115 h => ?_) (fun hc1115 h => ?_)
        · skip
          refine Safe.condK rfl hc1115 ?_
          repeat (first | refine Safe.seq ?_ | refine Safe.skip ?_ | with_reducible refine thenQ.n ?_ | with_reducible refine blockQ.n ?_)
          refine Safe.ret ?_
          repeat (first | with_reducible refine thenQ.r ?_ | with_reducible refine blockQ.r ?_)
          refine inQ.gen (vs := []) (v := V.tup []) (.inr rfl) rfl .nil rfl ?_
          replace h := inr_out h hr1062
          refine SafeOps.nil ?_
          repeat (first | refine Safe.seq ?_ | refine Safe.skip ?_ | with_reducible refine thenQ.n ?_ | with_reducible refine blockQ.n ?_)
          refine Safe.region ?_
          refine SafeOps.quiet0 E_good rfl rfl rfl (v := V.ref [12, 0] 0 (rws api_Timer.cells v0_1060).length) (.fn rfl) ?_
          refine SafeOps.quiet0 E_good rfl rfl rfl (v := V.int .i64 x_936) (.fn rfl) ?_
          refine SafeOps.inline E_good rfl rfl rfl rfl rfl Try.func34 rfl (fun _ _ => Try.call34 _ _) rfl ?_
          repeat (first | refine Safe.seq ?_ | refine Safe.skip ?_ | with_reducible refine thenQ.n ?_ | with_reducible refine blockQ.n ?_)
          refine Safe.block ?_
          repeat (first | refine Safe.seq ?_ | refine Safe.skip ?_ | with_reducible refine thenQ.n ?_ | with_reducible refine blockQ.n ?_)
          refine Safe.loopW (fun ((v0_1138, v1_1139) : (List api_Timer) × Int) => ⟨Try.f34.ntmps, [(0, V.ref [12, 0] 0 (rws api_Timer.cells v0_1138).length), (1, V.int .i64 v1_1139)], [([12, 0], Obj.rows 2 (rws api_Timer.cells v0_1138) false)], [(Try.f39.ntmps, [(0, V.ref [12, 0] 0 (rws api_Timer.cells v0_1138).length)]), (Try.f13.ntmps, [])], [21, 27]⟩) h (.cov ⟨rfl, rfl, (upT_cons (.refl _) (upT_cons (.refl _) upT_nil)), (upOb_cons rfl (.refl _) upOb_nil), (upOut_cons rfl (upT_cons (.refl _) upT_nil) (upOut_cons rfl upT_nil upOut_nil)), rfl⟩) ?_
          rintro ⟨v0_1138, v1_1139⟩ ohr1140 h hr1140
          replace h : go_heap_Cancel_s8 (v0_1138, v1_1139) = some ohr1140 := h
          rw [go_heap_Cancel_s8] at h
          repeat (first | refine Safe.seq ?_ | refine Safe.skip ?_ | with_reducible refine thenQ.n ?_ | with_reducible refine blockQ.n ?_)
          refine Safe.region ?_
          refine SafeOps.quiet0 E_good rfl rfl rfl (v := V.int .i64 v1_1139) (.fn rfl) ?_
          refine SafeOps.quiet0 E_good rfl rfl rfl (v := V.bool (decide (v1_1139 > 0))) (.fn rfl) ?_
          refine SafeOps.nil ?_
          repeat (first | refine Safe.seq ?_ | refine Safe.skip ?_ | with_reducible refine thenQ.n ?_ | with_reducible refine blockQ.n ?_)
          refine ifG h (fun hc1141 h => ?_) (fun hc1141 h => ?_)
          · skip
            refine Safe.condK rfl hc1141 ?_
            repeat (first | refine Safe.seq ?_ | refine Safe.skip ?_ | with_reducible refine thenQ.n ?_ | with_reducible refine blockQ.n ?_)
            refine Safe.block ?_
            repeat (first | refine Safe.seq ?_ | refine Safe.skip ?_ | with_reducible refine thenQ.n ?_ | with_reducible refine blockQ.n ?_)
            refine Safe.region ?_
            refine SafeOps.quiet0 E_good rfl rfl rfl (v := V.int .i64 v1_1139) (.fn rfl) ?_
            refine SafeOps.quiet0 E_good rfl rfl rfl (v := V.int .i64 (IntKind.i64.wrap (v1_1139 - 1))) (.fn rfl) ?_
            refine SafeOps.quiet0 E_good rfl rfl rfl (v := V.int .i64 (IntKind.i64.wrap (Int.tdiv (IntKind.i64.wrap (v1_1139 - 1)) 4))) (.quoV rfl rfl (by decide)) ?_
            refine SafeOps.quiet0 E_good rfl rfl rfl (v := V.int .i64 (IntKind.i64.wrap (Int.tdiv (IntKind.i64.wrap (v1_1139 - 1)) 4))) (.fn rfl) ?_
            refine SafeOps.nil ?_
            repeat (first | refine Safe.seq ?_ | refine Safe.skip ?_ | with_reducible refine thenQ.n ?_ | with_reducible refine blockQ.n ?_)
            refine Safe.regionD (n := 10) [] [] E_good mixed rfl ?_
            refine DAny.take (i := 0) rfl (by kernel_rfl) [] (by kernel_rfl) (by kernel_rfl) (by kernel_rfl) rfl rfl rfl (v := V.ref [12, 0] 0 (rws api_Timer.cells v0_1138).length) (fun _ hz => (.fn rfl)) ?_
            refine DAny.take (i := 1) rfl (by kernel_rfl) [] (by kernel_rfl) (by kernel_rfl) (by kernel_rfl) rfl rfl rfl (v := V.int .i64 (IntKind.i64.wrap (Int.tdiv (IntKind.i64.wrap (v1_1139 - 1)) 4))) (fun _ hz => (.fn rfl)) ?_
            refine okG h (fun hb1142 h => ?_)
            refine DAny.take (i := 2) rfl (by kernel_rfl) [] (by kernel_rfl) (by kernel_rfl) (by kernel_rfl) rfl rfl rfl (v := V.ptr [12, 0] (0 + Int.toNat (IntKind.i64.wrap (Int.tdiv (IntKind.i64.wrap (v1_1139 - 1)) 4))) 0) (fun _ hz => (.idxRefM (f := api_Timer.cells) (xs := v0_1138) rfl rfl rfl (hz _ _ rfl rfl) rfl rfl hb1142)) ?_
            refine DAny.take (i := 3) rfl (by kernel_rfl) [] (by kernel_rfl) (by kernel_rfl) (by kernel_rfl) rfl rfl rfl (v := V.agg [V.int .i64 ((gt v0_1138 (IntKind.i64.wrap (Int.tdiv (IntKind.i64.wrap (v1_1139 - 1)) 4))).At), V.int .i64 ((gt v0_1138 (IntKind.i64.wrap (Int.tdiv (IntKind.i64.wrap (v1_1139 - 1)) 4))).Id)]) (fun _ hz => (.load rfl rfl (.rowsM (f := api_Timer.cells) (xs := v0_1138) hb1142 (hz _ _ rfl rfl) rfl) rfl)) ?_
            refine DAny.take (i := 4) rfl (by kernel_rfl) [] (by kernel_rfl) (by kernel_rfl) (by kernel_rfl) rfl rfl rfl (v := V.ref [12, 0] 0 (rws api_Timer.cells v0_1138).length) (fun _ hz => (.fn rfl)) ?_
            refine DAny.take (i := 5) rfl (by kernel_rfl) [] (by kernel_rfl) (by kernel_rfl) (by kernel_rfl) rfl rfl rfl (v := V.int .i64 v1_1139) (fun _ hz => (.fn rfl)) ?_
            refine okG h (fun hb1143 h => ?_)
            refine DAny.take (i := 6) rfl (by kernel_rfl) [] (by kernel_rfl) (by kernel_rfl) (by kernel_rfl) rfl rfl rfl (v := V.ptr [12, 0] (0 + Int.toNat v1_1139) 0) (fun _ hz => (.idxRefM (f := api_Timer.cells) (xs := v0_1138) rfl rfl rfl (hz _ _ rfl rfl) rfl rfl hb1143)) ?_
            refine DAny.take (i := 7) rfl (by kernel_rfl) [] (by kernel_rfl) (by kernel_rfl) (by kernel_rfl) rfl rfl rfl (v := V.agg [V.int .i64 ((gt v0_1138 v1_1139).At), V.int .i64 ((gt v0_1138 v1_1139).Id)]) (fun _ hz => (.load rfl rfl (.rowsM (f := api_Timer.cells) (xs := v0_1138) hb1143 (hz _ _ rfl rfl) rfl) rfl)) ?_
            refine bindG h ?_
            intro x_1144 he1145 h
            refine DAny.take (i := 8) rfl (by kernel_rfl) [] (by kernel_rfl) (by kernel_rfl) (by kernel_rfl) rfl rfl rfl (v := V.int .i64 x_1144) (fun _ hz => (.callP rfl rfl (go_heap_order_sc (gt v0_1138 (IntKind.i64.wrap (Int.tdiv (IntKind.i64.wrap (v1_1139 - 1)) 4))) (gt v0_1138 v1_1139) _ he1145) rfl)) ?_
            refine DAny.take (i := 9) rfl (by kernel_rfl) [] (by kernel_rfl) (by kernel_rfl) (by kernel_rfl) rfl rfl rfl (v := V.bool (decide (x_1144 ≤ 0))) (fun _ hz => (.fn rfl)) ?_
            refine DAny.nil (by kernel_rfl) ?_
            repeat (first | refine Safe.seq ?_ | refine Safe.skip ?_ | with_reducible refine thenQ.n ?_ | with_reducible refine blockQ.n ?_)
            refine ifG h (fun hc1146 h => ?_) (fun hc1146 h => ?_)
            · skip
              refine Safe.condK rfl hc1146 ?_
              repeat (first | refine Safe.seq ?_ | refine Safe.skip ?_ | with_reducible refine thenQ.n ?_ | with_reducible refine blockQ.n ?_)
              refine Safe.ret ?_
              repeat (first | with_reducible refine thenQ.r ?_ | with_reducible refine blockQ.r ?_)
              refine inQ.gen (vs := []) (v := V.tup []) (.inr rfl) rfl .nil rfl ?_
              replace h := inr_out h hr1140
              refine SafeOps.nil ?_
              repeat (first | refine Safe.seq ?_ | refine Safe.skip ?_ | with_reducible refine thenQ.n ?_ | with_reducible refine blockQ.n ?_)
              refine Safe.region ?_
              refine SafeOps.quiet0 E_good rfl rfl rfl (v := V.ref [12, 0] 0 (rws api_Timer.cells v0_1138).length) (.fn rfl) ?_
              refine SafeOps.quiet0 E_good rfl rfl rfl (v := V.ref [12, 0] 0 (rws api_Timer.cells v0_1138).length) (.fn rfl) ?_
              refine SafeOps.nil ?_
              repeat (first | refine Safe.seq ?_ | refine Safe.skip ?_ | with_reducible refine thenQ.n ?_ | with_reducible refine blockQ.n ?_)
              refine Safe.ret ?_
              repeat (first | with_reducible refine thenQ.r ?_ | with_reducible refine blockQ.r ?_)
              refine inQ.gen (vs := [V.ref [12, 0] 0 (rws api_Timer.cells v0_1138).length]) (v := V.ref [12, 0] 0 (rws api_Timer.cells v0_1138).length) (.inr rfl) rfl (.tmp (v := V.ref [12, 0] 0 (rws api_Timer.cells v0_1138).length) rfl .nil) rfl ?_
              refine SafeOps.quiet0 E_good rfl rfl rfl (v := V.ref [12, 0] 0 (rws api_Timer.cells v0_1138).length) (.fn rfl) ?_
              refine SafeOps.quiet0 E_good rfl rfl rfl (v := V.int .i64 0) (.fn rfl) ?_
              refine SafeOps.nil ?_
              repeat (first | refine Safe.seq ?_ | refine Safe.skip ?_ | with_reducible refine thenQ.n ?_ | with_reducible refine blockQ.n ?_)
              refine Safe.ret ?_
              repeat (first | with_reducible refine thenQ.r ?_ | with_reducible refine blockQ.r ?_)
              obtain rfl := Option.some.inj h
              exact retQ.gen (vs := [V.ref [12, 0] 0 (rws api_Timer.cells v0_1138).length, V.int .i64 0]) rfl (.tmp (v := V.ref [12, 0] 0 (rws api_Timer.cells v0_1138).length) rfl (.tmp (v := V.int .i64 0) rfl .nil)) (by exact (.tup (.cons (.own rfl rfl) (.cons (.free rfl) .nil)))) (by simp) (.inr rfl)
            · skip
              refine Safe.condN rfl hc1146 ?_
              repeat (first | refine Safe.seq ?_ | refine Safe.skip ?_ | with_reducible refine thenQ.n ?_ | with_reducible refine blockQ.n ?_)
              refine Safe.regionD (n := 16) [(13, [12, 0]), (13, [35]), (15, [12, 0]), (15, [35])] [] E_good mixed rfl ?_
              refine DAny.take (i := 0) rfl (by kernel_rfl) [[12, 0], [35]] (by kernel_rfl) (by kernel_rfl) (by kernel_rfl) rfl rfl rfl (v := V.ref [12, 0] 0 (rws api_Timer.cells v0_1138).length) (fun _ hz => (.fn rfl)) ?_
              refine DAny.take (i := 1) rfl (by kernel_rfl) [[12, 0], [35]] (by kernel_rfl) (by kernel_rfl) (by kernel_rfl) rfl rfl rfl (v := V.int .i64 (IntKind.i64.wrap (Int.tdiv (IntKind.i64.wrap (v1_1139 - 1)) 4))) (fun _ hz => (.fn rfl)) ?_
              refine DAny.take (i := 2) rfl (by kernel_rfl) [[12, 0], [35]] (by kernel_rfl) (by kernel_rfl) (by kernel_rfl) rfl rfl rfl (v := V.ref [12, 0] 0 (rws api_Timer.cells v0_1138).length) (fun _ hz => (.fn rfl)) ?_
              refine DAny.take (i := 3) rfl (by kernel_rfl) [[12, 0], [35]] (by kernel_rfl) (by kernel_rfl) (by kernel_rfl) rfl rfl rfl (v := V.int .i64 v1_1139) (fun _ hz => (.fn rfl)) ?_
              refine DAny.take (i := 4) rfl (by kernel_rfl) [[12, 0], [35]] (by kernel_rfl) (by kernel_rfl) (by kernel_rfl) rfl rfl rfl (v := V.ref [12, 0] 0 (rws api_Timer.cells v0_1138).length) (fun _ hz => (.fn rfl)) ?_
              refine DAny.take (i := 5) rfl (by kernel_rfl) [[12, 0], [35]] (by kernel_rfl) (by kernel_rfl) (by kernel_rfl) rfl rfl rfl (v := V.int .i64 v1_1139) (fun _ hz => (.fn rfl)) ?_
              refine okG h (fun hb1147 h => ?_)
              refine DAny.take (i := 6) rfl (by kernel_rfl) [[35]] (by kernel_rfl) (by kernel_rfl) (by kernel_rfl) rfl rfl rfl (v := V.ptr [12, 0] (0 + Int.toNat v1_1139) 0) (fun _ hz => (.idxRefM (f := api_Timer.cells) (xs := v0_1138) rfl rfl rfl (hz _ _ rfl rfl) rfl rfl hb1147)) ?_
              refine DAny.take (i := 7) rfl (by kernel_rfl) [[35]] (by kernel_rfl) (by kernel_rfl) (by kernel_rfl) rfl rfl rfl (v := V.agg [V.int .i64 ((gt v0_1138 v1_1139).At), V.int .i64 ((gt v0_1138 v1_1139).Id)]) (fun _ hz => (.load rfl rfl (.rowsM (f := api_Timer.cells) (xs := v0_1138) hb1147 (hz _ _ rfl rfl) rfl) rfl)) ?_
              refine DAny.take (i := 8) rfl (by kernel_rfl) [[12, 0], [35]] (by kernel_rfl) (by kernel_rfl) (by kernel_rfl) rfl rfl rfl (v := V.ref [12, 0] 0 (rws api_Timer.cells v0_1138).length) (fun _ hz => (.fn rfl)) ?_
              refine DAny.take (i := 9) rfl (by kernel_rfl) [[12, 0], [35]] (by kernel_rfl) (by kernel_rfl) (by kernel_rfl) rfl rfl rfl (v := V.int .i64 (IntKind.i64.wrap (Int.tdiv (IntKind.i64.wrap (v1_1139 - 1)) 4))) (fun _ hz => (.fn rfl)) ?_
              refine okG h (fun hb1148 h => ?_)
              refine DAny.take (i := 10) rfl (by kernel_rfl) [[35]] (by kernel_rfl) (by kernel_rfl) (by kernel_rfl) rfl rfl rfl (v := V.ptr [12, 0] (0 + Int.toNat (IntKind.i64.wrap (Int.tdiv (IntKind.i64.wrap (v1_1139 - 1)) 4))) 0) (fun _ hz => (.idxRefM (f := api_Timer.cells) (xs := v0_1138) rfl rfl rfl (hz _ _ rfl rfl) rfl rfl hb1148)) ?_
              refine DAny.take (i := 11) rfl (by kernel_rfl) [[35]] (by kernel_rfl) (by kernel_rfl) (by kernel_rfl) rfl rfl rfl (v := V.agg [V.int .i64 ((gt v0_1138 (IntKind.i64.wrap (Int.tdiv (IntKind.i64.wrap (v1_1139 - 1)) 4))).At), V.int .i64 ((gt v0_1138 (IntKind.i64.wrap (Int.tdiv (IntKind.i64.wrap (v1_1139 - 1)) 4))).Id)]) (fun _ hz => (.load rfl rfl (.rowsM (f := api_Timer.cells) (xs := v0_1138) hb1148 (hz _ _ rfl rfl) rfl) rfl)) ?_
              refine okG h (fun hb1149 h => ?_)
              refine DAny.take (i := 12) rfl (by kernel_rfl) [[35]] (by kernel_rfl) (by kernel_rfl) (by kernel_rfl) rfl rfl rfl (v := V.ptr [12, 0] (0 + Int.toNat (IntKind.i64.wrap (Int.tdiv (IntKind.i64.wrap (v1_1139 - 1)) 4))) 0) (fun _ hz => (.idxRefM (f := api_Timer.cells) (xs := v0_1138) rfl rfl rfl (hz _ _ rfl rfl) rfl rfl hb1149)) ?_
              refine DAny.only (i := 13) rfl (by kernel_rfl) (.store (z := Obj.rows 2 (rws api_Timer.cells (st v0_1138 (IntKind.i64.wrap (Int.tdiv (IntKind.i64.wrap (v1_1139 - 1)) 4)) (gt v0_1138 v1_1139))) false) rfl rfl rfl rfl rfl rfl rfl (.rowsM (f := api_Timer.cells) (xs := v0_1138) (y := (gt v0_1138 v1_1139)) hb1149 rfl rfl rfl rfl) rfl ?_)
              refine okG h (fun hb1150 h => ?_)
              refine DAny.take (i := 14) rfl (by kernel_rfl) [[35]] (by kernel_rfl) (by kernel_rfl) (by kernel_rfl) rfl rfl rfl (v := V.ptr [12, 0] (0 + Int.toNat v1_1139) 0) (fun _ hz => (.idxRefL (f := api_Timer.cells) (xs := st v0_1138 (IntKind.i64.wrap (Int.tdiv (IntKind.i64.wrap (v1_1139 - 1)) 4)) (gt v0_1138 v1_1139)) (ys := v0_1138) rfl rfl rfl (hz _ _ rfl rfl) rfl (by simp [st]) hb1150)) ?_
              refine DAny.only (i := 15) rfl (by kernel_rfl) (.store (z := Obj.rows 2 (rws api_Timer.cells (st (st v0_1138 (IntKind.i64.wrap (Int.tdiv (IntKind.i64.wrap (v1_1139 - 1)) 4)) (gt v0_1138 v1_1139)) v1_1139 (gt v0_1138 (IntKind.i64.wrap (Int.tdiv (IntKind.i64.wrap (v1_1139 - 1)) 4))))) false) rfl rfl rfl rfl rfl rfl rfl (.rowsM (f := api_Timer.cells) (xs := st v0_1138 (IntKind.i64.wrap (Int.tdiv (IntKind.i64.wrap (v1_1139 - 1)) 4)) (gt v0_1138 v1_1139)) (y := (gt v0_1138 (IntKind.i64.wrap (Int.tdiv (IntKind.i64.wrap (v1_1139 - 1)) 4)))) hb1150 rfl rfl rfl rfl) rfl ?_)
              refine DAny.nil (by kernel_rfl) ?_
              repeat (first | refine Safe.seq ?_ | refine Safe.skip ?_ | with_reducible refine thenQ.n ?_ | with_reducible refine blockQ.n ?_)
              refine Safe.see 0 (u := V.ref [12, 0] 0 (rws api_Timer.cells (st (st v0_1138 (IntKind.i64.wrap (Int.tdiv (IntKind.i64.wrap (v1_1139 - 1)) 4)) (gt v0_1138 v1_1139)) v1_1139 (gt v0_1138 (IntKind.i64.wrap (Int.tdiv (IntKind.i64.wrap (v1_1139 - 1)) 4))))).length) rfl (.len (by simp [rws, st])) ?_
              refine Safe.see 10 (u := V.ref [12, 0] 0 (rws api_Timer.cells (st (st v0_1138 (IntKind.i64.wrap (Int.tdiv (IntKind.i64.wrap (v1_1139 - 1)) 4)) (gt v0_1138 v1_1139)) v1_1139 (gt v0_1138 (IntKind.i64.wrap (Int.tdiv (IntKind.i64.wrap (v1_1139 - 1)) 4))))).length) rfl (.len (by simp [rws, st])) ?_
              refine Safe.see 14 (u := V.ref [12, 0] 0 (rws api_Timer.cells (st (st v0_1138 (IntKind.i64.wrap (Int.tdiv (IntKind.i64.wrap (v1_1139 - 1)) 4)) (gt v0_1138 v1_1139)) v1_1139 (gt v0_1138 (IntKind.i64.wrap (Int.tdiv (IntKind.i64.wrap (v1_1139 - 1)) 4))))).length) rfl (.len (by simp [rws, st])) ?_
              refine Safe.see 20 (u := V.ref [12, 0] 0 (rws api_Timer.cells (st (st v0_1138 (IntKind.i64.wrap (Int.tdiv (IntKind.i64.wrap (v1_1139 - 1)) 4)) (gt v0_1138 v1_1139)) v1_1139 (gt v0_1138 (IntKind.i64.wrap (Int.tdiv (IntKind.i64.wrap (v1_1139 - 1)) 4))))).length) rfl (.len (by simp [rws, st])) ?_
              refine Safe.see 22 (u := V.ref [12, 0] 0 (rws api_Timer.cells (st (st v0_1138 (IntKind.i64.wrap (Int.tdiv (IntKind.i64.wrap (v1_1139 - 1)) 4)) (gt v0_1138 v1_1139)) v1_1139 (gt v0_1138 (IntKind.i64.wrap (Int.tdiv (IntKind.i64.wrap (v1_1139 - 1)) 4))))).length) rfl (.len (by simp [rws, st])) ?_
              refine Safe.see 24 (u := V.ref [12, 0] 0 (rws api_Timer.cells (st (st v0_1138 (IntKind.i64.wrap (Int.tdiv (IntKind.i64.wrap (v1_1139 - 1)) 4)) (gt v0_1138 v1_1139)) v1_1139 (gt v0_1138 (IntKind.i64.wrap (Int.tdiv (IntKind.i64.wrap (v1_1139 - 1)) 4))))).length) rfl (.len (by simp [rws, st])) ?_
              refine Safe.see 28 (u := V.ref [12, 0] 0 (rws api_Timer.cells (st (st v0_1138 (IntKind.i64.wrap (Int.tdiv (IntKind.i64.wrap (v1_1139 - 1)) 4)) (gt v0_1138 v1_1139)) v1_1139 (gt v0_1138 (IntKind.i64.wrap (Int.tdiv (IntKind.i64.wrap (v1_1139 - 1)) 4))))).length) rfl (.len (by simp [rws, st])) ?_
              repeat (first | refine Safe.seq ?_ | refine Safe.skip ?_ | with_reducible refine thenQ.n ?_ | with_reducible refine blockQ.n ?_)
              refine Safe.region ?_
              refine SafeOps.quiet0 E_good rfl rfl rfl (v := V.int .i64 (IntKind.i64.wrap (Int.tdiv (IntKind.i64.wrap (v1_1139 - 1)) 4))) (.fn rfl) ?_
              refine SafeOps.quiet0 E_good rfl rfl rfl (v := V.int .i64 (IntKind.i64.wrap (Int.tdiv (IntKind.i64.wrap (v1_1139 - 1)) 4))) (.fn rfl) ?_
              refine SafeOps.nil ?_
              repeat (first | refine Safe.seq ?_ | refine Safe.skip ?_ | with_reducible refine thenQ.n ?_ | with_reducible refine blockQ.n ?_)
              exact ⟨_, next_out h, (.cov ⟨rfl, rfl, (upT_cons (.refl _) (upT_cons (.refl _) upT_nil)), (upOb_cons rfl (.refl _) upOb_nil), (upOut_cons rfl (upT_cons (.len (by simp [rws, st])) upT_nil) (upOut_cons rfl upT_nil upOut_nil)), rfl⟩)⟩
          · skip
            refine Safe.condN rfl hc1141 ?_
            repeat (first | refine Safe.seq ?_ | refine Safe.skip ?_ | with_reducible refine thenQ.n ?_ | with_reducible refine blockQ.n ?_)
            refine Safe.exit ?_
            repeat (first | with_reducible refine thenQ.e ?_ | with_reducible refine blockQ.x rfl ?_ | with_reducible refine blockQ.y rfl ?_)
            replace h := inr_out h hr1140
            repeat (first | refine Safe.seq ?_ | refine Safe.skip ?_ | with_reducible refine thenQ.n ?_ | with_reducible refine blockQ.n ?_)
            repeat (first | with_reducible refine thenQ.r ?_ | with_reducible refine blockQ.r ?_)
            refine inQ.gen (vs := []) (v := V.tup []) (.inl rfl) rfl .nil rfl ?_
            refine SafeOps.nil ?_
            repeat (first | refine Safe.seq ?_ | refine Safe.skip ?_ | with_reducible refine thenQ.n ?_ | with_reducible refine blockQ.n ?_)
            refine Safe.region ?_
            refine SafeOps.quiet0 E_good rfl rfl rfl (v := V.ref [12, 0] 0 (rws api_Timer.cells v0_1138).length) (.fn rfl) ?_
            refine SafeOps.quiet0 E_good rfl rfl rfl (v := V.ref [12, 0] 0 (rws api_Timer.cells v0_1138).length) (.fn rfl) ?_
            refine SafeOps.nil ?_
            repeat (first | refine Safe.seq ?_ | refine Safe.skip ?_ | with_reducible refine thenQ.n ?_ | with_reducible refine blockQ.n ?_)
            refine Safe.ret ?_
            repeat (first | with_reducible refine thenQ.r ?_ | with_reducible refine blockQ.r ?_)
            refine inQ.gen (vs := [V.ref [12, 0] 0 (rws api_Timer.cells v0_1138).length]) (v := V.ref [12, 0] 0 (rws api_Timer.cells v0_1138).length) (.inr rfl) rfl (.tmp (v := V.ref [12, 0] 0 (rws api_Timer.cells v0_1138).length) rfl .nil) rfl ?_
            refine SafeOps.quiet0 E_good rfl rfl rfl (v := V.ref [12, 0] 0 (rws api_Timer.cells v0_1138).length) (.fn rfl) ?_
            refine SafeOps.quiet0 E_good rfl rfl rfl (v := V.int .i64 0) (.fn rfl) ?_
            refine SafeOps.nil ?_
            repeat (first | refine Safe.seq ?_ | refine Safe.skip ?_ | with_reducible refine thenQ.n ?_ | with_reducible refine blockQ.n ?_)
            refine Safe.ret ?_
            repeat (first | with_reducible refine thenQ.r ?_ | with_reducible refine blockQ.r ?_)
            obtain rfl := Option.some.inj h
            exact retQ.gen (vs := [V.ref [12, 0] 0 (rws api_Timer.cells v0_1138).length, V.int .i64 0]) rfl (.tmp (v := V.ref [12, 0] 0 (rws api_Timer.cells v0_1138).length) rfl (.tmp (v := V.int .i64 0) rfl .nil)) (by exact (.tup (.cons (.own rfl rfl) (.cons (.free rfl) .nil)))) (by simp) (.inr rfl)
        · skip
          refine Safe.condN rfl hc1115 ?_
          repeat (first | refine Safe.seq ?_ | refine Safe.skip ?_ | with_reducible refine thenQ.n ?_ | with_reducible refine blockQ.n ?_)
          refine Safe.regionD (n := 16) [(13, [12, 0]), (15, [12, 0])] [] E_good mixed rfl ?_
          refine DAny.take (i := 0) rfl (by kernel_rfl) [[12, 0]] (by kernel_rfl) (by kernel_rfl) (by kernel_rfl) rfl rfl rfl (v := V.ref [12, 0] 0 (rws api_Timer.cells v0_1060).length) (fun _ hz => (.fn rfl)) ?_
          refine DAny.take (i := 1) rfl (by kernel_rfl) [[12, 0]] (by kernel_rfl) (by kernel_rfl) (by kernel_rfl) rfl rfl rfl (v := V.int .i64 v4_1105) (fun _ hz => (.fn rfl)) ?_
          refine DAny.take (i := 2) rfl (by kernel_rfl) [[12, 0]] (by kernel_rfl) (by kernel_rfl) (by kernel_rfl) rfl rfl rfl (v := V.ref [12, 0] 0 (rws api_Timer.cells v0_1060).length) (fun _ hz => (.fn rfl)) ?_
          refine DAny.take (i := 3) rfl (by kernel_rfl) [[12, 0]] (by kernel_rfl) (by kernel_rfl) (by kernel_rfl) rfl rfl rfl (v := V.int .i64 v1_1061) (fun _ hz => (.fn rfl)) ?_
          refine DAny.take (i := 4) rfl (by kernel_rfl) [[12, 0]] (by kernel_rfl) (by kernel_rfl) (by kernel_rfl) rfl rfl rfl (v := V.ref [12, 0] 0 (rws api_Timer.cells v0_1060).length) (fun _ hz => (.fn rfl)) ?_
          refine DAny.take (i := 5) rfl (by kernel_rfl) [[12, 0]] (by kernel_rfl) (by kernel_rfl) (by kernel_rfl) rfl rfl rfl (v := V.int .i64 v1_1061) (fun _ hz => (.fn rfl)) ?_
          refine okG h (fun hb1151 h => ?_)
          refine DAny.take (i := 6) rfl (by kernel_rfl) [] (by kernel_rfl) (by kernel_rfl) (by kernel_rfl) rfl rfl rfl (v := V.ptr [12, 0] (0 + Int.toNat v1_1061) 0) (fun _ hz => (.idxRefM (f := api_Timer.cells) (xs := v0_1060) rfl rfl rfl (hz _ _ rfl rfl) rfl rfl hb1151)) ?_
          refine DAny.take (i := 7) rfl (by kernel_rfl) [] (by kernel_rfl) (by kernel_rfl) (by kernel_rfl) rfl rfl rfl (v := V.agg [V.int .i64 ((gt v0_1060 v1_1061).At), V.int .i64 ((gt v0_1060 v1_1061).Id)]) (fun _ hz => (.load rfl rfl (.rowsM (f := api_Timer.cells) (xs := v0_1060) hb1151 (hz _ _ rfl rfl) rfl) rfl)) ?_
          refine DAny.take (i := 8) rfl (by kernel_rfl) [[12, 0]] (by kernel_rfl) (by kernel_rfl) (by kernel_rfl) rfl rfl rfl (v := V.ref [12, 0] 0 (rws api_Timer.cells v0_1060).length) (fun _ hz => (.fn rfl)) ?_
          refine DAny.take (i := 9) rfl (by kernel_rfl) [[12, 0]] (by kernel_rfl) (by kernel_rfl) (by kernel_rfl) rfl rfl rfl (v := V.int .i64 v4_1105) (fun _ hz => (.fn rfl)) ?_
          refine okG h (fun hb1152 h => ?_)
          refine DAny.take (i := 10) rfl (by kernel_rfl) [] (by kernel_rfl) (by kernel_rfl) (by kernel_rfl) rfl rfl rfl (v := V.ptr [12, 0] (0 + Int.toNat v4_1105) 0) (fun _ hz => (.idxRefM (f := api_Timer.cells) (xs := v0_1060) rfl rfl rfl (hz _ _ rfl rfl) rfl rfl hb1152)) ?_
          refine DAny.take (i := 11) rfl (by kernel_rfl) [] (by kernel_rfl) (by kernel_rfl) (by kernel_rfl) rfl rfl rfl (v := V.agg [V.int .i64 ((gt v0_1060 v4_1105).At), V.int .i64 ((gt v0_1060 v4_1105).Id)]) (fun _ hz => (.load rfl rfl (.rowsM (f := api_Timer.cells) (xs := v0_1060) hb1152 (hz _ _ rfl rfl) rfl) rfl)) ?_
          refine okG h (fun hb1153 h => ?_)
          refine DAny.take (i := 12) rfl (by kernel_rfl) [] (by kernel_rfl) (by kernel_rfl) (by kernel_rfl) rfl rfl rfl (v := V.ptr [12, 0] (0 + Int.toNat v4_1105) 0) (fun _ hz => (.idxRefM (f := api_Timer.cells) (xs := v0_1060) rfl rfl rfl (hz _ _ rfl rfl) rfl rfl hb1153)) ?_
          refine DAny.only (i := 13) rfl (by kernel_rfl) (.store (z := Obj.rows 2 (rws api_Timer.cells (st v0_1060 v4_1105 (gt v0_1060 v1_1061))) false) rfl rfl rfl rfl rfl rfl rfl (.rowsM (f := api_Timer.cells) (xs := v0_1060) (y := (gt v0_1060 v1_1061)) hb1153 rfl rfl rfl rfl) rfl ?_)
          refine okG h (fun hb1154 h => ?_)
          refine DAny.take (i := 14) rfl (by kernel_rfl) [] (by kernel_rfl) (by kernel_rfl) (by kernel_rfl) rfl rfl rfl (v := V.ptr [12, 0] (0 + Int.toNat v1_1061) 0) (fun _ hz => (.idxRefL (f := api_Timer.cells) (xs := st v0_1060 v4_1105 (gt v0_1060 v1_1061)) (ys := v0_1060) rfl rfl rfl (hz _ _ rfl rfl) rfl (by simp [st]) hb1154)) ?_
          refine DAny.only (i := 15) rfl (by kernel_rfl) (.store (z := Obj.rows 2 (rws api_Timer.cells (st (st v0_1060 v4_1105 (gt v0_1060 v1_1061)) v1_1061 (gt v0_1060 v4_1105))) false) rfl rfl rfl rfl rfl rfl rfl (.rowsM (f := api_Timer.cells) (xs := st v0_1060 v4_1105 (gt v0_1060 v1_1061)) (y := (gt v0_1060 v4_1105)) hb1154 rfl rfl rfl rfl) rfl ?_)
          refine DAny.nil (by kernel_rfl) ?_
          repeat (first | refine Safe.seq ?_ | refine Safe.skip ?_ | with_reducible refine thenQ.n ?_ | with_reducible refine blockQ.n ?_)
          refine Safe.see 0 (u := V.ref [12, 0] 0 (rws api_Timer.cells (st (st v0_1060 v4_1105 (gt v0_1060 v1_1061)) v1_1061 (gt v0_1060 v4_1105))).length) rfl (.len (by simp [rws, st])) ?_
          refine Safe.see 37 (u := V.ref [12, 0] 0 (rws api_Timer.cells (st (st v0_1060 v4_1105 (gt v0_1060 v1_1061)) v1_1061 (gt v0_1060 v4_1105))).length) rfl (.len (by simp [rws, st])) ?_
          refine Safe.see 39 (u := V.ref [12, 0] 0 (rws api_Timer.cells (st (st v0_1060 v4_1105 (gt v0_1060 v1_1061)) v1_1061 (gt v0_1060 v4_1105))).length) rfl (.len (by simp [rws, st])) ?_
          refine Safe.see 41 (u := V.ref [12, 0] 0 (rws api_Timer.cells (st (st v0_1060 v4_1105 (gt v0_1060 v1_1061)) v1_1061 (gt v0_1060 v4_1105))).length) rfl (.len (by simp [rws, st])) ?_
          refine Safe.see 45 (u := V.ref [12, 0] 0 (rws api_Timer.cells (st (st v0_1060 v4_1105 (gt v0_1060 v1_1061)) v1_1061 (gt v0_1060 v4_1105))).length) rfl (.len (by simp [rws, st])) ?_
          repeat (first | refine Safe.seq ?_ | refine Safe.skip ?_ | with_reducible refine thenQ.n ?_ | with_reducible refine blockQ.n ?_)
          refine Safe.region ?_
          refine SafeOps.quiet0 E_good rfl rfl rfl (v := V.int .i64 v4_1105) (.fn rfl) ?_
          refine SafeOps.quiet0 E_good rfl rfl rfl (v := V.int .i64 v4_1105) (.fn rfl) ?_
          refine SafeOps.nil ?_
          repeat (first | refine Safe.seq ?_ | refine Safe.skip ?_ | with_reducible refine thenQ.n ?_ | with_reducible refine blockQ.n ?_)
          exact ⟨_, next_out h, (.cov ⟨rfl, rfl, (upT_cons (.refl _) (upT_cons (.refl _) upT_nil)), (upOb_cons rfl (.refl _) upOb_nil), (upOut_cons rfl (upT_cons (.len (by simp [rws, st])) (upT_cons (.refl _) upT_nil)) (upOut_cons rfl upT_nil upOut_nil)), rfl⟩)⟩
    · skip
      refine Safe.condN rfl hc943 ?_
      repeat (first | refine Safe.seq ?_ | refine Safe.skip ?_ | with_reducible refine thenQ.n ?_ | with_reducible refine blockQ.n ?_)
      refine Safe.region ?_
      refine SafeOps.quiet0 E_good rfl rfl rfl (v := V.ref [12, 0] 0 (rws api_Timer.cells (sub (st x_935 x_936 (gt x_935 (IntKind.i64.wrap ((x_935.length : Int) - 1)))) 0 (IntKind.i64.wrap ((x_935.length : Int) - 1)))).length) (.fn rfl) ?_
      refine SafeOps.quiet0 E_good rfl rfl rfl (v := V.ref [12, 0] 0 (rws api_Timer.cells (sub (st x_935 x_936 (gt x_935 (IntKind.i64.wrap ((x_935.length : Int) - 1)))) 0 (IntKind.i64.wrap ((x_935.length : Int) - 1)))).length) (.fn rfl) ?_
      refine SafeOps.nil ?_
      repeat (first | refine Safe.seq ?_ | refine Safe.skip ?_ | with_reducible refine thenQ.n ?_ | with_reducible refine blockQ.n ?_)
      refine Safe.ret ?_
      repeat (first | with_reducible refine thenQ.r ?_ | with_reducible refine blockQ.r ?_)
      refine inQ.gen (vs := [V.ref [12, 0] 0 (rws api_Timer.cells (sub (st x_935 x_936 (gt x_935 (IntKind.i64.wrap ((x_935.length : Int) - 1)))) 0 (IntKind.i64.wrap ((x_935.length : Int) - 1)))).length]) (v := V.ref [12, 0] 0 (rws api_Timer.cells (sub (st x_935 x_936 (gt x_935 (IntKind.i64.wrap ((x_935.length : Int) - 1)))) 0 (IntKind.i64.wrap ((x_935.length : Int) - 1)))).length) (.inr rfl) rfl (.tmp (v := V.ref [12, 0] 0 (rws api_Timer.cells (sub (st x_935 x_936 (gt x_935 (IntKind.i64.wrap ((x_935.length : Int) - 1)))) 0 (IntKind.i64.wrap ((x_935.length : Int) - 1)))).length) rfl .nil) rfl ?_
      refine SafeOps.quiet0 E_good rfl rfl rfl (v := V.ref [12, 0] 0 (rws api_Timer.cells (sub (st x_935 x_936 (gt x_935 (IntKind.i64.wrap ((x_935.length : Int) - 1)))) 0 (IntKind.i64.wrap ((x_935.length : Int) - 1)))).length) (.fn rfl) ?_
      refine SafeOps.quiet0 E_good rfl rfl rfl (v := V.int .i64 0) (.fn rfl) ?_
      refine SafeOps.nil ?_
      repeat (first | refine Safe.seq ?_ | refine Safe.skip ?_ | with_reducible refine thenQ.n ?_ | with_reducible refine blockQ.n ?_)
      refine Safe.ret ?_
      repeat (first | with_reducible refine thenQ.r ?_ | with_reducible refine blockQ.r ?_)
      obtain rfl := Option.some.inj h
      exact retQ.gen (vs := [V.ref [12, 0] 0 (rws api_Timer.cells (sub (st x_935 x_936 (gt x_935 (IntKind.i64.wrap ((x_935.length : Int) - 1)))) 0 (IntKind.i64.wrap ((x_935.length : Int) - 1)))).length, V.int .i64 0]) rfl (.tmp (v := V.ref [12, 0] 0 (rws api_Timer.cells (sub (st x_935 x_936 (gt x_935 (IntKind.i64.wrap ((x_935.length : Int) - 1)))) 0 (IntKind.i64.wrap ((x_935.length : Int) - 1)))).length) rfl (.tmp (v := V.int .i64 0) rfl .nil)) (by exact (.tup (.cons (.own rfl rfl) (.cons (.free rfl) .nil)))) (by simp) (.inr rfl)

noncomputable def go_ravelref08_Cancel_s1 (a1_1159 : Int) (x_1191 : List api_Timer) : ((List api_Timer) × Int) → Option (((List api_Timer) × Int) ⊕ ((List api_Timer) × Int))
  | (v6_1203, v19_1204) =>
    if (decide (v19_1204 < (x_1191.length : Int))) = true then
      if 0 ≤ v19_1204 ∧ v19_1204 < (x_1191.length : Int) then
        if (((gt x_1191 v19_1204).Id) != a1_1159) = true then
          if few (v6_1203 ++ [(gt x_1191 v19_1204)]).length then
            nextO (v6_1203 ++ [(gt x_1191 v19_1204)], IntKind.i64.wrap (v19_1204 + 1))
          else none
        else
          nextO (v6_1203, IntKind.i64.wrap (v19_1204 + 1))
      else none
    else
      inrO (
        some (v6_1203, 0))

noncomputable def go_ravelref08_Cancel (a0_1158 : List api_Timer) (a1_1159 : Int) : Option ((List api_Timer) × Int) :=
  (go_ravelref08_Check a0_1158).bind fun x_1185 =>
  if (x_1185 != 0) = true then
    some ([], 1)
  else
    (go_ravelref08_at a0_1158 a1_1159).bind fun x_1188 =>
    if (decide (x_1188 < 0)) = true then
      some ([], 5)
    else
      (go_ravelref08_Order a0_1158).bind fun x_1191 =>
      whileO (go_ravelref08_Cancel_s1 a1_1159 x_1191) ([], 0)

theorem okT24 : (eqOk Try.prog E 20 24 && !Try.prog.eqGuardType Try.prog.depth 24) = true := by kernel_rfl

noncomputable def go_ravelref08_SameList_s1 (a0_1735 : List api_Timer) (a1_1736 : List api_Timer) : (Int) → Option ((Int) ⊕ (Bool))
  | v13_1765 =>
    if (decide (v13_1765 < (a0_1735.length : Int))) = true then
      if 0 ≤ v13_1765 ∧ v13_1765 < (a0_1735.length : Int) then
        if 0 ≤ v13_1765 ∧ v13_1765 < (a1_1736.length : Int) then
          if (!(api_Timer.beq (gt a0_1735 v13_1765) (gt a1_1736 v13_1765))) = true then
            inrO (
              some false)
          else
            nextO (IntKind.i64.wrap (v13_1765 + 1))
        else none
      else none
    else
      inrO (
        some true)

noncomputable def go_ravelref08_SameList (a0_1735 : List api_Timer) (a1_1736 : List api_Timer) : Option Bool :=
  if ((a0_1735.length : Int) != (a1_1736.length : Int)) = true then
    some false
  else
    whileO (go_ravelref08_SameList_s1 a0_1735 a1_1736) 0

noncomputable def go_ravelref08_Same (a0_1729 : List api_Timer) (a1_1730 : List api_Timer) : Option Bool :=
  (go_ravelref08_Order a0_1729).bind fun x_1773 =>
  (go_ravelref08_Order a1_1730).bind fun x_1775 =>
  (go_ravelref08_SameList x_1773 x_1775).bind fun x_1777 =>
  some x_1777

noncomputable def go_ravellaw08_fits (a0_1709 : List api_Timer) (a1_1710 : Int) (a2_1711 : List api_Timer) (a3_1712 : Int) : Option Bool :=
  if ((a1_1710 != 0) || (a3_1712 != 0)) = true then
    some ((a1_1710 == a3_1712) && ((a0_1709.length : Int) == 0))
  else
    (go_ravelref08_Check a0_1709).bind fun x_1787 =>
    if (x_1787 == 0) = true then
      (go_ravelref08_Same a0_1709 a2_1711).bind fun x_1792 =>
      some x_1792
    else
      some false

noncomputable def go_heap_Sorted_s1 (a0_1922 : List api_Timer) : (Int × (List api_Timer)) → Option ((Int × (List api_Timer)) ⊕ ((List api_Timer) × Int))
  | (v7_1953, v12_7_4_20_1954) =>
    if (decide (v7_1953 < (a0_1922.length : Int))) = true then
      if 0 ≤ v7_1953 ∧ v7_1953 < (a0_1922.length : Int) then
        if few (v12_7_4_20_1954 ++ [(gt a0_1922 v7_1953)]).length then
          nextO (IntKind.i64.wrap (v7_1953 + 1), v12_7_4_20_1954 ++ [(gt a0_1922 v7_1953)])
        else none
      else none
    else
      inrO (
        (sortO go_heap_order v12_7_4_20_1954).bind fun s_1959 =>
        some (s_1959, 0))

noncomputable def go_heap_Sorted (a0_1922 : List api_Timer) : Option ((List api_Timer) × Int) :=
  (go_heap_Check a0_1922).bind fun x_1942 =>
  if (x_1942 != 0) = true then
    some ([], x_1942)
  else
    whileO (go_heap_Sorted_s1 a0_1922) (0, [])

theorem go_heap_Sorted_sc (a0_1922 : List api_Timer) (r : (List api_Timer) × Int) (h : go_heap_Sorted a0_1922 = some r) : SC Try.prog gl 22 [V.sl 2 (rws api_Timer.cells a0_1922)] (V.tup [V.own 2 (rws api_Timer.cells r.1), V.int .i64 r.2]) := by
  rw [go_heap_Sorted] at h
  refine SC.of E_good Try.func22 rfl (fun _ _ => Try.call22 _ _) rfl ?_
  repeat (first | refine Safe.seq ?_ | refine Safe.skip ?_ | with_reducible refine thenQ.n ?_ | with_reducible refine blockQ.n ?_)
  refine Safe.region ?_
  refine SafeOps.quiet0 E_good rfl rfl rfl (v := V.nils) (.fn rfl) ?_
  refine SafeOps.quiet0 E_good rfl rfl rfl (v := V.int .i64 0) (.fn rfl) ?_
  refine SafeOps.nil ?_
  repeat (first | refine Safe.seq ?_ | refine Safe.skip ?_ | with_reducible refine thenQ.n ?_ | with_reducible refine blockQ.n ?_)
  refine Safe.region ?_
  refine SafeOps.quiet0 E_good rfl rfl rfl (v := V.sl 2 (rws api_Timer.cells a0_1922)) (.fn rfl) ?_
  refine bindG h ?_
  intro x_1942 he1943 h
  refine SafeOps.quiet0 E_good rfl rfl rfl (v := V.int .i64 x_1942) (.callP rfl rfl (go_heap_Check_sc a0_1922 _ he1943) rfl) ?_
  refine SafeOps.quiet0 E_good rfl rfl rfl (v := V.int .i64 x_1942) (.fn rfl) ?_
  refine SafeOps.nil ?_
  repeat (first | refine Safe.seq ?_ | refine Safe.skip ?_ | with_reducible refine thenQ.n ?_ | with_reducible refine blockQ.n ?_)
  refine Safe.region ?_
  refine SafeOps.quiet0 E_good rfl rfl rfl (v := V.int .i64 x_1942) (.fn rfl) ?_
  refine SafeOps.quiet0 E_good rfl rfl rfl (v := V.bool (x_1942 != 0)) (.fn rfl) ?_
  refine SafeOps.nil ?_
  repeat (first | refine Safe.seq ?_ | refine Safe.skip ?_ | with_reducible refine thenQ.n ?_ | with_reducible refine blockQ.n ?_)
  refine ifG h (fun hc1944 h => ?_) (fun hc1944 h => ?_)
  · skip
    refine Safe.condK rfl hc1944 ?_
    repeat (first | refine Safe.seq ?_ | refine Safe.skip ?_ | with_reducible refine thenQ.n ?_ | with_reducible refine blockQ.n ?_)
    refine Safe.region ?_
    refine SafeOps.quiet0 E_good rfl rfl rfl (v := V.int .i64 x_1942) (.fn rfl) ?_
    refine SafeOps.quiet0 E_good rfl rfl rfl (v := V.nils) (.fn rfl) ?_
    refine SafeOps.quiet0 E_good rfl rfl rfl (v := V.int .i64 x_1942) (.fn rfl) ?_
    refine SafeOps.nil ?_
    repeat (first | refine Safe.seq ?_ | refine Safe.skip ?_ | with_reducible refine thenQ.n ?_ | with_reducible refine blockQ.n ?_)
    refine Safe.ret ?_
    repeat (first | with_reducible refine thenQ.r ?_ | with_reducible refine blockQ.r ?_)
    obtain rfl := Option.some.inj h
    exact retQ.gen (vs := [V.nils, V.int .i64 x_1942]) rfl (.tmp (v := V.nils) rfl (.tmp (v := V.int .i64 x_1942) rfl .nil)) (by exact (.tup (.cons (.nils _) (.cons (.free rfl) .nil)))) (by simp) (.inr rfl)
  · skip
    refine Safe.condN rfl hc1944 ?_
    repeat (first | refine Safe.seq ?_ | refine Safe.skip ?_ | with_reducible refine thenQ.n ?_ | with_reducible refine blockQ.n ?_)
    refine Safe.region ?_
    refine SafeOps.quiet0 E_good rfl rfl rfl (v := V.sl 2 (rws api_Timer.cells a0_1922)) (.fn rfl) ?_
    refine SafeOps.inline E_good rfl rfl rfl rfl rfl Try.func43 rfl (fun _ _ => Try.call43 _ _) rfl ?_
    repeat (first | refine Safe.seq ?_ | refine Safe.skip ?_ | with_reducible refine thenQ.n ?_ | with_reducible refine blockQ.n ?_)
    refine Safe.region ?_
    refine SafeOps.quiet1 E_good rfl rfl rfl (.box rfl rfl) rfl ?_
    refine SafeOps.quiet0 E_good rfl rfl rfl (v := V.nilf) (.fn rfl) ?_
    refine SafeOps.nil ?_
    repeat (first | refine Safe.seq ?_ | refine Safe.skip ?_ | with_reducible refine thenQ.n ?_ | with_reducible refine blockQ.n ?_)
    refine Safe.region ?_
    refine SafeOps.quiet0 E_good rfl rfl rfl (v := V.fn 51 [V.ptr [11, 1] 0 0]) (.fn rfl) ?_
    refine SafeOps.quiet0 E_good rfl rfl rfl (v := V.fn 51 [V.ptr [11, 1] 0 0]) (.fn rfl) ?_
    refine SafeOps.nil ?_
    repeat (first | refine Safe.seq ?_ | refine Safe.skip ?_ | with_reducible refine thenQ.n ?_ | with_reducible refine blockQ.n ?_)
    refine Safe.ret ?_
    repeat (first | with_reducible refine thenQ.r ?_ | with_reducible refine blockQ.r ?_)
    refine inQ.gen (vs := [V.fn 51 [V.ptr [11, 1] 0 0]]) (v := V.fn 51 [V.ptr [11, 1] 0 0]) (.inr rfl) rfl (.tmp (v := V.fn 51 [V.ptr [11, 1] 0 0]) rfl .nil) rfl ?_
    refine SafeOps.inline E_good rfl rfl rfl rfl rfl Try.func42 rfl (fun _ _ => Try.call42 _ _) rfl ?_
    repeat (first | refine Safe.seq ?_ | refine Safe.skip ?_ | with_reducible refine thenQ.n ?_ | with_reducible refine blockQ.n ?_)
    refine Safe.region ?_
    refine SafeOps.quiet0 E_good rfl rfl rfl (v := V.nils) (.fn rfl) ?_
    refine SafeOps.nil ?_
    repeat (first | refine Safe.seq ?_ | refine Safe.skip ?_ | with_reducible refine thenQ.n ?_ | with_reducible refine blockQ.n ?_)
    refine Safe.region ?_
    refine SafeOps.quiet0 E_good rfl rfl rfl (v := V.fn 51 [V.ptr [11, 1] 0 0]) (.fn rfl) ?_
    refine SafeOps.inline E_good rfl rfl rfl rfl rfl Try.func49 rfl (fun _ _ => Try.call49 _ _) rfl ?_
    repeat (first | refine Safe.seq ?_ | refine Safe.skip ?_ | with_reducible refine thenQ.n ?_ | with_reducible refine blockQ.n ?_)
    refine Safe.region ?_
    refine SafeOps.quiet0 E_good rfl rfl rfl (v := V.nils) (.fn rfl) ?_
    refine SafeOps.nil ?_
    repeat (first | refine Safe.seq ?_ | refine Safe.skip ?_ | with_reducible refine thenQ.n ?_ | with_reducible refine blockQ.n ?_)
    refine Safe.region ?_
    refine SafeOps.quiet0 E_good rfl rfl rfl (v := V.fn 51 [V.ptr [11, 1] 0 0]) (.fn rfl) ?_
    refine SafeOps.inline E_good rfl rfl rfl rfl rfl Try.func53 rfl (fun _ _ => Try.call53 _ _) rfl ?_
    repeat (first | refine Safe.seq ?_ | refine Safe.skip ?_ | with_reducible refine thenQ.n ?_ | with_reducible refine blockQ.n ?_)
    refine Safe.region ?_
    refine SafeOps.quiet1 E_good rfl rfl rfl (.box rfl rfl) rfl ?_
    refine SafeOps.quiet0 E_good rfl rfl rfl (v := V.nils) (.fn rfl) ?_
    refine SafeOps.nil ?_
    repeat (first | refine Safe.seq ?_ | refine Safe.skip ?_ | with_reducible refine thenQ.n ?_ | with_reducible refine blockQ.n ?_)
    refine Safe.region ?_
    refine SafeOps.quiet0 E_good rfl rfl rfl (v := V.fn 51 [V.ptr [11, 1] 0 0]) (.fn rfl) ?_
    refine SafeOps.nil ?_
    repeat (first | refine Safe.seq ?_ | refine Safe.skip ?_ | with_reducible refine thenQ.n ?_ | with_reducible refine blockQ.n ?_)
    refine Safe.block ?_
    repeat (first | refine Safe.seq ?_ | refine Safe.skip ?_ | with_reducible refine thenQ.n ?_ | with_reducible refine blockQ.n ?_)
    refine Safe.rangeFunc (k := 9007) rfl rfl Try.func51 rfl (fun _ _ => Try.call51 _ _) rfl rfl rfl ?_
    repeat (first | refine Safe.seq ?_ | refine Safe.skip ?_ | with_reducible refine thenQ.n ?_ | with_reducible refine blockQ.n ?_)
    refine Safe.region ?_
    refine SafeOps.quiet0 E_good rfl rfl rfl (v := V.sl 2 (rws api_Timer.cells a0_1922)) (.load rfl rfl (.box rfl rfl) rfl) ?_
    refine SafeOps.quiet0 E_good rfl rfl rfl (v := V.int .i64 (a0_1922.length : Int)) (.fnE rfl lenE) ?_
    refine SafeOps.quiet0 E_good rfl rfl rfl (v := V.int .i64 0) (.fn rfl) ?_
    refine SafeOps.nil ?_
    repeat (first | refine Safe.seq ?_ | refine Safe.skip ?_ | with_reducible refine thenQ.n ?_ | with_reducible refine blockQ.n ?_)
    refine Safe.block ?_
    repeat (first | refine Safe.seq ?_ | refine Safe.skip ?_ | with_reducible refine thenQ.n ?_ | with_reducible refine blockQ.n ?_)
    refine Safe.loopW (fun ((v7_1953, v12_7_4_20_1954) : Int × (List api_Timer)) => ⟨Try.f51.ntmps, [(0, V.yld [12, 7, 4, 9007]), (5, V.sl 2 (rws api_Timer.cells a0_1922)), (6, V.int .i64 (a0_1922.length : Int)), (7, V.int .i64 v7_1953)], [([12, 7, 4, 2], Obj.box [V.ref [7000, 114, 12, 7, 4, 2, 0] 0 (rws api_Timer.cells v12_7_4_20_1954).length]), ([12, 7, 4, 9007], Go.AM.Obj.loop Try.f53.ntmps [(2, V.ptr [12, 7, 4, 2] 0 0)] [7] (rfA Try.f53 0) (rfB Try.f53 0) .ready none), ([7000, 114, 12, 7, 4, 2, 0], Obj.rows 2 (rws api_Timer.cells v12_7_4_20_1954) false)], [(1, [(0, V.yld [12, 7, 4, 9007])]), (Try.f53.ntmps, [(2, V.ptr [12, 7, 4, 2] 0 0)]), (Try.f49.ntmps, []), (Try.f42.ntmps, [(1, V.fn 41 [])]), (Try.f22.ntmps, [])], [12, 7, 4, 9007, 0]⟩) h (.empty [7000, 114, 12, 7, 4, 2, 0] 2 rfl (.cov ⟨rfl, rfl, (upT_cons (.refl _) (upT_cons (.refl _) (upT_cons (.refl _) (upT_cons (.refl _) upT_nil)))), (upOb_cons rfl (.box (.cons (.nilref _) .nil)) (upOb_cons rfl (by exact .loop (upT_cons (.refl _) upT_nil)) (upOb_cons rfl (.refl _) upOb_nil))), (upOut_cons rfl (upT_cons (.refl _) upT_nil) (upOut_cons rfl (upT_cons (.refl _) upT_nil) (upOut_cons rfl upT_nil (upOut_cons rfl (upT_cons (.refl _) upT_nil) (upOut_cons rfl upT_nil upOut_nil))))), rfl⟩)) ?_
    rintro ⟨v7_1953, v12_7_4_20_1954⟩ ohr1955 h hr1955
    replace h : go_heap_Sorted_s1 a0_1922 (v7_1953, v12_7_4_20_1954) = some ohr1955 := h
    rw [go_heap_Sorted_s1] at h
    repeat (first | refine Safe.seq ?_ | refine Safe.skip ?_ | with_reducible refine thenQ.n ?_ | with_reducible refine blockQ.n ?_)
    refine Safe.region ?_
    refine SafeOps.quiet0 E_good rfl rfl rfl (v := V.bool (decide (v7_1953 < (a0_1922.length : Int)))) (.fn rfl) ?_
    refine SafeOps.nil ?_
    repeat (first | refine Safe.seq ?_ | refine Safe.skip ?_ | with_reducible refine thenQ.n ?_ | with_reducible refine blockQ.n ?_)
    refine ifG h (fun hc1956 h => ?_) (fun hc1956 h => ?_)
    · skip
      refine Safe.condK rfl hc1956 ?_
      repeat (first | refine Safe.seq ?_ | refine Safe.skip ?_ | with_reducible refine thenQ.n ?_ | with_reducible refine blockQ.n ?_)
      refine Safe.block ?_
      repeat (first | refine Safe.seq ?_ | refine Safe.skip ?_ | with_reducible refine thenQ.n ?_ | with_reducible refine blockQ.n ?_)
      refine Safe.region ?_
      refine okG h (fun hb1957 h => ?_)
      refine SafeOps.quiet0 E_good rfl rfl rfl (v := V.spt 2 (rws api_Timer.cells a0_1922) (Int.toNat v7_1953) 0) (.idxSlM (f := api_Timer.cells) rfl rfl rfl rfl rfl hb1957) ?_
      refine SafeOps.quiet0 E_good rfl rfl rfl (v := V.agg [V.int .i64 ((gt a0_1922 v7_1953).At), V.int .i64 ((gt a0_1922 v7_1953).Id)]) (.load rfl rfl (.sptM (f := api_Timer.cells) hb1957 rfl) rfl) ?_
      refine SafeOps.quiet1 E_good rfl rfl rfl (.alloc rfl rfl) rfl ?_
      refine SafeOps.store (z := Obj.box [V.int .i64 ((gt a0_1922 v7_1953).At), V.int .i64 ((gt a0_1922 v7_1953).Id)]) E_good rfl rfl rfl rfl rfl rfl rfl (.boxM (c := 2) rfl rfl (Nat.le_of_ble_eq_true rfl) rfl) ?_
      refine SafeOps.nil ?_
      repeat (first | refine Safe.seq ?_ | refine Safe.skip ?_ | with_reducible refine thenQ.n ?_ | with_reducible refine blockQ.n ?_)
      refine Safe.region ?_
      refine SafeOps.quiet0 E_good rfl rfl rfl (v := V.yld [12, 7, 4, 9007]) (.fn rfl) ?_
      refine SafeOps.quiet0 E_good rfl rfl rfl (v := V.agg [V.int .i64 ((gt a0_1922 v7_1953).At), V.int .i64 ((gt a0_1922 v7_1953).Id)]) (.load rfl rfl (.box rfl rfl) rfl) ?_
      refine SafeOps.yield rfl rfl rfl rfl rfl rfl rfl rfl ?_
      repeat (first | refine Safe.seq ?_ | refine Safe.skip ?_ | with_reducible refine thenQ.n ?_ | with_reducible refine blockQ.n ?_)
      refine Safe.region ?_
      refine SafeOps.quiet1 E_good rfl rfl rfl (.alloc rfl rfl) rfl ?_
      refine SafeOps.store (z := Obj.box [V.int .i64 ((gt a0_1922 v7_1953).At), V.int .i64 ((gt a0_1922 v7_1953).Id)]) E_good rfl rfl rfl rfl rfl rfl rfl (.boxM (c := 2) rfl rfl (Nat.le_of_ble_eq_true rfl) rfl) ?_
      refine SafeOps.nil ?_
      repeat (first | refine Safe.seq ?_ | refine Safe.skip ?_ | with_reducible refine thenQ.n ?_ | with_reducible refine blockQ.n ?_)
      refine asgQ.go rfl rfl ?_
      repeat (first | refine Safe.seq ?_ | refine Safe.skip ?_ | with_reducible refine thenQ.n ?_ | with_reducible refine blockQ.n ?_)
      refine Safe.block ?_
      repeat (first | refine Safe.seq ?_ | refine Safe.skip ?_ | with_reducible refine thenQ.n ?_ | with_reducible refine blockQ.n ?_)
      refine Safe.region ?_
      refine SafeOps.quiet0 E_good rfl rfl rfl (v := V.ref [7000, 114, 12, 7, 4, 2, 0] 0 (rws api_Timer.cells v12_7_4_20_1954).length) (.load rfl rfl (.box rfl rfl) rfl) ?_
      refine SafeOps.quiet0 E_good rfl rfl rfl (v := V.agg [V.int .i64 ((gt a0_1922 v7_1953).At), V.int .i64 ((gt a0_1922 v7_1953).Id)]) (.load rfl rfl (.box rfl rfl) rfl) ?_
      refine SafeOps.quiet1 E_good rfl rfl rfl (.litM (f := api_Timer.cells) (xs := [(gt a0_1922 v7_1953)]) rfl rfl (by decide) rfl rfl rfl rfl rfl) rfl ?_
      refine okG h (fun hb1958 h => ?_)
      refine SafeOps.appendM api_Timer.cells (xs := v12_7_4_20_1954) (ys := [(gt a0_1922 v7_1953)]) E_good rfl rfl rfl rfl rfl rfl rfl rfl rfl (.own rfl) (.own rfl) (fun _ => rfl) hb1958 ?_
      refine SafeOps.store (z := Obj.box [V.ref [12, 7, 4, 9007, 0, 13, 11] 0 (rws api_Timer.cells (v12_7_4_20_1954 ++ [(gt a0_1922 v7_1953)])).length]) E_good rfl rfl rfl rfl rfl rfl rfl (.boxM (c := 1) rfl rfl (Nat.le_of_ble_eq_true rfl) rfl) ?_
      refine SafeOps.nil ?_
      repeat (first | refine Safe.seq ?_ | refine Safe.skip ?_ | with_reducible refine thenQ.n ?_ | with_reducible refine blockQ.n ?_)
      refine roundQ.go rfl rfl rfl rfl rfl ?_
      refine SafeOps.quiet0 E_good rfl rfl rfl (v := V.bool false) (.fn rfl) ?_
      refine SafeOps.nil ?_
      repeat (first | refine Safe.seq ?_ | refine Safe.skip ?_ | with_reducible refine thenQ.n ?_ | with_reducible refine blockQ.n ?_)
      refine Safe.condN rfl rfl ?_
      repeat (first | refine Safe.seq ?_ | refine Safe.skip ?_ | with_reducible refine thenQ.n ?_ | with_reducible refine blockQ.n ?_)
      refine Safe.region ?_
      refine SafeOps.quiet0 E_good rfl rfl rfl (v := V.int .i64 (IntKind.i64.wrap (v7_1953 + 1))) (.fn rfl) ?_
      refine SafeOps.quiet0 E_good rfl rfl rfl (v := V.int .i64 (IntKind.i64.wrap (v7_1953 + 1))) (.fn rfl) ?_
      refine SafeOps.nil ?_
      repeat (first | refine Safe.seq ?_ | refine Safe.skip ?_ | with_reducible refine thenQ.n ?_ | with_reducible refine blockQ.n ?_)
      exact ⟨_, next_out h, (.ren [12, 7, 4, 9007, 0, 13, 11] [7000, 114, 12, 7, 4, 2, 0] (.cov ⟨rfl, rfl, (upT_cons (.refl _) (upT_cons (.refl _) (upT_cons (.refl _) (upT_cons (.refl _) upT_nil)))), (upOb_cons rfl (.refl _) (upOb_cons rfl (by exact .loop (upT_cons (.refl _) upT_nil)) (upOb_cons rfl (.refl _) upOb_nil))), (upOut_cons rfl (upT_cons (.refl _) upT_nil) (upOut_cons rfl (upT_cons (.refl _) upT_nil) (upOut_cons rfl upT_nil (upOut_cons rfl (upT_cons (.refl _) upT_nil) (upOut_cons rfl upT_nil upOut_nil))))), rfl⟩))⟩
    · skip
      refine Safe.condN rfl hc1956 ?_
      repeat (first | refine Safe.seq ?_ | refine Safe.skip ?_ | with_reducible refine thenQ.n ?_ | with_reducible refine blockQ.n ?_)
      refine Safe.exit ?_
      repeat (first | with_reducible refine thenQ.e ?_ | with_reducible refine blockQ.x rfl ?_ | with_reducible refine blockQ.y rfl ?_)
      replace h := inr_out h hr1955
      repeat (first | refine Safe.seq ?_ | refine Safe.skip ?_ | with_reducible refine thenQ.n ?_ | with_reducible refine blockQ.n ?_)
      refine rfQ.n (.inl rfl) rfl rfl (fun hbusy => by cases hbusy) ?_
      repeat (first | refine Safe.seq ?_ | refine Safe.skip ?_ | with_reducible refine thenQ.n ?_ | with_reducible refine blockQ.n ?_)
      refine Safe.region ?_
      refine SafeOps.quiet0 E_good rfl rfl rfl (v := V.ref [7000, 114, 12, 7, 4, 2, 0] 0 (rws api_Timer.cells v12_7_4_20_1954).length) (.load rfl rfl (.box rfl rfl) rfl) ?_
      refine SafeOps.quiet0 E_good rfl rfl rfl (v := V.ref [7000, 114, 12, 7, 4, 2, 0] 0 (rws api_Timer.cells v12_7_4_20_1954).length) (.fn rfl) ?_
      refine SafeOps.nil ?_
      repeat (first | refine Safe.seq ?_ | refine Safe.skip ?_ | with_reducible refine thenQ.n ?_ | with_reducible refine blockQ.n ?_)
      refine Safe.ret ?_
      repeat (first | with_reducible refine thenQ.r ?_ | with_reducible refine blockQ.r ?_)
      refine inQ.gen (vs := [V.ref [7000, 114, 12, 7, 4, 2, 0] 0 (rws api_Timer.cells v12_7_4_20_1954).length]) (v := V.ref [7000, 114, 12, 7, 4, 2, 0] 0 (rws api_Timer.cells v12_7_4_20_1954).length) (.inr rfl) rfl (.tmp (v := V.ref [7000, 114, 12, 7, 4, 2, 0] 0 (rws api_Timer.cells v12_7_4_20_1954).length) rfl .nil) rfl ?_
      refine SafeOps.quiet0 E_good rfl rfl rfl (v := V.ref [7000, 114, 12, 7, 4, 2, 0] 0 (rws api_Timer.cells v12_7_4_20_1954).length) (.fn rfl) ?_
      refine SafeOps.nil ?_
      repeat (first | refine Safe.seq ?_ | refine Safe.skip ?_ | with_reducible refine thenQ.n ?_ | with_reducible refine blockQ.n ?_)
      refine Safe.ret ?_
      repeat (first | with_reducible refine thenQ.r ?_ | with_reducible refine blockQ.r ?_)
      refine inQ.gen (vs := [V.ref [7000, 114, 12, 7, 4, 2, 0] 0 (rws api_Timer.cells v12_7_4_20_1954).length]) (v := V.ref [7000, 114, 12, 7, 4, 2, 0] 0 (rws api_Timer.cells v12_7_4_20_1954).length) (.inr rfl) rfl (.tmp (v := V.ref [7000, 114, 12, 7, 4, 2, 0] 0 (rws api_Timer.cells v12_7_4_20_1954).length) rfl .nil) rfl ?_
      refine SafeOps.quiet0 E_good rfl rfl rfl (v := V.ref [7000, 114, 12, 7, 4, 2, 0] 0 (rws api_Timer.cells v12_7_4_20_1954).length) (.fn rfl) ?_
      refine SafeOps.nil ?_
      repeat (first | refine Safe.seq ?_ | refine Safe.skip ?_ | with_reducible refine thenQ.n ?_ | with_reducible refine blockQ.n ?_)
      refine Safe.region ?_
      refine SafeOps.quiet0 E_good rfl rfl rfl (v := V.ref [7000, 114, 12, 7, 4, 2, 0] 0 (rws api_Timer.cells v12_7_4_20_1954).length) (.fn rfl) ?_
      refine SafeOps.quiet0 E_good rfl rfl rfl (v := V.fn 41 []) (.fn rfl) ?_
      refine bindG h ?_
      intro s_1959 he1960 h
      refine SafeOps.sort api_Timer.cells E_good sortL50 rfl rfl rfl rfl rfl rfl rfl rfl rfl rfl rfl rfl rfl (fun _ => rfl) (fun _ => rfl) (fun _ _ => Try.call41 _ _) (fun a b v hv => go_heap_order_sc a b v hv) he1960 ?_
      refine SafeOps.see 7 (u := V.ref [7000, 114, 12, 7, 4, 2, 0] 0 (rws api_Timer.cells s_1959).length) rfl (.len (by rw [rws_len, rws_len]; first | exact sortO_len he1960 | exact (sortO_len he1960).symm)) ?_
      refine SafeOps.see 5 (u := V.ref [7000, 114, 12, 7, 4, 2, 0] 0 (rws api_Timer.cells s_1959).length) rfl (.len (by rw [rws_len, rws_len]; first | exact sortO_len he1960 | exact (sortO_len he1960).symm)) ?_
      refine SafeOps.see 8 (u := V.ref [7000, 114, 12, 7, 4, 2, 0] 0 (rws api_Timer.cells s_1959).length) rfl (.len (by rw [rws_len, rws_len]; first | exact sortO_len he1960 | exact (sortO_len he1960).symm)) ?_
      refine SafeOps.nil ?_
      repeat (first | refine Safe.seq ?_ | refine Safe.skip ?_ | with_reducible refine thenQ.n ?_ | with_reducible refine blockQ.n ?_)
      refine Safe.region ?_
      refine SafeOps.quiet0 E_good rfl rfl rfl (v := V.ref [7000, 114, 12, 7, 4, 2, 0] 0 (rws api_Timer.cells s_1959).length) (.fn rfl) ?_
      refine SafeOps.quiet0 E_good rfl rfl rfl (v := V.ref [7000, 114, 12, 7, 4, 2, 0] 0 (rws api_Timer.cells s_1959).length) (.fn rfl) ?_
      refine SafeOps.nil ?_
      repeat (first | refine Safe.seq ?_ | refine Safe.skip ?_ | with_reducible refine thenQ.n ?_ | with_reducible refine blockQ.n ?_)
      refine Safe.ret ?_
      repeat (first | with_reducible refine thenQ.r ?_ | with_reducible refine blockQ.r ?_)
      refine inQ.gen (vs := [V.ref [7000, 114, 12, 7, 4, 2, 0] 0 (rws api_Timer.cells s_1959).length]) (v := V.ref [7000, 114, 12, 7, 4, 2, 0] 0 (rws api_Timer.cells s_1959).length) (.inr rfl) rfl (.tmp (v := V.ref [7000, 114, 12, 7, 4, 2, 0] 0 (rws api_Timer.cells s_1959).length) rfl .nil) rfl ?_
      refine SafeOps.quiet0 E_good rfl rfl rfl (v := V.ref [7000, 114, 12, 7, 4, 2, 0] 0 (rws api_Timer.cells s_1959).length) (.fn rfl) ?_
      refine SafeOps.quiet0 E_good rfl rfl rfl (v := V.int .i64 0) (.fn rfl) ?_
      refine SafeOps.nil ?_
      repeat (first | refine Safe.seq ?_ | refine Safe.skip ?_ | with_reducible refine thenQ.n ?_ | with_reducible refine blockQ.n ?_)
      refine Safe.ret ?_
      repeat (first | with_reducible refine thenQ.r ?_ | with_reducible refine blockQ.r ?_)
      obtain rfl := Option.some.inj h
      exact retQ.gen (vs := [V.ref [7000, 114, 12, 7, 4, 2, 0] 0 (rws api_Timer.cells s_1959).length, V.int .i64 0]) rfl (.tmp (v := V.ref [7000, 114, 12, 7, 4, 2, 0] 0 (rws api_Timer.cells s_1959).length) rfl (.tmp (v := V.int .i64 0) rfl .nil)) (by exact (.tup (.cons (.own rfl rfl) (.cons (.free rfl) .nil)))) (by simp) (.inr rfl)
end Go.Proofs.Ytbcapidhhbkkcaa
