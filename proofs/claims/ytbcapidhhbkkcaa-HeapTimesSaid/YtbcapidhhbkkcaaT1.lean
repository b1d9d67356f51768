/- Helper lemmas for the claim's theorem: an abstract machine over the model, proved sound; no condition beyond each lemma's own. -/
import Derived.Test.YtbcapidhhbkkcaaT0
set_option linter.unusedVariables false
set_option linter.unusedSimpArgs false
set_option linter.unnecessarySimpa false
set_option linter.unusedSectionVars false
namespace Go.Proofs.Ytbcapidhhbkkcaa
open Go Go.AM
set_option maxRecDepth 100000
set_option maxHeartbeats 1000000
set_option linter.unusedVariables false
set_option linter.unusedSimpArgs false
variable {gl : List (Nat × List V)}
noncomputable def go_heap_Cancel_s8  : ((List api_Timer) × Int) → Option (((List api_Timer) × Int) ⊕ ((List api_Timer) × Int))
  | (v0_1138, v1_1139) =>
    if (decide (v1_1139 > 0)) = true then
      if 0 ≤ (IntKind.i64.wrap (Int.tdiv (IntKind.i64.wrap (v1_1139 - 1)) 4)) ∧ (IntKind.i64.wrap (Int.tdiv (IntKind.i64.wrap (v1_1139 - 1)) 4)) < (v0_1138.length : Int) then
        if 0 ≤ v1_1139 ∧ v1_1139 < (v0_1138.length : Int) then
          (go_heap_order (gt v0_1138 (IntKind.i64.wrap (Int.tdiv (IntKind.i64.wrap (v1_1139 - 1)) 4))) (gt v0_1138 v1_1139)).bind fun x_1144 =>
          if (decide (x_1144 ≤ 0)) = true then
            inrO (
              some (v0_1138, 0))
          else
            if 0 ≤ v1_1139 ∧ v1_1139 < (v0_1138.length : Int) then
              if 0 ≤ (IntKind.i64.wrap (Int.tdiv (IntKind.i64.wrap (v1_1139 - 1)) 4)) ∧ (IntKind.i64.wrap (Int.tdiv (IntKind.i64.wrap (v1_1139 - 1)) 4)) < (v0_1138.length : Int) then
                if 0 ≤ (IntKind.i64.wrap (Int.tdiv (IntKind.i64.wrap (v1_1139 - 1)) 4)) ∧ (IntKind.i64.wrap (Int.tdiv (IntKind.i64.wrap (v1_1139 - 1)) 4)) < (v0_1138.length : Int) then
                  if 0 ≤ v1_1139 ∧ v1_1139 < ((st v0_1138 (IntKind.i64.wrap (Int.tdiv (IntKind.i64.wrap (v1_1139 - 1)) 4)) (gt v0_1138 v1_1139)).length : Int) then
                    nextO (st (st v0_1138 (IntKind.i64.wrap (Int.tdiv (IntKind.i64.wrap (v1_1139 - 1)) 4)) (gt v0_1138 v1_1139)) v1_1139 (gt v0_1138 (IntKind.i64.wrap (Int.tdiv (IntKind.i64.wrap (v1_1139 - 1)) 4))), IntKind.i64.wrap (Int.tdiv (IntKind.i64.wrap (v1_1139 - 1)) 4))
                  else none
                else none
              else none
            else none
        else none
      else none
    else
      inrO (
        some (v0_1138, 0))

noncomputable def go_heap_Cancel_s7 (x_936 : Int) (v0_1060 : List api_Timer) (v1_1061 : Int) : (Int × Int) → Option ((Int × Int) ⊕ (((List api_Timer) × Int) ⊕ ((List api_Timer) × Int)))
  | (v4_1105, v5_1106) =>
    if ((decide (v5_1106 ≤ (IntKind.i64.wrap ((IntKind.i64.wrap (4 * v1_1061)) + 4)))) && (decide (v5_1106 < (v0_1060.length : Int)))) = true then
      if 0 ≤ v5_1106 ∧ v5_1106 < (v0_1060.length : Int) then
        if 0 ≤ v4_1105 ∧ v4_1105 < (v0_1060.length : Int) then
          (go_heap_order (gt v0_1060 v5_1106) (gt v0_1060 v4_1105)).bind fun x_1112 =>
          if (decide (x_1112 < 0)) = true then
            nextO (v5_1106, IntKind.i64.wrap (v5_1106 + 1))
          else
            nextO (v4_1105, IntKind.i64.wrap (v5_1106 + 1))
        else none
      else none
    else
      inrO (
        if (v4_1105 == v1_1061) = true then
          inrO (
            whileO go_heap_Cancel_s8 (v0_1060, x_936))
        else
          if 0 ≤ v1_1061 ∧ v1_1061 < (v0_1060.length : Int) then
            if 0 ≤ v4_1105 ∧ v4_1105 < (v0_1060.length : Int) then
              if 0 ≤ v4_1105 ∧ v4_1105 < (v0_1060.length : Int) then
                if 0 ≤ v1_1061 ∧ v1_1061 < ((st v0_1060 v4_1105 (gt v0_1060 v1_1061)).length : Int) then
                  nextO (st (st v0_1060 v4_1105 (gt v0_1060 v1_1061)) v1_1061 (gt v0_1060 v4_1105), v4_1105)
                else none
              else none
            else none
          else none)

noncomputable def go_heap_Cancel_s5 (x_936 : Int) : ((List api_Timer) × Int) → Option (((List api_Timer) × Int) ⊕ ((List api_Timer) × Int))
  | (v0_1060, v1_1061) =>
    whileO (go_heap_Cancel_s7 x_936 v0_1060 v1_1061) (v1_1061, IntKind.i64.wrap ((IntKind.i64.wrap (4 * v1_1061)) + 1))

noncomputable def go_heap_Cancel (a0_699 : List api_Timer) (a1_700 : Int) : Option ((List api_Timer) × Int) :=
  (go_heap_find a0_699 a1_700).bind fun (x_935, x_936, x_937) =>
  if (x_937 != 0) = true then
    some ([], x_937)
  else
    if 0 ≤ (IntKind.i64.wrap ((x_935.length : Int) - 1)) ∧ (IntKind.i64.wrap ((x_935.length : Int) - 1)) < (x_935.length : Int) then
      if 0 ≤ x_936 ∧ x_936 < (x_935.length : Int) then
        if 0 ≤ (IntKind.i64.wrap ((x_935.length : Int) - 1)) ∧ (IntKind.i64.wrap ((x_935.length : Int) - 1)) ≤ ((st x_935 x_936 (gt x_935 (IntKind.i64.wrap ((x_935.length : Int) - 1)))).length : Int) then
          if (decide (x_936 < (IntKind.i64.wrap ((x_935.length : Int) - 1)))) = true then
            whileO (go_heap_Cancel_s5 x_936) (sub (st x_935 x_936 (gt x_935 (IntKind.i64.wrap ((x_935.length : Int) - 1)))) 0 (IntKind.i64.wrap ((x_935.length : Int) - 1)), x_936)
          else
            some (sub (st x_935 x_936 (gt x_935 (IntKind.i64.wrap ((x_935.length : Int) - 1)))) 0 (IntKind.i64.wrap ((x_935.length : Int) - 1)), 0)
        else none
      else none
    else none

theorem go_heap_Cancel_sc (a0_699 : List api_Timer) (a1_700 : Int) (r : (List api_Timer) × Int) (h : go_heap_Cancel a0_699 a1_700 = some r) : SC Try.prog gl 13 [V.sl 2 (rws api_Timer.cells a0_699), V.int .i64 a1_700] (V.tup [V.own 2 (rws api_Timer.cells r.1), V.int .i64 r.2]) := by
  rw [go_heap_Cancel] at h
  refine SC.of E_good Try.func13 rfl (fun _ _ => Try.call13 _ _) rfl ?_
  repeat (first | refine Safe.seq ?_ | refine Safe.skip ?_ | with_reducible refine thenQ.n ?_ | with_reducible refine blockQ.n ?_)
  refine Safe.region ?_
  refine SafeOps.quiet0 E_good rfl rfl rfl (v := V.nils) (.fn rfl) ?_
  refine SafeOps.quiet0 E_good rfl rfl rfl (v := V.int .i64 0) (.fn rfl) ?_
  refine SafeOps.nil ?_
  repeat (first | refine Safe.seq ?_ | refine Safe.skip ?_ | with_reducible refine thenQ.n ?_ | with_reducible refine blockQ.n ?_)
  refine Safe.region ?_
  refine SafeOps.quiet0 E_good rfl rfl rfl (v := V.sl 2 (rws api_Timer.cells a0_699)) (.fn rfl) ?_
  refine SafeOps.quiet0 E_good rfl rfl rfl (v := V.int .i64 a1_700) (.fn rfl) ?_
  refine bindG h ?_
  rintro ⟨x_935, x_936, x_937⟩ he938 h
  refine SafeOps.quiet E_good rfl rfl rfl (v := V.tup [V.ref [12, 0] 0 (rws api_Timer.cells x_935).length, V.int .i64 x_936, V.int .i64 x_937]) (.callP rfl rfl (go_heap_find_sc a0_699 a1_700 _ he938) rfl) rfl ?_
  refine SafeOps.quiet0 E_good rfl rfl rfl (v := V.tup [V.ref [12, 0] 0 (rws api_Timer.cells x_935).length, V.int .i64 x_936, V.int .i64 x_937]) (.fn rfl) ?_
  refine SafeOps.quiet0 E_good rfl rfl rfl (v := V.ref [12, 0] 0 (rws api_Timer.cells x_935).length) (.fn rfl) ?_
  refine SafeOps.quiet0 E_good rfl rfl rfl (v := V.int .i64 x_936) (.fn rfl) ?_
  refine SafeOps.quiet0 E_good rfl rfl rfl (v := V.int .i64 x_937) (.fn rfl) ?_
  refine SafeOps.quiet0 E_good rfl rfl rfl (v := V.ref [12, 0] 0 (rws api_Timer.cells x_935).length) (.fn rfl) ?_
  refine SafeOps.quiet0 E_good rfl rfl rfl (v := V.int .i64 x_936) (.fn rfl) ?_
  refine SafeOps.quiet0 E_good rfl rfl rfl (v := V.int .i64 x_937) (.fn rfl) ?_
  refine SafeOps.nil ?_
  repeat (first | refine Safe.seq ?_ | refine Safe.skip ?_ | with_reducible refine thenQ.n ?_ | with_reducible refine blockQ.n ?_)
  refine Safe.region ?_
  refine SafeOps.quiet0 E_good rfl rfl rfl (v := V.int .i64 x_937) (.fn rfl) ?_
  refine SafeOps.quiet0 E_good rfl rfl rfl (v := V.bool (x_937 != 0)) (.fn rfl) ?_
  refine SafeOps.nil ?_
  repeat (first | refine Safe.seq ?_ | refine Safe.skip ?_ | with_reducible refine thenQ.n ?_ | with_reducible refine blockQ.n ?_)
  refine ifG h (fun hc939 h => ?_) (fun hc939 h => ?_)
  · skip
    refine Safe.condK rfl hc939 ?_
    repeat (first | refine Safe.seq ?_ | refine Safe.skip ?_ | with_reducible refine thenQ.n ?_ | with_reducible refine blockQ.n ?_)
    refine Safe.region ?_
    refine SafeOps.quiet0 E_good rfl rfl rfl (v := V.int .i64 x_937) (.fn rfl) ?_
    refine SafeOps.quiet0 E_good rfl rfl rfl (v := V.nils) (.fn rfl) ?_
    refine SafeOps.quiet0 E_good rfl rfl rfl (v := V.int .i64 x_937) (.fn rfl) ?_
    refine SafeOps.nil ?_
    repeat (first | refine Safe.seq ?_ | refine Safe.skip ?_ | with_reducible refine thenQ.n ?_ | with_reducible refine blockQ.n ?_)
    refine Safe.ret ?_
    repeat (first | with_reducible refine thenQ.r ?_ | with_reducible refine blockQ.r ?_)
    obtain rfl := Option.some.inj h
    exact retQ.gen (vs := [V.nils, V.int .i64 x_937]) rfl (.tmp (v := V.nils) rfl (.tmp (v := V.int .i64 x_937) rfl .nil)) (by exact (.tup (.cons (.nils _) (.cons (.free rfl) .nil)))) (by simp) (.inr rfl)
  · skip
    refine Safe.condN rfl hc939 ?_
    repeat (first | refine Safe.seq ?_ | refine Safe.skip ?_ | with_reducible refine thenQ.n ?_ | with_reducible refine blockQ.n ?_)
    refine Safe.region ?_
    refine SafeOps.quiet0 E_good rfl rfl rfl (v := V.ref [12, 0] 0 (rws api_Timer.cells x_935).length) (.fn rfl) ?_
    refine SafeOps.quiet0 E_good rfl rfl rfl (v := V.int .i64 x_936) (.fn rfl) ?_
    refine SafeOps.inline E_good rfl rfl rfl rfl rfl Try.func39 rfl (fun _ _ => Try.call39 _ _) rfl ?_
    repeat (first | refine Safe.seq ?_ | refine Safe.skip ?_ | with_reducible refine thenQ.n ?_ | with_reducible refine blockQ.n ?_)
    refine Safe.region ?_
    refine SafeOps.quiet0 E_good rfl rfl rfl (v := V.nils) (.fn rfl) ?_
    refine SafeOps.nil ?_
    repeat (first | refine Safe.seq ?_ | refine Safe.skip ?_ | with_reducible refine thenQ.n ?_ | with_reducible refine blockQ.n ?_)
    refine Safe.region ?_
    refine SafeOps.quiet0 E_good rfl rfl rfl (v := V.ref [12, 0] 0 (rws api_Timer.cells x_935).length) (.fn rfl) ?_
    refine SafeOps.quiet0 E_good rfl rfl rfl (v := V.int .i64 (x_935.length : Int)) (.fnE rfl lenE) ?_
    refine SafeOps.quiet0 E_good rfl rfl rfl (v := V.int .i64 (IntKind.i64.wrap ((x_935.length : Int) - 1))) (.fn rfl) ?_
    refine SafeOps.quiet0 E_good rfl rfl rfl (v := V.int .i64 (IntKind.i64.wrap ((x_935.length : Int) - 1))) (.fn rfl) ?_
    refine SafeOps.nil ?_
    repeat (first | refine Safe.seq ?_ | refine Safe.skip ?_ | with_reducible refine thenQ.n ?_ | with_reducible refine blockQ.n ?_)
    refine Safe.region ?_
    refine SafeOps.quiet0 E_good rfl rfl rfl (v := V.ref [12, 0] 0 (rws api_Timer.cells x_935).length) (.fn rfl) ?_
    refine SafeOps.quiet0 E_good rfl rfl rfl (v := V.int .i64 x_936) (.fn rfl) ?_
    refine SafeOps.quiet0 E_good rfl rfl rfl (v := V.ref [12, 0] 0 (rws api_Timer.cells x_935).length) (.fn rfl) ?_
    refine SafeOps.quiet0 E_good rfl rfl rfl (v := V.int .i64 (IntKind.i64.wrap ((x_935.length : Int) - 1))) (.fn rfl) ?_
    refine okG h (fun hb940 h => ?_)
    refine SafeOps.quiet0 E_good rfl rfl rfl (v := V.ptr [12, 0] (0 + Int.toNat (IntKind.i64.wrap ((x_935.length : Int) - 1))) 0) (.idxRefM (f := api_Timer.cells) (xs := x_935) rfl rfl rfl rfl rfl rfl hb940) ?_
    refine SafeOps.quiet0 E_good rfl rfl rfl (v := V.agg [V.int .i64 ((gt x_935 (IntKind.i64.wrap ((x_935.length : Int) - 1))).At), V.int .i64 ((gt x_935 (IntKind.i64.wrap ((x_935.length : Int) - 1))).Id)]) (.load rfl rfl (.rowsM (f := api_Timer.cells) (xs := x_935) hb940 rfl rfl) rfl) ?_
    refine okG h (fun hb941 h => ?_)
    refine SafeOps.quiet0 E_good rfl rfl rfl (v := V.ptr [12, 0] (0 + Int.toNat x_936) 0) (.idxRefM (f := api_Timer.cells) (xs := x_935) rfl rfl rfl rfl rfl rfl hb941) ?_
    refine SafeOps.store (z := Obj.rows 2 (rws api_Timer.cells (st x_935 x_936 (gt x_935 (IntKind.i64.wrap ((x_935.length : Int) - 1))))) false) E_good rfl rfl rfl rfl rfl rfl rfl (.rowsM (f := api_Timer.cells) (xs := x_935) (y := (gt x_935 (IntKind.i64.wrap ((x_935.length : Int) - 1)))) hb941 rfl rfl rfl rfl) ?_
    refine SafeOps.see 0 (u := V.ref [12, 0] 0 (rws api_Timer.cells (st x_935 x_936 (gt x_935 (IntKind.i64.wrap ((x_935.length : Int) - 1))))).length) rfl (.len (by simp [rws, st])) ?_
    refine SafeOps.see 6 (u := V.ref [12, 0] 0 (rws api_Timer.cells (st x_935 x_936 (gt x_935 (IntKind.i64.wrap ((x_935.length : Int) - 1))))).length) rfl (.len (by simp [rws, st])) ?_
    refine SafeOps.see 9 (u := V.ref [12, 0] 0 (rws api_Timer.cells (st x_935 x_936 (gt x_935 (IntKind.i64.wrap ((x_935.length : Int) - 1))))).length) rfl (.len (by simp [rws, st])) ?_
    refine SafeOps.see 11 (u := V.ref [12, 0] 0 (rws api_Timer.cells (st x_935 x_936 (gt x_935 (IntKind.i64.wrap ((x_935.length : Int) - 1))))).length) rfl (.len (by simp [rws, st])) ?_
    refine SafeOps.nil ?_
    repeat (first | refine Safe.seq ?_ | refine Safe.skip ?_ | with_reducible refine thenQ.n ?_ | with_reducible refine blockQ.n ?_)
    refine Safe.region ?_
    refine SafeOps.quiet0 E_good rfl rfl rfl (v := V.ref [12, 0] 0 (rws api_Timer.cells (st x_935 x_936 (gt x_935 (IntKind.i64.wrap ((x_935.length : Int) - 1))))).length) (.fn rfl) ?_
    refine SafeOps.quiet0 E_good rfl rfl rfl (v := V.int .i64 (IntKind.i64.wrap ((x_935.length : Int) - 1))) (.fn rfl) ?_
    refine okG h (fun hb942 h => ?_)
    refine SafeOps.quiet0 E_good rfl rfl rfl (v := V.ref [12, 0] 0 (Int.toNat (IntKind.i64.wrap ((x_935.length : Int) - 1)))) (.slRefH (f := api_Timer.cells) (xs := st x_935 x_936 (gt x_935 (IntKind.i64.wrap ((x_935.length : Int) - 1)))) rfl rfl rfl rfl rfl hb942) ?_
    refine SafeOps.truncM (f := api_Timer.cells) (xs := st x_935 x_936 (gt x_935 (IntKind.i64.wrap ((x_935.length : Int) - 1)))) [12, 0] (IntKind.i64.wrap ((x_935.length : Int) - 1)) rfl ?_
    refine SafeOps.see 18 (u := V.ref [12, 0] 0 (rws api_Timer.cells (sub (st x_935 x_936 (gt x_935 (IntKind.i64.wrap ((x_935.length : Int) - 1)))) 0 (IntKind.i64.wrap ((x_935.length : Int) - 1)))).length) rfl (.len (len_sub hb942)) ?_
    refine SafeOps.quiet0 E_good rfl rfl rfl (v := V.ref [12, 0] 0 (rws api_Timer.cells (sub (st x_935 x_936 (gt x_935 (IntKind.i64.wrap ((x_935.length : Int) - 1)))) 0 (IntKind.i64.wrap ((x_935.length : Int) - 1)))).length) (.fn rfl) ?_
    refine SafeOps.nil ?_
    repeat (first | refine Safe.seq ?_ | refine Safe.skip ?_ | with_reducible refine thenQ.n ?_ | with_reducible refine blockQ.n ?_)
    refine Safe.region ?_
    refine SafeOps.quiet0 E_good rfl rfl rfl (v := V.int .i64 x_936) (.fn rfl) ?_
    refine SafeOps.quiet0 E_good rfl rfl rfl (v := V.int .i64 (IntKind.i64.wrap ((x_935.length : Int) - 1))) (.fn rfl) ?_
    refine SafeOps.quiet0 E_good rfl rfl rfl (v := V.bool (decide (x_936 < (IntKind.i64.wrap ((x_935.length : Int) - 1))))) (.fn rfl) ?_
    refine SafeOps.nil ?_
    repeat (first | refine Safe.seq ?_ | refine Safe.skip ?_ | with_reducible refine thenQ.n ?_ | with_reducible refine blockQ.n ?_)
    refine ifG h (fun hc943 h => ?_) (fun hc943 h => ?_)
    · skip
      refine Safe.condK rfl hc943 ?_
      repeat (first | refine Safe.seq ?_ | refine Safe.skip ?_ | with_reducible refine thenQ.n ?_ | with_reducible refine blockQ.n ?_)
      refine Safe.region ?_
      refine SafeOps.quiet0 E_good rfl rfl rfl (v := V.ref [12, 0] 0 (rws api_Timer.cells (sub (st x_935 x_936 (gt x_935 (IntKind.i64.wrap ((x_935.length : Int) - 1)))) 0 (IntKind.i64.wrap ((x_935.length : Int) - 1)))).length) (.fn rfl) ?_
      refine SafeOps.quiet0 E_good rfl rfl rfl (v := V.int .i64 x_936) (.fn rfl) ?_
      refine SafeOps.inline E_good rfl rfl rfl rfl rfl Try.func40 rfl (fun _ _ => Try.call40 _ _) rfl ?_
      repeat (first | refine Safe.seq ?_ | refine Safe.skip ?_ | with_reducible refine thenQ.n ?_ | with_reducible refine blockQ.n ?_)
      refine Safe.block ?_
      repeat (first | refine Safe.seq ?_ | refine Safe.skip ?_ | with_reducible refine thenQ.n ?_ | with_reducible refine blockQ.n ?_)
      refine Safe.loopW (fun ((v0_1060, v1_1061) : (List api_Timer) × Int) => ⟨Try.f40.ntmps, [(0, V.ref [12, 0] 0 (rws api_Timer.cells v0_1060).length), (1, V.int .i64 v1_1061)], [([12, 0], Obj.rows 2 (rws api_Timer.cells v0_1060) false)], [(Try.f39.ntmps, [(0, V.ref [12, 0] 0 (rws api_Timer.cells v0_1060).length), (1, V.int .i64 x_936)]), (Try.f13.ntmps, [])], [21, 24]⟩) h (.cov ⟨rfl, rfl, (upT_cons (.refl _) (upT_cons (.refl _) upT_nil)), (upOb_cons rfl (.refl _) upOb_nil), (upOut_cons rfl (upT_cons (.refl _) (upT_cons (.refl _) upT_nil)) (upOut_cons rfl upT_nil upOut_nil)), rfl⟩) ?_
      rintro ⟨v0_1060, v1_1061⟩ ohr1062 h hr1062
      replace h : go_heap_Cancel_s5 x_936 (v0_1060, v1_1061) = some ohr1062 := h
      rw [go_heap_Cancel_s5] at h
      repeat (first | refine Safe.seq ?_ | refine Safe.skip ?_ | with_reducible refine thenQ.n ?_ | with_reducible refine blockQ.n ?_)
      refine Safe.block ?_
      repeat (first | refine Safe.seq ?_ | refine Safe.skip ?_ | with_reducible refine thenQ.n ?_ | with_reducible refine blockQ.n ?_)
      refine Safe.region ?_
      refine SafeOps.quiet0 E_good rfl rfl rfl (v := V.int .i64 v1_1061) (.fn rfl) ?_
      refine SafeOps.quiet0 E_good rfl rfl rfl (v := V.int .i64 v1_1061) (.fn rfl) ?_
      refine SafeOps.nil ?_
      repeat (first | refine Safe.seq ?_ | refine Safe.skip ?_ | with_reducible refine thenQ.n ?_ | with_reducible refine blockQ.n ?_)
      refine Safe.region ?_
      refine SafeOps.quiet0 E_good rfl rfl rfl (v := V.int .i64 v1_1061) (.fn rfl) ?_
      refine SafeOps.quiet0 E_good rfl rfl rfl (v := V.int .i64 (IntKind.i64.wrap (4 * v1_1061))) (.fn rfl) ?_
      refine SafeOps.quiet0 E_good rfl rfl rfl (v := V.int .i64 (IntKind.i64.wrap ((IntKind.i64.wrap (4 * v1_1061)) + 1))) (.fn rfl) ?_
      refine SafeOps.quiet0 E_good rfl rfl rfl (v := V.int .i64 (IntKind.i64.wrap ((IntKind.i64.wrap (4 * v1_1061)) + 1))) (.fn rfl) ?_
      refine SafeOps.nil ?_
      repeat (first | refine Safe.seq ?_ | refine Safe.skip ?_ | with_reducible refine thenQ.n ?_ | with_reducible refine blockQ.n ?_)
      refine Safe.block ?_
      repeat (first | refine Safe.seq ?_ | refine Safe.skip ?_ | with_reducible refine thenQ.n ?_ | with_reducible refine blockQ.n ?_)
      refine Safe.loopW (fun ((v4_1105, v5_1106) : Int × Int) => ⟨Try.f40.ntmps, [(0, V.ref [12, 0] 0 (rws api_Timer.cells v0_1060).length), (1, V.int .i64 v1_1061), (4, V.int .i64 v4_1105), (5, V.int .i64 v5_1106)], [([12, 0], Obj.rows 2 (rws api_Timer.cells v0_1060) false)], [(Try.f39.ntmps, [(0, V.ref [12, 0] 0 (rws api_Timer.cells v0_1060).length), (1, V.int .i64 x_936)]), (Try.f13.ntmps, [])], [21, 24]⟩) h (.cov ⟨rfl, rfl, (upT_cons (.refl _) (upT_cons (.refl _) (upT_cons (.refl _) (upT_cons (.refl _) upT_nil)))), (upOb_cons rfl (.refl _) upOb_nil), (upOut_cons rfl (upT_cons (.refl _) (upT_cons (.refl _) upT_nil)) (upOut_cons rfl upT_nil upOut_nil)), rfl⟩) ?_
      rintro ⟨v4_1105, v5_1106⟩ ohr1107 h hr1107
      replace h : go_heap_Cancel_s7 x_936 v0_1060 v1_1061 (v4_1105, v5_1106) = some ohr1107 := h
      rw [go_heap_Cancel_s7] at h
      repeat (first | refine Safe.seq ?_ | refine Safe.skip ?_ | with_reducible refine thenQ.n ?_ | with_reducible refine blockQ.n ?_)
      refine Safe.region ?_
      refine SafeOps.quiet0 E_good rfl rfl rfl (v := V.int .i64 v5_1106) (.fn rfl) ?_
      refine SafeOps.quiet0 E_good rfl rfl rfl (v := V.int .i64 v1_1061) (.fn rfl) ?_
      refine SafeOps.quiet0 E_good rfl rfl rfl (v := V.int .i64 (IntKind.i64.wrap (4 * v1_1061))) (.fn rfl) ?_
      refine SafeOps.quiet0 E_good rfl rfl rfl (v := V.int .i64 (IntKind.i64.wrap ((IntKind.i64.wrap (4 * v1_1061)) + 4))) (.fn rfl) ?_
      refine SafeOps.quiet0 E_good rfl rfl rfl (v := V.bool (decide (v5_1106 ≤ (IntKind.i64.wrap ((IntKind.i64.wrap (4 * v1_1061)) + 4))))) (.fn rfl) ?_
      refine SafeOps.quiet0 E_good rfl rfl rfl (v := V.bool (decide (v5_1106 ≤ (IntKind.i64.wrap ((IntKind.i64.wrap (4 * v1_1061)) + 4))))) (.fn rfl) ?_
      refine SafeOps.bjoin 5 20 (b := ((decide (v5_1106 ≤ (IntKind.i64.wrap ((IntKind.i64.wrap (4 * v1_1061)) + 4)))) && (decide (v5_1106 < (v0_1060.length : Int))))) (b1 := decide (v5_1106 < (v0_1060.length : Int))) (b0 := false) (fun hc1108 K => ?_) (fun hc1108 K => ?_) bj_and ?_
      · skip
        refine SafeOps.quiet0 E_good (congrArg some hc1108) rfl rfl (v := V.int .i64 v5_1106) (.fn rfl) ?_
        refine SafeOps.quiet0 E_good (congrArg some hc1108) rfl rfl (v := V.ref [12, 0] 0 (rws api_Timer.cells v0_1060).length) (.fn rfl) ?_
        refine SafeOps.quiet0 E_good (congrArg some hc1108) rfl rfl (v := V.int .i64 (v0_1060.length : Int)) (.fnE rfl lenE) ?_
        refine SafeOps.quiet0 E_good (congrArg some hc1108) rfl rfl (v := V.bool (decide (v5_1106 < (v0_1060.length : Int)))) (.fn rfl) ?_
        refine SafeOps.quiet0 E_good rfl rfl rfl (v := V.bool (decide (v5_1106 < (v0_1060.length : Int)))) (.pickK rfl hc1108 rfl) ?_
        exact SafeOps.drop' 5 rfl rfl rfl K
      · skip
        refine SafeOps.skip (congrArg some hc1108) rfl rfl ?_
        refine SafeOps.skip (congrArg some hc1108) rfl rfl ?_
        refine SafeOps.skip (congrArg some hc1108) rfl rfl ?_
        refine SafeOps.skip (congrArg some hc1108) rfl rfl ?_
        refine SafeOps.quiet0 E_good rfl rfl rfl (v := V.bool false) (.pickK rfl hc1108 rfl) ?_
        exact SafeOps.drop' 5 rfl rfl rfl K
      refine SafeOps.nil ?_
      repeat (first | refine Safe.seq ?_ | refine Safe.skip ?_ | with_reducible refine thenQ.n ?_ | with_reducible refine blockQ.n ?_)
      refine ifG h (fun hc1109 h => ?_) (fun hc1109 h => ?_)
      · skip
        refine Safe.condK rfl hc1109 ?_
        repeat (first | refine Safe.seq ?_ | refine Safe.skip ?_ | with_reducible refine thenQ.n ?_ | with_reducible refine blockQ.n ?_)
        refine Safe.block ?_
        repeat (first | refine Safe.seq ?_ | refine Safe.skip ?_ | with_reducible refine thenQ.n ?_ | with_reducible refine blockQ.n ?_)
        refine Safe.regionD (n := 10) [] [] E_good mixed rfl ?_
        refine DAny.take (i := 0) rfl (by kernel_rfl) [] (by kernel_rfl) (by kernel_rfl) (by kernel_rfl) rfl rfl rfl (v := V.ref [12, 0] 0 (rws api_Timer.cells v0_1060).length) (fun _ hz => (.fn rfl)) ?_
        refine DAny.take (i := 1) rfl (by kernel_rfl) [] (by kernel_rfl) (by kernel_rfl) (by kernel_rfl) rfl rfl rfl (v := V.int .i64 v5_1106) (fun _ hz => (.fn rfl)) ?_
        refine okG h (fun hb1110 h => ?_)
        refine DAny.take (i := 2) rfl (by kernel_rfl) [] (by kernel_rfl) (by kernel_rfl) (by kernel_rfl) rfl rfl rfl (v := V.ptr [12, 0] (0 + Int.toNat v5_1106) 0) (fun _ hz => (.idxRefM (f := api_Timer.cells) (xs := v0_1060) rfl rfl rfl (hz _ _ rfl rfl) rfl rfl hb1110)) ?_
        refine DAny.take (i := 3) rfl (by kernel_rfl) [] (by kernel_rfl) (by kernel_rfl) (by kernel_rfl) rfl rfl rfl (v := V.agg [V.int .i64 ((gt v0_1060 v5_1106).At), V.int .i64 ((gt v0_1060 v5_1106).Id)]) (fun _ hz => (.load rfl rfl (.rowsM (f := api_Timer.cells) (xs := v0_1060) hb1110 (hz _ _ rfl rfl) rfl) rfl)) ?_
        refine DAny.take (i := 4) rfl (by kernel_rfl) [] (by kernel_rfl) (by kernel_rfl) (by kernel_rfl) rfl rfl rfl (v := V.ref [12, 0] 0 (rws api_Timer.cells v0_1060).length) (fun _ hz => (.fn rfl)) ?_
        refine DAny.take (i := 5) rfl (by kernel_rfl) [] (by kernel_rfl) (by kernel_rfl) (by kernel_rfl) rfl rfl rfl (v := V.int .i64 v4_1105) (fun _ hz => (.fn rfl)) ?_
        refine okG h (fun hb1111 h => ?_)
        refine DAny.take (i := 6) rfl (by kernel_rfl) [] (by kernel_rfl) (by kernel_rfl) (by kernel_rfl) rfl rfl rfl (v := V.ptr [12, 0] (0 + Int.toNat v4_1105) 0) (fun _ hz => (.idxRefM (f := api_Timer.cells) (xs := v0_1060) rfl rfl rfl (hz _ _ rfl rfl) rfl rfl hb1111)) ?_
        refine DAny.take (i := 7) rfl (by kernel_rfl) [] (by kernel_rfl) (by kernel_rfl) (by kernel_rfl) rfl rfl rfl (v := V.agg [V.int .i64 ((gt v0_1060 v4_1105).At), V.int .i64 ((gt v0_1060 v4_1105).Id)]) (fun _ hz => (.load rfl rfl (.rowsM (f := api_Timer.cells) (xs := v0_1060) hb1111 (hz _ _ rfl rfl) rfl) rfl)) ?_
        refine bindG h ?_
        intro x_1112 he1113 h
        refine DAny.take (i := 8) rfl (by kernel_rfl) [] (by kernel_rfl) (by kernel_rfl) (by kernel_rfl) rfl rfl rfl (v := V.int .i64 x_1112) (fun _ hz => (.callP rfl rfl (go_heap_order_sc (gt v0_1060 v5_1106) (gt v0_1060 v4_1105) _ he1113) rfl)) ?_
        refine DAny.take (i := 9) rfl (by kernel_rfl) [] (by kernel_rfl) (by kernel_rfl) (by kernel_rfl) rfl rfl rfl (v := V.bool (decide (x_1112 < 0))) (fun _ hz => (.fn rfl)) ?_
        refine DAny.nil (by kernel_rfl) ?_
        repeat (first | refine Safe.seq ?_ | refine Safe.skip ?_ | with_reducible refine thenQ.n ?_ | with_reducible refine blockQ.n ?_)
        refine ifG h (fun hc1114 h => ?_) (fun hc1114 h => ?_)
        · skip
          refine Safe.condK rfl hc1114 ?_
          repeat (first | refine Safe.seq ?_ | refine Safe.skip ?_ | with_reducible refine thenQ.n ?_ | with_reducible refine blockQ.n ?_)
          refine Safe.region ?_
          refine SafeOps.quiet0 E_good rfl rfl rfl (v := V.int .i64 v5_1106) (.fn rfl) ?_
          refine SafeOps.quiet0 E_good rfl rfl rfl (v := V.int .i64 v5_1106) (.fn rfl) ?_
          refine SafeOps.nil ?_
          repeat (first | refine Safe.seq ?_ | refine Safe.skip ?_ | with_reducible refine thenQ.n ?_ | with_reducible refine blockQ.n ?_)
          refine Safe.region ?_
          refine SafeOps.quiet0 E_good rfl rfl rfl (v := V.int .i64 v5_1106) (.fn rfl) ?_
          refine SafeOps.quiet0 E_good rfl rfl rfl (v := V.int .i64 (IntKind.i64.wrap (v5_1106 + 1))) (.fn rfl) ?_
          refine SafeOps.quiet0 E_good rfl rfl rfl (v := V.int .i64 (IntKind.i64.wrap (v5_1106 + 1))) (.fn rfl) ?_
          refine SafeOps.nil ?_
          repeat (first | refine Safe.seq ?_ | refine Safe.skip ?_ | with_reducible refine thenQ.n ?_ | with_reducible refine blockQ.n ?_)
          exact ⟨_, next_out h, (.cov ⟨rfl, rfl, (upT_cons (.refl _) (upT_cons (.refl _) (upT_cons (.refl _) (upT_cons (.refl _) upT_nil)))), (upOb_cons rfl (.refl _) upOb_nil), (upOut_cons rfl (upT_cons (.refl _) (upT_cons (.refl _) upT_nil)) (upOut_cons rfl upT_nil upOut_nil)), rfl⟩)⟩
        · skip
          refine Safe.condN rfl hc1114 ?_
          repeat (first | refine Safe.seq ?_ | refine Safe.skip ?_ | with_reducible refine thenQ.n ?_ | with_reducible refine blockQ.n ?_)
          refine Safe.region ?_
          refine SafeOps.quiet0 E_good rfl rfl rfl (v := V.int .i64 v5_1106) (.fn rfl) ?_
          refine SafeOps.quiet0 E_good rfl rfl rfl (v := V.int .i64 (IntKind.i64.wrap (v5_1106 + 1))) (.fn rfl) ?_
          refine SafeOps.quiet0 E_good rfl rfl rfl (v := V.int .i64 (IntKind.i64.wrap (v5_1106 + 1))) (.fn rfl) ?_
          refine SafeOps.nil ?_
          repeat (first | refine Safe.seq ?_ | refine Safe.skip ?_ | with_reducible refine thenQ.n ?_ | with_reducible refine blockQ.n ?_)
          exact ⟨_, next_out h, (.cov ⟨rfl, rfl, (upT_cons (.refl _) (upT_cons (.refl _) (upT_cons (.refl _) (upT_cons (.refl _) upT_nil)))), (upOb_cons rfl (.refl _) upOb_nil), (upOut_cons rfl (upT_cons (.refl _) (upT_cons (.refl _) upT_nil)) (upOut_cons rfl upT_nil upOut_nil)), rfl⟩)⟩
      · skip
        refine Safe.condN rfl hc1109 ?_
        repeat (first | refine Safe.seq ?_ | refine Safe.skip ?_ | with_reducible refine thenQ.n ?_ | with_reducible refine blockQ.n ?_)
        refine Safe.exit ?_
        repeat (first | with_reducible refine thenQ.e ?_ | with_reducible refine blockQ.x rfl ?_ | with_reducible refine blockQ.y rfl ?_)
        replace h := inr_out h hr1107
        repeat (first | refine Safe.seq ?_ | refine Safe.skip ?_ | with_reducible refine thenQ.n ?_ | with_reducible refine blockQ.n ?_)
        refine Safe.region ?_
        refine SafeOps.quiet0 E_good rfl rfl rfl (v := V.int .i64 v4_1105) (.fn rfl) ?_
        refine SafeOps.quiet0 E_good rfl rfl rfl (v := V.int .i64 v1_1061) (.fn rfl) ?_
        refine SafeOps.quiet0 E_good rfl rfl rfl (v := V.bool (v4_1105 == v1_1061)) (.fn rfl) ?_
        refine SafeOps.nil ?_
        repeat (first | refine Safe.seq ?_ | refine Safe.skip ?_ | with_reducible refine thenQ.n ?_ | with_reducible refine blockQ.n ?_)
        refine ifG h (fun hc1115 h => ?_) (fun hc1115 h => ?_)
        · skip
          refine Safe.condK rfl hc1115 ?_
          repeat (first | refine Safe.seq ?_ | refine Safe.skip ?_ | with_reducible refine thenQ.n ?_ | with_reducible refine blockQ.n ?_)
          refine Safe.ret ?_
          repeat (first | with_reducible refine thenQ.r ?_ | with_reducible refine blockQ.r ?_)
          refine inQ.gen (vs := []) (v := V.tup []) (.inr rfl) rfl .nil rfl ?_
          replace h := inr_out h hr1062
          refine SafeOps.nil ?_
          repeat (first | refine Safe.seq ?_ | refine Safe.skip ?_ | with_reducible refine thenQ.n ?_ | with_reducible refine blockQ.n ?_)
          refine Safe.region ?_
          refine SafeOps.quiet0 E_good rfl rfl rfl (v := V.ref [12, 0] 0 (rws api_Timer.cells v0_1060).length) (.fn rfl) ?_
          refine SafeOps.quiet0 E_good rfl rfl rfl (v := V.int .i64 x_936) (.fn rfl) ?_
          refine SafeOps.inline E_good rfl rfl rfl rfl rfl Try.func34 rfl (fun _ _ => Try.call34 _ _) rfl ?_
          repeat (first | refine Safe.seq ?_ | refine Safe.skip ?_ | with_reducible refine thenQ.n ?_ | with_reducible refine blockQ.n ?_)
          refine Safe.block ?_
          repeat (first | refine Safe.seq ?_ | refine Safe.skip ?_ | with_reducible refine thenQ.n ?_ | with_reducible refine blockQ.n ?_)
          refine Safe.loopW (fun ((v0_1138, v1_1139) : (List api_Timer) × Int) => ⟨Try.f34.ntmps, [(0, V.ref [12, 0] 0 (rws api_Timer.cells v0_1138).length), (1, V.int .i64 v1_1139)], [([12, 0], Obj.rows 2 (rws api_Timer.cells v0_1138) false)], [(Try.f39.ntmps, [(0, V.ref [12, 0] 0 (rws api_Timer.cells v0_1138).length)]), (Try.f13.ntmps, [])], [21, 27]⟩) h (.cov ⟨rfl, rfl, (upT_cons (.refl _) (upT_cons (.refl _) upT_nil)), (upOb_cons rfl (.refl _) upOb_nil), (upOut_cons rfl (upT_cons (.refl _) upT_nil) (upOut_cons rfl upT_nil upOut_nil)), rfl⟩) ?_
          rintro ⟨v0_1138, v1_1139⟩ ohr1140 h hr1140
          replace h : go_heap_Cancel_s8 (v0_1138, v1_1139) = some ohr1140 := h
          rw [go_heap_Cancel_s8] at h
          repeat (first | refine Safe.seq ?_ | refine Safe.skip ?_ | with_reducible refine thenQ.n ?_ | with_reducible refine blockQ.n ?_)
          refine Safe.region ?_
          refine SafeOps.quiet0 E_good rfl rfl rfl (v := V.int .i64 v1_1139) (.fn rfl) ?_
          refine SafeOps.quiet0 E_good rfl rfl rfl (v := V.bool (decide (v1_1139 > 0))) (.fn rfl) ?_
          refine SafeOps.nil ?_
          repeat (first | refine Safe.seq ?_ | refine Safe.skip ?_ | with_reducible refine thenQ.n ?_ | with_reducible refine blockQ.n ?_)
          refine ifG h (fun hc1141 h => ?_) (fun hc1141 h => ?_)
          · skip
            refine Safe.condK rfl hc1141 ?_
            repeat (first | refine Safe.seq ?_ | refine Safe.skip ?_ | with_reducible refine thenQ.n ?_ | with_reducible refine blockQ.n ?_)
            refine Safe.block ?_
            repeat (first | refine Safe.seq ?_ | refine Safe.skip ?_ | with_reducible refine thenQ.n ?_ | with_reducible refine blockQ.n ?_)
            refine Safe.region ?_
            refine SafeOps.quiet0 E_good rfl rfl rfl (v := V.int .i64 v1_1139) (.fn rfl) ?_
            refine SafeOps.quiet0 E_good rfl rfl rfl (v := V.int .i64 (IntKind.i64.wrap (v1_1139 - 1))) (.fn rfl) ?_
            refine SafeOps.quiet0 E_good rfl rfl rfl (v := V.int .i64 (IntKind.i64.wrap (Int.tdiv (IntKind.i64.wrap (v1_1139 - 1)) 4))) (.quoV rfl rfl (by decide)) ?_
            refine SafeOps.quiet0 E_good rfl rfl rfl (v := V.int .i64 (IntKind.i64.wrap (Int.tdiv (IntKind.i64.wrap (v1_1139 - 1)) 4))) (.fn rfl) ?_
            refine SafeOps.nil ?_
            repeat (first | refine Safe.seq ?_ | refine Safe.skip ?_ | with_reducible refine thenQ.n ?_ | with_reducible refine blockQ.n ?_)
            refine Safe.regionD (n := 10) [] [] E_good mixed rfl ?_
            refine DAny.take (i := 0) rfl (by kernel_rfl) [] (by kernel_rfl) (by kernel_rfl) (by kernel_rfl) rfl rfl rfl (v := V.ref [12, 0] 0 (rws api_Timer.cells v0_1138).length) (fun _ hz => (.fn rfl)) ?_
            refine DAny.take (i := 1) rfl (by kernel_rfl) [] (by kernel_rfl) (by kernel_rfl) (by kernel_rfl) rfl rfl rfl (v := V.int .i64 (IntKind.i64.wrap (Int.tdiv (IntKind.i64.wrap (v1_1139 - 1)) 4))) (fun _ hz => (.fn rfl)) ?_
            refine okG h (fun hb1142 h => ?_)
            refine DAny.take (i := 2) rfl (by kernel_rfl) [] (by kernel_rfl) (by kernel_rfl) (by kernel_rfl) rfl rfl rfl (v := V.ptr [12, 0] (0 + Int.toNat (IntKind.i64.wrap (Int.tdiv (IntKind.i64.wrap (v1_1139 - 1)) 4))) 0) (fun _ hz => (.idxRefM (f := api_Timer.cells) (xs := v0_1138) rfl rfl rfl (hz _ _ rfl rfl) rfl rfl hb1142)) ?_
            refine DAny.take (i := 3) rfl (by kernel_rfl) [] (by kernel_rfl) (by kernel_rfl) (by kernel_rfl) rfl rfl rfl (v := V.agg [V.int .i64 ((gt v0_1138 (IntKind.i64.wrap (Int.tdiv (IntKind.i64.wrap (v1_1139 - 1)) 4))).At), V.int .i64 ((gt v0_1138 (IntKind.i64.wrap (Int.tdiv (IntKind.i64.wrap (v1_1139 - 1)) 4))).Id)]) (fun _ hz => (.load rfl rfl (.rowsM (f := api_Timer.cells) (xs := v0_1138) hb1142 (hz _ _ rfl rfl) rfl) rfl)) ?_
            refine DAny.take (i := 4) rfl (by kernel_rfl) [] (by kernel_rfl) (by kernel_rfl) (by kernel_rfl) rfl rfl rfl (v := V.ref [12, 0] 0 (rws api_Timer.cells v0_1138).length) (fun _ hz => (.fn rfl)) ?_
            refine DAny.take (i := 5) rfl (by kernel_rfl) [] (by kernel_rfl) (by kernel_rfl) (by kernel_rfl) rfl rfl rfl (v := V.int .i64 v1_1139) (fun _ hz => (.fn rfl)) ?_
            refine okG h (fun hb1143 h => ?_)
            refine DAny.take (i := 6) rfl (by kernel_rfl) [] (by kernel_rfl) (by kernel_rfl) (by kernel_rfl) rfl rfl rfl (v := V.ptr [12, 0] (0 + Int.toNat v1_1139) 0) (fun _ hz => (.idxRefM (f := api_Timer.cells) (xs := v0_1138) rfl rfl rfl (hz _ _ rfl rfl) rfl rfl hb1143)) ?_
            refine DAny.take (i := 7) rfl (by kernel_rfl) [] (by kernel_rfl) (by kernel_rfl) (by kernel_rfl) rfl rfl rfl (v := V.agg [V.int .i64 ((gt v0_1138 v1_1139).At), V.int .i64 ((gt v0_1138 v1_1139).Id)]) (fun _ hz => (.load rfl rfl (.rowsM (f := api_Timer.cells) (xs := v0_1138) hb1143 (hz _ _ rfl rfl) rfl) rfl)) ?_
            refine bindG h ?_
            intro x_1144 he1145 h
            refine DAny.take (i := 8) rfl (by kernel_rfl) [] (by kernel_rfl) (by kernel_rfl) (by kernel_rfl) rfl rfl rfl (v := V.int .i64 x_1144) (fun _ hz => (.callP rfl rfl (go_heap_order_sc (gt v0_1138 (IntKind.i64.wrap (Int.tdiv (IntKind.i64.wrap (v1_1139 - 1)) 4))) (gt v0_1138 v1_1139) _ he1145) rfl)) ?_
            refine DAny.take (i := 9) rfl (by kernel_rfl) [] (by kernel_rfl) (by kernel_rfl) (by kernel_rfl) rfl rfl rfl (v := V.bool (decide (x_1144 ≤ 0))) (fun _ hz => (.fn rfl)) ?_
            refine DAny.nil (by kernel_rfl) ?_
            repeat (first | refine Safe.seq ?_ | refine Safe.skip ?_ | with_reducible refine thenQ.n ?_ | with_reducible refine blockQ.n ?_)
            refine ifG h (fun hc1146 h => ?_) (fun hc1146 h => ?_)
            · skip
              refine Safe.condK rfl hc1146 ?_
              repeat (first | refine Safe.seq ?_ | refine Safe.skip ?_ | with_reducible refine thenQ.n ?_ | with_reducible refine blockQ.n ?_)
              refine Safe.ret ?_
              repeat (first | with_reducible refine thenQ.r ?_ | with_reducible refine blockQ.r ?_)
              refine inQ.gen (vs := []) (v := V.tup []) (.inr rfl) rfl .nil rfl ?_
              replace h := inr_out h hr1140
              refine SafeOps.nil ?_
              repeat (first | refine Safe.seq ?_ | refine Safe.skip ?_ | with_reducible refine thenQ.n ?_ | with_reducible refine blockQ.n ?_)
              refine Safe.region ?_
              refine SafeOps.quiet0 E_good rfl rfl rfl (v := V.ref [12, 0] 0 (rws api_Timer.cells v0_1138).length) (.fn rfl) ?_
              refine SafeOps.quiet0 E_good rfl rfl rfl (v := V.ref [12, 0] 0 (rws api_Timer.cells v0_1138).length) (.fn rfl) ?_
              refine SafeOps.nil ?_
              repeat (first | refine Safe.seq ?_ | refine Safe.skip ?_ | with_reducible refine thenQ.n ?_ | with_reducible refine blockQ.n ?_)
              refine Safe.ret ?_
              repeat (first | with_reducible refine thenQ.r ?_ | with_reducible refine blockQ.r ?_)
              refine inQ.gen (vs := [V.ref [12, 0] 0 (rws api_Timer.cells v0_1138).length]) (v := V.ref [12, 0] 0 (rws api_Timer.cells v0_1138).length) (.inr rfl) rfl (.tmp (v := V.ref [12, 0] 0 (rws api_Timer.cells v0_1138).length) rfl .nil) rfl ?_
              refine SafeOps.quiet0 E_good rfl rfl rfl (v := V.ref [12, 0] 0 (rws api_Timer.cells v0_1138).length) (.fn rfl) ?_
              refine SafeOps.quiet0 E_good rfl rfl rfl (v := V.int .i64 0) (.fn rfl) ?_
              refine SafeOps.nil ?_
              repeat (first | refine Safe.seq ?_ | refine Safe.skip ?_ | with_reducible refine thenQ.n ?_ | with_reducible refine blockQ.n ?_)
              refine Safe.ret ?_
              repeat (first | with_reducible refine thenQ.r ?_ | with_reducible refine blockQ.r ?_)
              obtain rfl := Option.some.inj h
              exact retQ.gen (vs := [V.ref [12, 0] 0 (rws api_Timer.cells v0_1138).length, V.int .i64 0]) rfl (.tmp (v := V.ref [12, 0] 0 (rws api_Timer.cells v0_1138).length) rfl (.tmp (v := V.int .i64 0) rfl .nil)) (by exact (.tup (.cons (.own rfl rfl) (.cons (.free rfl) .nil)))) (by simp) (.inr rfl)
            · skip
              refine Safe.condN rfl hc1146 ?_
              repeat (first | refine Safe.seq ?_ | refine Safe.skip ?_ | with_reducible refine thenQ.n ?_ | with_reducible refine blockQ.n ?_)
              refine Safe.regionD (n := 16) [(13, [12, 0]), (13, [35]), (15, [12, 0]), (15, [35])] [] E_good mixed rfl ?_
              refine DAny.take (i := 0) rfl (by kernel_rfl) [[12, 0], [35]] (by kernel_rfl) (by kernel_rfl) (by kernel_rfl) rfl rfl rfl (v := V.ref [12, 0] 0 (rws api_Timer.cells v0_1138).length) (fun _ hz => (.fn rfl)) ?_
              refine DAny.take (i := 1) rfl (by kernel_rfl) [[12, 0], [35]] (by kernel_rfl) (by kernel_rfl) (by kernel_rfl) rfl rfl rfl (v := V.int .i64 (IntKind.i64.wrap (Int.tdiv (IntKind.i64.wrap (v1_1139 - 1)) 4))) (fun _ hz => (.fn rfl)) ?_
              refine DAny.take (i := 2) rfl (by kernel_rfl) [[12, 0], [35]] (by kernel_rfl) (by kernel_rfl) (by kernel_rfl) rfl rfl rfl (v := V.ref [12, 0] 0 (rws api_Timer.cells v0_1138).length) (fun _ hz => (.fn rfl)) ?_
              refine DAny.take (i := 3) rfl (by kernel_rfl) [[12, 0], [35]] (by kernel_rfl) (by kernel_rfl) (by kernel_rfl) rfl rfl rfl (v := V.int .i64 v1_1139) (fun _ hz => (.fn rfl)) ?_
              refine DAny.take (i := 4) rfl (by kernel_rfl) [[12, 0], [35]] (by kernel_rfl) (by kernel_rfl) (by kernel_rfl) rfl rfl rfl (v := V.ref [12, 0] 0 (rws api_Timer.cells v0_1138).length) (fun _ hz => (.fn rfl)) ?_
              refine DAny.take (i := 5) rfl (by kernel_rfl) [[12, 0], [35]] (by kernel_rfl) (by kernel_rfl) (by kernel_rfl) rfl rfl rfl (v := V.int .i64 v1_1139) (fun _ hz => (.fn rfl)) ?_
              refine okG h (fun hb1147 h => ?_)
              refine DAny.take (i := 6) rfl (by kernel_rfl) [[35]] (by kernel_rfl) (by kernel_rfl) (by kernel_rfl) rfl rfl rfl (v := V.ptr [12, 0] (0 + Int.toNat v1_1139) 0) (fun _ hz => (.idxRefM (f := api_Timer.cells) (xs := v0_1138) rfl rfl rfl (hz _ _ rfl rfl) rfl rfl hb1147)) ?_
              refine DAny.take (i := 7) rfl (by kernel_rfl) [[35]] (by kernel_rfl) (by kernel_rfl) (by kernel_rfl) rfl rfl rfl (v := V.agg [V.int .i64 ((gt v0_1138 v1_1139).At), V.int .i64 ((gt v0_1138 v1_1139).Id)]) (fun _ hz => (.load rfl rfl (.rowsM (f := api_Timer.cells) (xs := v0_1138) hb1147 (hz _ _ rfl rfl) rfl) rfl)) ?_
              refine DAny.take (i := 8) rfl (by kernel_rfl) [[12, 0], [35]] (by kernel_rfl) (by kernel_rfl) (by kernel_rfl) rfl rfl rfl (v := V.ref [12, 0] 0 (rws api_Timer.cells v0_1138).length) (fun _ hz => (.fn rfl)) ?_
              refine DAny.take (i := 9) rfl (by kernel_rfl) [[12, 0], [35]] (by kernel_rfl) (by kernel_rfl) (by kernel_rfl) rfl rfl rfl (v := V.int .i64 (IntKind.i64.wrap (Int.tdiv (IntKind.i64.wrap (v1_1139 - 1)) 4))) (fun _ hz => (.fn rfl)) ?_
              refine okG h (fun hb1148 h => ?_)
              refine DAny.take (i := 10) rfl (by kernel_rfl) [[35]] (by kernel_rfl) (by kernel_rfl) (by kernel_rfl) rfl rfl rfl (v := V.ptr [12, 0] (0 + Int.toNat (IntKind.i64.wrap (Int.tdiv (IntKind.i64.wrap (v1_1139 - 1)) 4))) 0) (fun _ hz => (.idxRefM (f := api_Timer.cells) (xs := v0_1138) rfl rfl rfl (hz _ _ rfl rfl) rfl rfl hb1148)) ?_
              refine DAny.take (i := 11) rfl (by kernel_rfl) [[35]] (by kernel_rfl) (by kernel_rfl) (by kernel_rfl) rfl rfl rfl (v := V.agg [V.int .i64 ((gt v0_1138 (IntKind.i64.wrap (Int.tdiv (IntKind.i64.wrap (v1_1139 - 1)) 4))).At), V.int .i64 ((gt v0_1138 (IntKind.i64.wrap (Int.tdiv (IntKind.i64.wrap (v1_1139 - 1)) 4))).Id)]) (fun _ hz => (.load rfl rfl (.rowsM (f := api_Timer.cells) (xs := v0_1138) hb1148 (hz _ _ rfl rfl) rfl) rfl)) ?_
              refine okG h (fun hb1149 h => ?_)
              refine DAny.take (i := 12) rfl (by kernel_rfl) [[35]] (by kernel_rfl) (by kernel_rfl) (by kernel_rfl) rfl rfl rfl (v := V.ptr [12, 0] (0 + Int.toNat (IntKind.i64.wrap (Int.tdiv (IntKind.i64.wrap (v1_1139 - 1)) 4))) 0) (fun _ hz => (.idxRefM (f := api_Timer.cells) (xs := v0_1138) rfl rfl rfl (hz _ _ rfl rfl) rfl rfl hb1149)) ?_
              refine DAny.only (i := 13) rfl (by kernel_rfl) (.store (z := Obj.rows 2 (rws api_Timer.cells (st v0_1138 (IntKind.i64.wrap (Int.tdiv (IntKind.i64.wrap (v1_1139 - 1)) 4)) (gt v0_1138 v1_1139))) false) rfl rfl rfl rfl rfl rfl rfl (.rowsM (f := api_Timer.cells) (xs := v0_1138) (y := (gt v0_1138 v1_1139)) hb1149 rfl rfl rfl rfl) rfl ?_)
              refine okG h (fun hb1150 h => ?_)
              refine DAny.take (i := 14) rfl (by kernel_rfl) [[35]] (by kernel_rfl) (by kernel_rfl) (by kernel_rfl) rfl rfl rfl (v := V.ptr [12, 0] (0 + Int.toNat v1_1139) 0) (fun _ hz => (.idxRefL (f := api_Timer.cells) (xs := st v0_1138 (IntKind.i64.wrap (Int.tdiv (IntKind.i64.wrap (v1_1139 - 1)) 4)) (gt v0_1138 v1_1139)) (ys := v0_1138) rfl rfl rfl (hz _ _ rfl rfl) rfl (by simp [st]) hb1150)) ?_
              refine DAny.only (i := 15) rfl (by kernel_rfl) (.store (z := Obj.rows 2 (rws api_Timer.cells (st (st v0_1138 (IntKind.i64.wrap (Int.tdiv (IntKind.i64.wrap (v1_1139 - 1)) 4)) (gt v0_1138 v1_1139)) v1_1139 (gt v0_1138 (IntKind.i64.wrap (Int.tdiv (IntKind.i64.wrap (v1_1139 - 1)) 4))))) false) rfl rfl rfl rfl rfl rfl rfl (.rowsM (f := api_Timer.cells) (xs := st v0_1138 (IntKind.i64.wrap (Int.tdiv (IntKind.i64.wrap (v1_1139 - 1)) 4)) (gt v0_1138 v1_1139)) (y := (gt v0_1138 (IntKind.i64.wrap (Int.tdiv (IntKind.i64.wrap (v1_1139 - 1)) 4)))) hb1150 rfl rfl rfl rfl) rfl ?_)
              refine DAny.nil (by kernel_rfl) ?_
              repeat (first | refine Safe.seq ?_ | refine Safe.skip ?_ | with_reducible refine thenQ.n ?_ | with_reducible refine blockQ.n ?_)
              refine Safe.see 0 (u := V.ref [12, 0] 0 (rws api_Timer.cells (st (st v0_1138 (IntKind.i64.wrap (Int.tdiv (IntKind.i64.wrap (v1_1139 - 1)) 4)) (gt v0_1138 v1_1139)) v1_1139 (gt v0_1138 (IntKind.i64.wrap (Int.tdiv (IntKind.i64.wrap (v1_1139 - 1)) 4))))).length) rfl (.len (by simp [rws, st])) ?_
              refine Safe.see 10 (u := V.ref [12, 0] 0 (rws api_Timer.cells (st (st v0_1138 (IntKind.i64.wrap (Int.tdiv (IntKind.i64.wrap (v1_1139 - 1)) 4)) (gt v0_1138 v1_1139)) v1_1139 (gt v0_1138 (IntKind.i64.wrap (Int.tdiv (IntKind.i64.wrap (v1_1139 - 1)) 4))))).length) rfl (.len (by simp [rws, st])) ?_
              refine Safe.see 14 (u := V.ref [12, 0] 0 (rws api_Timer.cells (st (st v0_1138 (IntKind.i64.wrap (Int.tdiv (IntKind.i64.wrap (v1_1139 - 1)) 4)) (gt v0_1138 v1_1139)) v1_1139 (gt v0_1138 (IntKind.i64.wrap (Int.tdiv (IntKind.i64.wrap (v1_1139 - 1)) 4))))).length) rfl (.len (by simp [rws, st])) ?_
              refine Safe.see 20 (u := V.ref [12, 0] 0 (rws api_Timer.cells (st (st v0_1138 (IntKind.i64.wrap (Int.tdiv (IntKind.i64.wrap (v1_1139 - 1)) 4)) (gt v0_1138 v1_1139)) v1_1139 (gt v0_1138 (IntKind.i64.wrap (Int.tdiv (IntKind.i64.wrap (v1_1139 - 1)) 4))))).length) rfl (.len (by simp [rws, st])) ?_
              refine Safe.see 22 (u := V.ref [12, 0] 0 (rws api_Timer.cells (st (st v0_1138 (IntKind.i64.wrap (Int.tdiv (IntKind.i64.wrap (v1_1139 - 1)) 4)) (gt v0_1138 v1_1139)) v1_1139 (gt v0_1138 (IntKind.i64.wrap (Int.tdiv (IntKind.i64.wrap (v1_1139 - 1)) 4))))).length) rfl (.len (by simp [rws, st])) ?_
              refine Safe.see 24 (u := V.ref [12, 0] 0 (rws api_Timer.cells (st (st v0_1138 (IntKind.i64.wrap (Int.tdiv (IntKind.i64.wrap (v1_1139 - 1)) 4)) (gt v0_1138 v1_1139)) v1_1139 (gt v0_1138 (IntKind.i64.wrap (Int.tdiv (IntKind.i64.wrap (v1_1139 - 1)) 4))))).length) rfl (.len (by simp [rws, st])) ?_
              refine Safe.see 28 (u := V.ref [12, 0] 0 (rws api_Timer.cells (st (st v0_1138 (IntKind.i64.wrap (Int.tdiv (IntKind.i64.wrap (v1_1139 - 1)) 4)) (gt v0_1138 v1_1139)) v1_1139 (gt v0_1138 (IntKind.i64.wrap (Int.tdiv (IntKind.i64.wrap (v1_1139 - 1)) 4))))).length) rfl (.len (by simp [rws, st])) ?_
              repeat (first | refine Safe.seq ?_ | refine Safe.skip ?_ | with_reducible refine thenQ.n ?_ | with_reducible refine blockQ.n ?_)
              refine Safe.region ?_
              refine SafeOps.quiet0 E_good rfl rfl rfl (v := V.int .i64 (IntKind.i64.wrap (Int.tdiv (IntKind.i64.wrap (v1_1139 - 1)) 4))) (.fn rfl) ?_
              refine SafeOps.quiet0 E_good rfl rfl rfl (v := V.int .i64 (IntKind.i64.wrap (Int.tdiv (IntKind.i64.wrap (v1_1139 - 1)) 4))) (.fn rfl) ?_
              refine SafeOps.nil ?_
              repeat (first | refine Safe.seq ?_ | refine Safe.skip ?_ | with_reducible refine thenQ.n ?_ | with_reducible refine blockQ.n ?_)
              exact ⟨_, next_out h, (.cov ⟨rfl, rfl, (upT_cons (.refl _) (upT_cons (.refl _) upT_nil)), (upOb_cons rfl (.refl _) upOb_nil), (upOut_cons rfl (upT_cons (.len (by simp [rws, st])) upT_nil) (upOut_cons rfl upT_nil upOut_nil)), rfl⟩)⟩
          · skip
            refine Safe.condN rfl hc1141 ?_
            repeat (first | refine Safe.seq ?_ | refine Safe.skip ?_ | with_reducible refine thenQ.n ?_ | with_reducible refine blockQ.n ?_)
            refine Safe.exit ?_
            repeat (first | with_reducible refine thenQ.e ?_ | with_reducible refine blockQ.x rfl ?_ | with_reducible refine blockQ.y rfl ?_)
            replace h := inr_out h hr1140
            repeat (first | refine Safe.seq ?_ | refine Safe.skip ?_ | with_reducible refine thenQ.n ?_ | with_reducible refine blockQ.n ?_)
            repeat (first | with_reducible refine thenQ.r ?_ | with_reducible refine blockQ.r ?_)
            refine inQ.gen (vs := []) (v := V.tup []) (.inl rfl) rfl .nil rfl ?_
            refine SafeOps.nil ?_
            repeat (first | refine Safe.seq ?_ | refine Safe.skip ?_ | with_reducible refine thenQ.n ?_ | with_reducible refine blockQ.n ?_)
            refine Safe.region ?_
            refine SafeOps.quiet0 E_good rfl rfl rfl (v := V.ref [12, 0] 0 (rws api_Timer.cells v0_1138).length) (.fn rfl) ?_
            refine SafeOps.quiet0 E_good rfl rfl rfl (v := V.ref [12, 0] 0 (rws api_Timer.cells v0_1138).length) (.fn rfl) ?_
            refine SafeOps.nil ?_
            repeat (first | refine Safe.seq ?_ | refine Safe.skip ?_ | with_reducible refine thenQ.n ?_ | with_reducible refine blockQ.n ?_)
            refine Safe.ret ?_
            repeat (first | with_reducible refine thenQ.r ?_ | with_reducible refine blockQ.r ?_)
            refine inQ.gen (vs := [V.ref [12, 0] 0 (rws api_Timer.cells v0_1138).length]) (v := V.ref [12, 0] 0 (rws api_Timer.cells v0_1138).length) (.inr rfl) rfl (.tmp (v := V.ref [12, 0] 0 (rws api_Timer.cells v0_1138).length) rfl .nil) rfl ?_
            refine SafeOps.quiet0 E_good rfl rfl rfl (v := V.ref [12, 0] 0 (rws api_Timer.cells v0_1138).length) (.fn rfl) ?_
            refine SafeOps.quiet0 E_good rfl rfl rfl (v := V.int .i64 0) (.fn rfl) ?_
            refine SafeOps.nil ?_
            repeat (first | refine Safe.seq ?_ | refine Safe.skip ?_ | with_reducible refine thenQ.n ?_ | with_reducible refine blockQ.n ?_)
            refine Safe.ret ?_
            repeat (first | with_reducible refine thenQ.r ?_ | with_reducible refine blockQ.r ?_)
            obtain rfl := Option.some.inj h
            exact retQ.gen (vs := [V.ref [12, 0] 0 (rws api_Timer.cells v0_1138).length, V.int .i64 0]) rfl (.tmp (v := V.ref [12, 0] 0 (rws api_Timer.cells v0_1138).length) rfl (.tmp (v := V.int .i64 0) rfl .nil)) (by exact (.tup (.cons (.own rfl rfl) (.cons (.free rfl) .nil)))) (by simp) (.inr rfl)
        · skip
          refine Safe.condN rfl hc1115 ?_
          repeat (first | refine Safe.seq ?_ | refine Safe.skip ?_ | with_reducible refine thenQ.n ?_ | with_reducible refine blockQ.n ?_)
          refine Safe.regionD (n := 16) [(13, [12, 0]), (15, [12, 0])] [] E_good mixed rfl ?_
          refine DAny.take (i := 0) rfl (by kernel_rfl) [[12, 0]] (by kernel_rfl) (by kernel_rfl) (by kernel_rfl) rfl rfl rfl (v := V.ref [12, 0] 0 (rws api_Timer.cells v0_1060).length) (fun _ hz => (.fn rfl)) ?_
          refine DAny.take (i := 1) rfl (by kernel_rfl) [[12, 0]] (by kernel_rfl) (by kernel_rfl) (by kernel_rfl) rfl rfl rfl (v := V.int .i64 v4_1105) (fun _ hz => (.fn rfl)) ?_
          refine DAny.take (i := 2) rfl (by kernel_rfl) [[12, 0]] (by kernel_rfl) (by kernel_rfl) (by kernel_rfl) rfl rfl rfl (v := V.ref [12, 0] 0 (rws api_Timer.cells v0_1060).length) (fun _ hz => (.fn rfl)) ?_
          refine DAny.take (i := 3) rfl (by kernel_rfl) [[12, 0]] (by kernel_rfl) (by kernel_rfl) (by kernel_rfl) rfl rfl rfl (v := V.int .i64 v1_1061) (fun _ hz => (.fn rfl)) ?_
          refine DAny.take (i := 4) rfl (by kernel_rfl) [[12, 0]] (by kernel_rfl) (by kernel_rfl) (by kernel_rfl) rfl rfl rfl (v := V.ref [12, 0] 0 (rws api_Timer.cells v0_1060).length) (fun _ hz => (.fn rfl)) ?_
          refine DAny.take (i := 5) rfl (by kernel_rfl) [[12, 0]] (by kernel_rfl) (by kernel_rfl) (by kernel_rfl) rfl rfl rfl (v := V.int .i64 v1_1061) (fun _ hz => (.fn rfl)) ?_
          refine okG h (fun hb1151 h => ?_)
          refine DAny.take (i := 6) rfl (by kernel_rfl) [] (by kernel_rfl) (by kernel_rfl) (by kernel_rfl) rfl rfl rfl (v := V.ptr [12, 0] (0 + Int.toNat v1_1061) 0) (fun _ hz => (.idxRefM (f := api_Timer.cells) (xs := v0_1060) rfl rfl rfl (hz _ _ rfl rfl) rfl rfl hb1151)) ?_
          refine DAny.take (i := 7) rfl (by kernel_rfl) [] (by kernel_rfl) (by kernel_rfl) (by kernel_rfl) rfl rfl rfl (v := V.agg [V.int .i64 ((gt v0_1060 v1_1061).At), V.int .i64 ((gt v0_1060 v1_1061).Id)]) (fun _ hz => (.load rfl rfl (.rowsM (f := api_Timer.cells) (xs := v0_1060) hb1151 (hz _ _ rfl rfl) rfl) rfl)) ?_
          refine DAny.take (i := 8) rfl (by kernel_rfl) [[12, 0]] (by kernel_rfl) (by kernel_rfl) (by kernel_rfl) rfl rfl rfl (v := V.ref [12, 0] 0 (rws api_Timer.cells v0_1060).length) (fun _ hz => (.fn rfl)) ?_
          refine DAny.take (i := 9) rfl (by kernel_rfl) [[12, 0]] (by kernel_rfl) (by kernel_rfl) (by kernel_rfl) rfl rfl rfl (v := V.int .i64 v4_1105) (fun _ hz => (.fn rfl)) ?_
          refine okG h (fun hb1152 h => ?_)
          refine DAny.take (i := 10) rfl (by kernel_rfl) [] (by kernel_rfl) (by kernel_rfl) (by kernel_rfl) rfl rfl rfl (v := V.ptr [12, 0] (0 + Int.toNat v4_1105) 0) (fun _ hz => (.idxRefM (f := api_Timer.cells) (xs := v0_1060) rfl rfl rfl (hz _ _ rfl rfl) rfl rfl hb1152)) ?_
          refine DAny.take (i := 11) rfl (by kernel_rfl) [] (by kernel_rfl) (by kernel_rfl) (by kernel_rfl) rfl rfl rfl (v := V.agg [V.int .i64 ((gt v0_1060 v4_1105).At), V.int .i64 ((gt v0_1060 v4_1105).Id)]) (fun _ hz => (.load rfl rfl (.rowsM (f := api_Timer.cells) (xs := v0_1060) hb1152 (hz _ _ rfl rfl) rfl) rfl)) ?_
          refine okG h (fun hb1153 h => ?_)
          refine DAny.take (i := 12) rfl (by kernel_rfl) [] (by kernel_rfl) (by kernel_rfl) (by kernel_rfl) rfl rfl rfl (v := V.ptr [12, 0] (0 + Int.toNat v4_1105) 0) (fun _ hz => (.idxRefM (f := api_Timer.cells) (xs := v0_1060) rfl rfl rfl (hz _ _ rfl rfl) rfl rfl hb1153)) ?_
          refine DAny.only (i := 13) rfl (by kernel_rfl) (.store (z := Obj.rows 2 (rws api_Timer.cells (st v0_1060 v4_1105 (gt v0_1060 v1_1061))) false) rfl rfl rfl rfl rfl rfl rfl (.rowsM (f := api_Timer.cells) (xs := v0_1060) (y := (gt v0_1060 v1_1061)) hb1153 rfl rfl rfl rfl) rfl ?_)
          refine okG h (fun hb1154 h => ?_)
          refine DAny.take (i := 14) rfl (by kernel_rfl) [] (by kernel_rfl) (by kernel_rfl) (by kernel_rfl) rfl rfl rfl (v := V.ptr [12, 0] (0 + Int.toNat v1_1061) 0) (fun _ hz => (.idxRefL (f := api_Timer.cells) (xs := st v0_1060 v4_1105 (gt v0_1060 v1_1061)) (ys := v0_1060) rfl rfl rfl (hz _ _ rfl rfl) rfl (by simp [st]) hb1154)) ?_
          refine DAny.only (i := 15) rfl (by kernel_rfl) (.store (z := Obj.rows 2 (rws api_Timer.cells (st (st v0_1060 v4_1105 (gt v0_1060 v1_1061)) v1_1061 (gt v0_1060 v4_1105))) false) rfl rfl rfl rfl rfl rfl rfl (.rowsM (f := api_Timer.cells) (xs := st v0_1060 v4_1105 (gt v0_1060 v1_1061)) (y := (gt v0_1060 v4_1105)) hb1154 rfl rfl rfl rfl) rfl ?_)
          refine DAny.nil (by kernel_rfl) ?_
          repeat (first | refine Safe.seq ?_ | refine Safe.skip ?_ | with_reducible refine thenQ.n ?_ | with_reducible refine blockQ.n ?_)
          refine Safe.see 0 (u := V.ref [12, 0] 0 (rws api_Timer.cells (st (st v0_1060 v4_1105 (gt v0_1060 v1_1061)) v1_1061 (gt v0_1060 v4_1105))).length) rfl (.len (by simp [rws, st])) ?_
          refine Safe.see 37 (u := V.ref [12, 0] 0 (rws api_Timer.cells (st (st v0_1060 v4_1105 (gt v0_1060 v1_1061)) v1_1061 (gt v0_1060 v4_1105))).length) rfl (.len (by simp [rws, st])) ?_
          refine Safe.see 39 (u := V.ref [12, 0] 0 (rws api_Timer.cells (st (st v0_1060 v4_1105 (gt v0_1060 v1_1061)) v1_1061 (gt v0_1060 v4_1105))).length) rfl (.len (by simp [rws, st])) ?_
          refine Safe.see 41 (u := V.ref [12, 0] 0 (rws api_Timer.cells (st (st v0_1060 v4_1105 (gt v0_1060 v1_1061)) v1_1061 (gt v0_1060 v4_1105))).length) rfl (.len (by simp [rws, st])) ?_
          refine Safe.see 45 (u := V.ref [12, 0] 0 (rws api_Timer.cells (st (st v0_1060 v4_1105 (gt v0_1060 v1_1061)) v1_1061 (gt v0_1060 v4_1105))).length) rfl (.len (by simp [rws, st])) ?_
          repeat (first | refine Safe.seq ?_ | refine Safe.skip ?_ | with_reducible refine thenQ.n ?_ | with_reducible refine blockQ.n ?_)
          refine Safe.region ?_
          refine SafeOps.quiet0 E_good rfl rfl rfl (v := V.int .i64 v4_1105) (.fn rfl) ?_
          refine SafeOps.quiet0 E_good rfl rfl rfl (v := V.int .i64 v4_1105) (.fn rfl) ?_
          refine SafeOps.nil ?_
          repeat (first | refine Safe.seq ?_ | refine Safe.skip ?_ | with_reducible refine thenQ.n ?_ | with_reducible refine blockQ.n ?_)
          exact ⟨_, next_out h, (.cov ⟨rfl, rfl, (upT_cons (.refl _) (upT_cons (.refl _) upT_nil)), (upOb_cons rfl (.refl _) upOb_nil), (upOut_cons rfl (upT_cons (.len (by simp [rws, st])) (upT_cons (.refl _) upT_nil)) (upOut_cons rfl upT_nil upOut_nil)), rfl⟩)⟩
    · skip
      refine Safe.condN rfl hc943 ?_
      repeat (first | refine Safe.seq ?_ | refine Safe.skip ?_ | with_reducible refine thenQ.n ?_ | with_reducible refine blockQ.n ?_)
      refine Safe.region ?_
      refine SafeOps.quiet0 E_good rfl rfl rfl (v := V.ref [12, 0] 0 (rws api_Timer.cells (sub (st x_935 x_936 (gt x_935 (IntKind.i64.wrap ((x_935.length : Int) - 1)))) 0 (IntKind.i64.wrap ((x_935.length : Int) - 1)))).length) (.fn rfl) ?_
      refine SafeOps.quiet0 E_good rfl rfl rfl (v := V.ref [12, 0] 0 (rws api_Timer.cells (sub (st x_935 x_936 (gt x_935 (IntKind.i64.wrap ((x_935.length : Int) - 1)))) 0 (IntKind.i64.wrap ((x_935.length : Int) - 1)))).length) (.fn rfl) ?_
      refine SafeOps.nil ?_
      repeat (first | refine Safe.seq ?_ | refine Safe.skip ?_ | with_reducible refine thenQ.n ?_ | with_reducible refine blockQ.n ?_)
      refine Safe.ret ?_
      repeat (first | with_reducible refine thenQ.r ?_ | with_reducible refine blockQ.r ?_)
      refine inQ.gen (vs := [V.ref [12, 0] 0 (rws api_Timer.cells (sub (st x_935 x_936 (gt x_935 (IntKind.i64.wrap ((x_935.length : Int) - 1)))) 0 (IntKind.i64.wrap ((x_935.length : Int) - 1)))).length]) (v := V.ref [12, 0] 0 (rws api_Timer.cells (sub (st x_935 x_936 (gt x_935 (IntKind.i64.wrap ((x_935.length : Int) - 1)))) 0 (IntKind.i64.wrap ((x_935.length : Int) - 1)))).length) (.inr rfl) rfl (.tmp (v := V.ref [12, 0] 0 (rws api_Timer.cells (sub (st x_935 x_936 (gt x_935 (IntKind.i64.wrap ((x_935.length : Int) - 1)))) 0 (IntKind.i64.wrap ((x_935.length : Int) - 1)))).length) rfl .nil) rfl ?_
      refine SafeOps.quiet0 E_good rfl rfl rfl (v := V.ref [12, 0] 0 (rws api_Timer.cells (sub (st x_935 x_936 (gt x_935 (IntKind.i64.wrap ((x_935.length : Int) - 1)))) 0 (IntKind.i64.wrap ((x_935.length : Int) - 1)))).length) (.fn rfl) ?_
      refine SafeOps.quiet0 E_good rfl rfl rfl (v := V.int .i64 0) (.fn rfl) ?_
      refine SafeOps.nil ?_
      repeat (first | refine Safe.seq ?_ | refine Safe.skip ?_ | with_reducible refine thenQ.n ?_ | with_reducible refine blockQ.n ?_)
      refine Safe.ret ?_
      repeat (first | with_reducible refine thenQ.r ?_ | with_reducible refine blockQ.r ?_)
      obtain rfl := Option.some.inj h
      exact retQ.gen (vs := [V.ref [12, 0] 0 (rws api_Timer.cells (sub (st x_935 x_936 (gt x_935 (IntKind.i64.wrap ((x_935.length : Int) - 1)))) 0 (IntKind.i64.wrap ((x_935.length : Int) - 1)))).length, V.int .i64 0]) rfl (.tmp (v := V.ref [12, 0] 0 (rws api_Timer.cells (sub (st x_935 x_936 (gt x_935 (IntKind.i64.wrap ((x_935.length : Int) - 1)))) 0 (IntKind.i64.wrap ((x_935.length : Int) - 1)))).length) rfl (.tmp (v := V.int .i64 0) rfl .nil)) (by exact (.tup (.cons (.own rfl rfl) (.cons (.free rfl) .nil)))) (by simp) (.inr rfl)

noncomputable def go_ravelref08_Cancel_s1 (a1_1159 : Int) (x_1191 : List api_Timer) : ((List api_Timer) × Int) → Option (((List api_Timer) × Int) ⊕ ((List api_Timer) × Int))
  | (v6_1203, v19_1204) =>
    if (decide (v19_1204 < (x_1191.length : Int))) = true then
      if 0 ≤ v19_1204 ∧ v19_1204 < (x_1191.length : Int) then
        if (((gt x_1191 v19_1204).Id) != a1_1159) = true then
          if few (v6_1203 ++ [(gt x_1191 v19_1204)]).length then
            nextO (v6_1203 ++ [(gt x_1191 v19_1204)], IntKind.i64.wrap (v19_1204 + 1))
          else none
        else
          nextO (v6_1203, IntKind.i64.wrap (v19_1204 + 1))
      else none
    else
      inrO (
        some (v6_1203, 0))

noncomputable def go_ravelref08_Cancel (a0_1158 : List api_Timer) (a1_1159 : Int) : Option ((List api_Timer) × Int) :=
  (go_ravelref08_Check a0_1158).bind fun x_1185 =>
  if (x_1185 != 0) = true then
    some ([], 1)
  else
    (go_ravelref08_at a0_1158 a1_1159).bind fun x_1188 =>
    if (decide (x_1188 < 0)) = true then
      some ([], 5)
    else
      (go_ravelref08_Order a0_1158).bind fun x_1191 =>
      whileO (go_ravelref08_Cancel_s1 a1_1159 x_1191) ([], 0)

noncomputable def go_heap_Reset_s8  : ((List api_Timer) × Int) → Option (((List api_Timer) × Int) ⊕ ((List api_Timer) × Int))
  | (v8_1661, v1_1662) =>
    if (decide (v1_1662 > 0)) = true then
      if 0 ≤ (IntKind.i64.wrap (Int.tdiv (IntKind.i64.wrap (v1_1662 - 1)) 4)) ∧ (IntKind.i64.wrap (Int.tdiv (IntKind.i64.wrap (v1_1662 - 1)) 4)) < (v8_1661.length : Int) then
        if 0 ≤ v1_1662 ∧ v1_1662 < (v8_1661.length : Int) then
          (go_heap_order (gt v8_1661 (IntKind.i64.wrap (Int.tdiv (IntKind.i64.wrap (v1_1662 - 1)) 4))) (gt v8_1661 v1_1662)).bind fun x_1667 =>
          if (decide (x_1667 ≤ 0)) = true then
            inrO (
              some (v8_1661, 0))
          else
            if 0 ≤ v1_1662 ∧ v1_1662 < (v8_1661.length : Int) then
              if 0 ≤ (IntKind.i64.wrap (Int.tdiv (IntKind.i64.wrap (v1_1662 - 1)) 4)) ∧ (IntKind.i64.wrap (Int.tdiv (IntKind.i64.wrap (v1_1662 - 1)) 4)) < (v8_1661.length : Int) then
                if 0 ≤ (IntKind.i64.wrap (Int.tdiv (IntKind.i64.wrap (v1_1662 - 1)) 4)) ∧ (IntKind.i64.wrap (Int.tdiv (IntKind.i64.wrap (v1_1662 - 1)) 4)) < (v8_1661.length : Int) then
                  if 0 ≤ v1_1662 ∧ v1_1662 < ((st v8_1661 (IntKind.i64.wrap (Int.tdiv (IntKind.i64.wrap (v1_1662 - 1)) 4)) (gt v8_1661 v1_1662)).length : Int) then
                    nextO (st (st v8_1661 (IntKind.i64.wrap (Int.tdiv (IntKind.i64.wrap (v1_1662 - 1)) 4)) (gt v8_1661 v1_1662)) v1_1662 (gt v8_1661 (IntKind.i64.wrap (Int.tdiv (IntKind.i64.wrap (v1_1662 - 1)) 4))), IntKind.i64.wrap (Int.tdiv (IntKind.i64.wrap (v1_1662 - 1)) 4))
                  else none
                else none
              else none
            else none
        else none
      else none
    else
      inrO (
        some (v8_1661, 0))

noncomputable def go_heap_Reset_s7 (x_1455 : Int) (v8_1583 : List api_Timer) (v1_1584 : Int) : (Int × Int) → Option ((Int × Int) ⊕ (((List api_Timer) × Int) ⊕ ((List api_Timer) × Int)))
  | (v4_1628, v5_1629) =>
    if ((decide (v5_1629 ≤ (IntKind.i64.wrap ((IntKind.i64.wrap (4 * v1_1584)) + 4)))) && (decide (v5_1629 < (v8_1583.length : Int)))) = true then
      if 0 ≤ v5_1629 ∧ v5_1629 < (v8_1583.length : Int) then
        if 0 ≤ v4_1628 ∧ v4_1628 < (v8_1583.length : Int) then
          (go_heap_order (gt v8_1583 v5_1629) (gt v8_1583 v4_1628)).bind fun x_1635 =>
          if (decide (x_1635 < 0)) = true then
            nextO (v5_1629, IntKind.i64.wrap (v5_1629 + 1))
          else
            nextO (v4_1628, IntKind.i64.wrap (v5_1629 + 1))
        else none
      else none
    else
      inrO (
        if (v4_1628 == v1_1584) = true then
          inrO (
            whileO go_heap_Reset_s8 (v8_1583, x_1455))
        else
          if 0 ≤ v1_1584 ∧ v1_1584 < (v8_1583.length : Int) then
            if 0 ≤ v4_1628 ∧ v4_1628 < (v8_1583.length : Int) then
              if 0 ≤ v4_1628 ∧ v4_1628 < (v8_1583.length : Int) then
                if 0 ≤ v1_1584 ∧ v1_1584 < ((st v8_1583 v4_1628 (gt v8_1583 v1_1584)).length : Int) then
                  nextO (st (st v8_1583 v4_1628 (gt v8_1583 v1_1584)) v1_1584 (gt v8_1583 v4_1628), v4_1628)
                else none
              else none
            else none
          else none)

noncomputable def go_heap_Reset_s5 (x_1455 : Int) : ((List api_Timer) × Int) → Option (((List api_Timer) × Int) ⊕ ((List api_Timer) × Int))
  | (v8_1583, v1_1584) =>
    whileO (go_heap_Reset_s7 x_1455 v8_1583 v1_1584) (v1_1584, IntKind.i64.wrap ((IntKind.i64.wrap (4 * v1_1584)) + 1))

noncomputable def go_heap_Reset (a0_1213 : List api_Timer) (a1_1214 : Int) (a2_1215 : Int) : Option ((List api_Timer) × Int) :=
  (go_heap_find a0_1213 a1_1214).bind fun (x_1454, x_1455, x_1456) =>
  if (((x_1456 == 1) || (decide (a2_1215 < 0))) || (decide (a2_1215 > 1125899906842624))) = true then
    some ([], 1)
  else
    if (x_1456 != 0) = true then
      some ([], x_1456)
    else
      if 0 ≤ x_1455 ∧ x_1455 < (x_1454.length : Int) then
        whileO (go_heap_Reset_s5 x_1455) (st x_1454 x_1455 (api_Timer.mk a2_1215 ((gt x_1454 x_1455).Id)), x_1455)
      else none

theorem go_heap_Reset_sc (a0_1213 : List api_Timer) (a1_1214 : Int) (a2_1215 : Int) (r : (List api_Timer) × Int) (h : go_heap_Reset a0_1213 a1_1214 a2_1215 = some r) : SC Try.prog gl 15 [V.sl 2 (rws api_Timer.cells a0_1213), V.int .i64 a1_1214, V.int .i64 a2_1215] (V.tup [V.own 2 (rws api_Timer.cells r.1), V.int .i64 r.2]) := by
  rw [go_heap_Reset] at h
  refine SC.of E_good Try.func15 rfl (fun _ _ => Try.call15 _ _) rfl ?_
  repeat (first | refine Safe.seq ?_ | refine Safe.skip ?_ | with_reducible refine thenQ.n ?_ | with_reducible refine blockQ.n ?_)
  refine Safe.region ?_
  refine SafeOps.quiet0 E_good rfl rfl rfl (v := V.nils) (.fn rfl) ?_
  refine SafeOps.quiet0 E_good rfl rfl rfl (v := V.int .i64 0) (.fn rfl) ?_
  refine SafeOps.nil ?_
  repeat (first | refine Safe.seq ?_ | refine Safe.skip ?_ | with_reducible refine thenQ.n ?_ | with_reducible refine blockQ.n ?_)
  refine Safe.region ?_
  refine SafeOps.quiet0 E_good rfl rfl rfl (v := V.sl 2 (rws api_Timer.cells a0_1213)) (.fn rfl) ?_
  refine SafeOps.quiet0 E_good rfl rfl rfl (v := V.int .i64 a1_1214) (.fn rfl) ?_
  refine bindG h ?_
  rintro ⟨x_1454, x_1455, x_1456⟩ he1457 h
  refine SafeOps.quiet E_good rfl rfl rfl (v := V.tup [V.ref [14, 0] 0 (rws api_Timer.cells x_1454).length, V.int .i64 x_1455, V.int .i64 x_1456]) (.callP rfl rfl (go_heap_find_sc a0_1213 a1_1214 _ he1457) rfl) rfl ?_
  refine SafeOps.quiet0 E_good rfl rfl rfl (v := V.tup [V.ref [14, 0] 0 (rws api_Timer.cells x_1454).length, V.int .i64 x_1455, V.int .i64 x_1456]) (.fn rfl) ?_
  refine SafeOps.quiet0 E_good rfl rfl rfl (v := V.ref [14, 0] 0 (rws api_Timer.cells x_1454).length) (.fn rfl) ?_
  refine SafeOps.quiet0 E_good rfl rfl rfl (v := V.int .i64 x_1455) (.fn rfl) ?_
  refine SafeOps.quiet0 E_good rfl rfl rfl (v := V.int .i64 x_1456) (.fn rfl) ?_
  refine SafeOps.quiet0 E_good rfl rfl rfl (v := V.ref [14, 0] 0 (rws api_Timer.cells x_1454).length) (.fn rfl) ?_
  refine SafeOps.quiet0 E_good rfl rfl rfl (v := V.int .i64 x_1455) (.fn rfl) ?_
  refine SafeOps.quiet0 E_good rfl rfl rfl (v := V.int .i64 x_1456) (.fn rfl) ?_
  refine SafeOps.nil ?_
  repeat (first | refine Safe.seq ?_ | refine Safe.skip ?_ | with_reducible refine thenQ.n ?_ | with_reducible refine blockQ.n ?_)
  refine Safe.block ?_
  repeat (first | refine Safe.seq ?_ | refine Safe.skip ?_ | with_reducible refine thenQ.n ?_ | with_reducible refine blockQ.n ?_)
  refine Safe.region ?_
  refine SafeOps.quiet0 E_good rfl rfl rfl (v := V.int .i64 x_1456) (.fn rfl) ?_
  refine SafeOps.quiet0 E_good rfl rfl rfl (v := V.bool (x_1456 == 1)) (.fn rfl) ?_
  refine SafeOps.quiet0 E_good rfl rfl rfl (v := V.bool (x_1456 == 1)) (.fn rfl) ?_
  refine SafeOps.bjoin 3 24 (b := ((x_1456 == 1) || (decide (a2_1215 < 0)))) (b1 := true) (b0 := decide (a2_1215 < 0)) (fun hc1462 K => ?_) (fun hc1462 K => ?_) bj_or ?_
  · skip
    refine SafeOps.skip (congrArg (fun b => some (!b)) hc1462) rfl rfl ?_
    refine SafeOps.skip (congrArg (fun b => some (!b)) hc1462) rfl rfl ?_
    refine SafeOps.quiet0 E_good rfl rfl rfl (v := V.bool true) (.pickK rfl hc1462 rfl) ?_
    exact SafeOps.drop' 3 rfl rfl rfl K
  · skip
    refine SafeOps.quiet0 E_good (congrArg (fun b => some (!b)) hc1462) rfl rfl (v := V.int .i64 a2_1215) (.fn rfl) ?_
    refine SafeOps.quiet0 E_good (congrArg (fun b => some (!b)) hc1462) rfl rfl (v := V.bool (decide (a2_1215 < 0))) (.fn rfl) ?_
    refine SafeOps.quiet0 E_good rfl rfl rfl (v := V.bool (decide (a2_1215 < 0))) (.pickK rfl hc1462 rfl) ?_
    exact SafeOps.drop' 3 rfl rfl rfl K
  refine SafeOps.quiet0 E_good rfl rfl rfl (v := V.bool ((x_1456 == 1) || (decide (a2_1215 < 0)))) (.fn rfl) ?_
  refine SafeOps.bjoin 3 28 (b := (((x_1456 == 1) || (decide (a2_1215 < 0))) || (decide (a2_1215 > 1125899906842624)))) (b1 := true) (b0 := decide (a2_1215 > 1125899906842624)) (fun hc1463 K => ?_) (fun hc1463 K => ?_) bj_or ?_
  · skip
    refine SafeOps.skip (congrArg (fun b => some (!b)) hc1463) rfl rfl ?_
    refine SafeOps.skip (congrArg (fun b => some (!b)) hc1463) rfl rfl ?_
    refine SafeOps.quiet0 E_good rfl rfl rfl (v := V.bool true) (.pickK rfl hc1463 rfl) ?_
    exact SafeOps.drop' 3 rfl rfl rfl K
  · skip
    refine SafeOps.quiet0 E_good (congrArg (fun b => some (!b)) hc1463) rfl rfl (v := V.int .i64 a2_1215) (.fn rfl) ?_
    refine SafeOps.quiet0 E_good (congrArg (fun b => some (!b)) hc1463) rfl rfl (v := V.bool (decide (a2_1215 > 1125899906842624))) (.fn rfl) ?_
    refine SafeOps.quiet0 E_good rfl rfl rfl (v := V.bool (decide (a2_1215 > 1125899906842624))) (.pickK rfl hc1463 rfl) ?_
    exact SafeOps.drop' 3 rfl rfl rfl K
  refine SafeOps.quiet0 E_good rfl rfl rfl (v := V.bool (((x_1456 == 1) || (decide (a2_1215 < 0))) || (decide (a2_1215 > 1125899906842624)))) (.fn rfl) ?_
  refine SafeOps.nil ?_
  repeat (first | refine Safe.seq ?_ | refine Safe.skip ?_ | with_reducible refine thenQ.n ?_ | with_reducible refine blockQ.n ?_)
  refine ifG h (fun hc1464 h => ?_) (fun hc1464 h => ?_)
  · skip
    refine Safe.condK rfl hc1464 ?_
    repeat (first | refine Safe.seq ?_ | refine Safe.skip ?_ | with_reducible refine thenQ.n ?_ | with_reducible refine blockQ.n ?_)
    refine Safe.region ?_
    refine SafeOps.quiet0 E_good rfl rfl rfl (v := V.nils) (.fn rfl) ?_
    refine SafeOps.quiet0 E_good rfl rfl rfl (v := V.int .i64 1) (.fn rfl) ?_
    refine SafeOps.nil ?_
    repeat (first | refine Safe.seq ?_ | refine Safe.skip ?_ | with_reducible refine thenQ.n ?_ | with_reducible refine blockQ.n ?_)
    refine Safe.ret ?_
    repeat (first | with_reducible refine thenQ.r ?_ | with_reducible refine blockQ.r ?_)
    obtain rfl := Option.some.inj h
    exact retQ.gen (vs := [V.nils, V.int .i64 1]) rfl (.tmp (v := V.nils) rfl (.tmp (v := V.int .i64 1) rfl .nil)) (by exact (.tup (.cons (.nils _) (.cons (.free rfl) .nil)))) (by simp) (.inr rfl)
  · skip
    refine Safe.condN rfl hc1464 ?_
    repeat (first | refine Safe.seq ?_ | refine Safe.skip ?_ | with_reducible refine thenQ.n ?_ | with_reducible refine blockQ.n ?_)
    refine Safe.region ?_
    refine SafeOps.quiet0 E_good rfl rfl rfl (v := V.int .i64 x_1456) (.fn rfl) ?_
    refine SafeOps.quiet0 E_good rfl rfl rfl (v := V.bool (x_1456 != 0)) (.fn rfl) ?_
    refine SafeOps.quiet0 E_good rfl rfl rfl (v := V.bool (x_1456 != 0)) (.fn rfl) ?_
    refine SafeOps.nil ?_
    repeat (first | refine Safe.seq ?_ | refine Safe.skip ?_ | with_reducible refine thenQ.n ?_ | with_reducible refine blockQ.n ?_)
    refine ifG h (fun hc1465 h => ?_) (fun hc1465 h => ?_)
    · skip
      refine Safe.condK rfl hc1465 ?_
      repeat (first | refine Safe.seq ?_ | refine Safe.skip ?_ | with_reducible refine thenQ.n ?_ | with_reducible refine blockQ.n ?_)
      refine Safe.region ?_
      refine SafeOps.quiet0 E_good rfl rfl rfl (v := V.int .i64 x_1456) (.fn rfl) ?_
      refine SafeOps.quiet0 E_good rfl rfl rfl (v := V.nils) (.fn rfl) ?_
      refine SafeOps.quiet0 E_good rfl rfl rfl (v := V.int .i64 x_1456) (.fn rfl) ?_
      refine SafeOps.nil ?_
      repeat (first | refine Safe.seq ?_ | refine Safe.skip ?_ | with_reducible refine thenQ.n ?_ | with_reducible refine blockQ.n ?_)
      refine Safe.ret ?_
      repeat (first | with_reducible refine thenQ.r ?_ | with_reducible refine blockQ.r ?_)
      obtain rfl := Option.some.inj h
      exact retQ.gen (vs := [V.nils, V.int .i64 x_1456]) rfl (.tmp (v := V.nils) rfl (.tmp (v := V.int .i64 x_1456) rfl .nil)) (by exact (.tup (.cons (.nils _) (.cons (.free rfl) .nil)))) (by simp) (.inr rfl)
    · skip
      refine Safe.condN rfl hc1465 ?_
      repeat (first | refine Safe.seq ?_ | refine Safe.skip ?_ | with_reducible refine thenQ.n ?_ | with_reducible refine blockQ.n ?_)
      refine Safe.region ?_
      refine SafeOps.quiet0 E_good rfl rfl rfl (v := V.ref [14, 0] 0 (rws api_Timer.cells x_1454).length) (.fn rfl) ?_
      refine SafeOps.quiet0 E_good rfl rfl rfl (v := V.int .i64 x_1455) (.fn rfl) ?_
      refine SafeOps.quiet0 E_good rfl rfl rfl (v := V.int .i64 a2_1215) (.fn rfl) ?_
      refine okG h (fun hb1466 h => ?_)
      refine SafeOps.quiet0 E_good rfl rfl rfl (v := V.ptr [14, 0] (0 + Int.toNat x_1455) 0) (.idxRefM (f := api_Timer.cells) (xs := x_1454) rfl rfl rfl rfl rfl rfl hb1466) ?_
      refine SafeOps.quiet0 E_good rfl rfl rfl (v := V.ptr [14, 0] (0 + Int.toNat x_1455) 0) (.fn rfl) ?_
      refine SafeOps.store (z := Obj.rows 2 (rws api_Timer.cells (st x_1454 x_1455 (api_Timer.mk a2_1215 ((gt x_1454 x_1455).Id)))) false) E_good rfl rfl rfl rfl rfl rfl rfl (.rowsM (f := api_Timer.cells) (xs := x_1454) (y := (api_Timer.mk a2_1215 ((gt x_1454 x_1455).Id))) hb1466 rfl rfl rfl rfl) ?_
      refine SafeOps.see 15 (u := V.ref [14, 0] 0 (rws api_Timer.cells (st x_1454 x_1455 (api_Timer.mk a2_1215 ((gt x_1454 x_1455).Id)))).length) rfl (.len (by simp [rws, st])) ?_
      refine SafeOps.see 8 (u := V.ref [14, 0] 0 (rws api_Timer.cells (st x_1454 x_1455 (api_Timer.mk a2_1215 ((gt x_1454 x_1455).Id)))).length) rfl (.len (by simp [rws, st])) ?_
      refine SafeOps.see 33 (u := V.ref [14, 0] 0 (rws api_Timer.cells (st x_1454 x_1455 (api_Timer.mk a2_1215 ((gt x_1454 x_1455).Id)))).length) rfl (.len (by simp [rws, st])) ?_
      refine SafeOps.nil ?_
      repeat (first | refine Safe.seq ?_ | refine Safe.skip ?_ | with_reducible refine thenQ.n ?_ | with_reducible refine blockQ.n ?_)
      refine Safe.region ?_
      refine SafeOps.quiet0 E_good rfl rfl rfl (v := V.ref [14, 0] 0 (rws api_Timer.cells (st x_1454 x_1455 (api_Timer.mk a2_1215 ((gt x_1454 x_1455).Id)))).length) (.fn rfl) ?_
      refine SafeOps.quiet0 E_good rfl rfl rfl (v := V.int .i64 x_1455) (.fn rfl) ?_
      refine SafeOps.inline E_good rfl rfl rfl rfl rfl Try.func40 rfl (fun _ _ => Try.call40 _ _) rfl ?_
      repeat (first | refine Safe.seq ?_ | refine Safe.skip ?_ | with_reducible refine thenQ.n ?_ | with_reducible refine blockQ.n ?_)
      refine Safe.block ?_
      repeat (first | refine Safe.seq ?_ | refine Safe.skip ?_ | with_reducible refine thenQ.n ?_ | with_reducible refine blockQ.n ?_)
      refine Safe.loopW (fun ((v8_1583, v1_1584) : (List api_Timer) × Int) => ⟨Try.f40.ntmps, [(0, V.ref [14, 0] 0 (rws api_Timer.cells v8_1583).length), (1, V.int .i64 v1_1584)], [([14, 0], Obj.rows 2 (rws api_Timer.cells v8_1583) false)], [(Try.f15.ntmps, [(8, V.ref [14, 0] 0 (rws api_Timer.cells v8_1583).length), (9, V.int .i64 x_1455)])], [40]⟩) h (.cov ⟨rfl, rfl, (upT_cons (.refl _) (upT_cons (.refl _) upT_nil)), (upOb_cons rfl (.refl _) upOb_nil), (upOut_cons rfl (upT_cons (.refl _) (upT_cons (.refl _) upT_nil)) upOut_nil), rfl⟩) ?_
      rintro ⟨v8_1583, v1_1584⟩ ohr1585 h hr1585
      replace h : go_heap_Reset_s5 x_1455 (v8_1583, v1_1584) = some ohr1585 := h
      rw [go_heap_Reset_s5] at h
      repeat (first | refine Safe.seq ?_ | refine Safe.skip ?_ | with_reducible refine thenQ.n ?_ | with_reducible refine blockQ.n ?_)
      refine Safe.block ?_
      repeat (first | refine Safe.seq ?_ | refine Safe.skip ?_ | with_reducible refine thenQ.n ?_ | with_reducible refine blockQ.n ?_)
      refine Safe.region ?_
      refine SafeOps.quiet0 E_good rfl rfl rfl (v := V.int .i64 v1_1584) (.fn rfl) ?_
      refine SafeOps.quiet0 E_good rfl rfl rfl (v := V.int .i64 v1_1584) (.fn rfl) ?_
      refine SafeOps.nil ?_
      repeat (first | refine Safe.seq ?_ | refine Safe.skip ?_ | with_reducible refine thenQ.n ?_ | with_reducible refine blockQ.n ?_)
      refine Safe.region ?_
      refine SafeOps.quiet0 E_good rfl rfl rfl (v := V.int .i64 v1_1584) (.fn rfl) ?_
      refine SafeOps.quiet0 E_good rfl rfl rfl (v := V.int .i64 (IntKind.i64.wrap (4 * v1_1584))) (.fn rfl) ?_
      refine SafeOps.quiet0 E_good rfl rfl rfl (v := V.int .i64 (IntKind.i64.wrap ((IntKind.i64.wrap (4 * v1_1584)) + 1))) (.fn rfl) ?_
      refine SafeOps.quiet0 E_good rfl rfl rfl (v := V.int .i64 (IntKind.i64.wrap ((IntKind.i64.wrap (4 * v1_1584)) + 1))) (.fn rfl) ?_
      refine SafeOps.nil ?_
      repeat (first | refine Safe.seq ?_ | refine Safe.skip ?_ | with_reducible refine thenQ.n ?_ | with_reducible refine blockQ.n ?_)
      refine Safe.block ?_
      repeat (first | refine Safe.seq ?_ | refine Safe.skip ?_ | with_reducible refine thenQ.n ?_ | with_reducible refine blockQ.n ?_)
      refine Safe.loopW (fun ((v4_1628, v5_1629) : Int × Int) => ⟨Try.f40.ntmps, [(0, V.ref [14, 0] 0 (rws api_Timer.cells v8_1583).length), (1, V.int .i64 v1_1584), (4, V.int .i64 v4_1628), (5, V.int .i64 v5_1629)], [([14, 0], Obj.rows 2 (rws api_Timer.cells v8_1583) false)], [(Try.f15.ntmps, [(8, V.ref [14, 0] 0 (rws api_Timer.cells v8_1583).length), (9, V.int .i64 x_1455)])], [40]⟩) h (.cov ⟨rfl, rfl, (upT_cons (.refl _) (upT_cons (.refl _) (upT_cons (.refl _) (upT_cons (.refl _) upT_nil)))), (upOb_cons rfl (.refl _) upOb_nil), (upOut_cons rfl (upT_cons (.refl _) (upT_cons (.refl _) upT_nil)) upOut_nil), rfl⟩) ?_
      rintro ⟨v4_1628, v5_1629⟩ ohr1630 h hr1630
      replace h : go_heap_Reset_s7 x_1455 v8_1583 v1_1584 (v4_1628, v5_1629) = some ohr1630 := h
      rw [go_heap_Reset_s7] at h
      repeat (first | refine Safe.seq ?_ | refine Safe.skip ?_ | with_reducible refine thenQ.n ?_ | with_reducible refine blockQ.n ?_)
      refine Safe.region ?_
      refine SafeOps.quiet0 E_good rfl rfl rfl (v := V.int .i64 v5_1629) (.fn rfl) ?_
      refine SafeOps.quiet0 E_good rfl rfl rfl (v := V.int .i64 v1_1584) (.fn rfl) ?_
      refine SafeOps.quiet0 E_good rfl rfl rfl (v := V.int .i64 (IntKind.i64.wrap (4 * v1_1584))) (.fn rfl) ?_
      refine SafeOps.quiet0 E_good rfl rfl rfl (v := V.int .i64 (IntKind.i64.wrap ((IntKind.i64.wrap (4 * v1_1584)) + 4))) (.fn rfl) ?_
      refine SafeOps.quiet0 E_good rfl rfl rfl (v := V.bool (decide (v5_1629 ≤ (IntKind.i64.wrap ((IntKind.i64.wrap (4 * v1_1584)) + 4))))) (.fn rfl) ?_
      refine SafeOps.quiet0 E_good rfl rfl rfl (v := V.bool (decide (v5_1629 ≤ (IntKind.i64.wrap ((IntKind.i64.wrap (4 * v1_1584)) + 4))))) (.fn rfl) ?_
      refine SafeOps.bjoin 5 20 (b := ((decide (v5_1629 ≤ (IntKind.i64.wrap ((IntKind.i64.wrap (4 * v1_1584)) + 4)))) && (decide (v5_1629 < (v8_1583.length : Int))))) (b1 := decide (v5_1629 < (v8_1583.length : Int))) (b0 := false) (fun hc1631 K => ?_) (fun hc1631 K => ?_) bj_and ?_
      · skip
        refine SafeOps.quiet0 E_good (congrArg some hc1631) rfl rfl (v := V.int .i64 v5_1629) (.fn rfl) ?_
        refine SafeOps.quiet0 E_good (congrArg some hc1631) rfl rfl (v := V.ref [14, 0] 0 (rws api_Timer.cells v8_1583).length) (.fn rfl) ?_
        refine SafeOps.quiet0 E_good (congrArg some hc1631) rfl rfl (v := V.int .i64 (v8_1583.length : Int)) (.fnE rfl lenE) ?_
        refine SafeOps.quiet0 E_good (congrArg some hc1631) rfl rfl (v := V.bool (decide (v5_1629 < (v8_1583.length : Int)))) (.fn rfl) ?_
        refine SafeOps.quiet0 E_good rfl rfl rfl (v := V.bool (decide (v5_1629 < (v8_1583.length : Int)))) (.pickK rfl hc1631 rfl) ?_
        exact SafeOps.drop' 5 rfl rfl rfl K
      · skip
        refine SafeOps.skip (congrArg some hc1631) rfl rfl ?_
        refine SafeOps.skip (congrArg some hc1631) rfl rfl ?_
        refine SafeOps.skip (congrArg some hc1631) rfl rfl ?_
        refine SafeOps.skip (congrArg some hc1631) rfl rfl ?_
        refine SafeOps.quiet0 E_good rfl rfl rfl (v := V.bool false) (.pickK rfl hc1631 rfl) ?_
        exact SafeOps.drop' 5 rfl rfl rfl K
      refine SafeOps.nil ?_
      repeat (first | refine Safe.seq ?_ | refine Safe.skip ?_ | with_reducible refine thenQ.n ?_ | with_reducible refine blockQ.n ?_)
      refine ifG h (fun hc1632 h => ?_) (fun hc1632 h => ?_)
      · skip
        refine Safe.condK rfl hc1632 ?_
        repeat (first | refine Safe.seq ?_ | refine Safe.skip ?_ | with_reducible refine thenQ.n ?_ | with_reducible refine blockQ.n ?_)
        refine Safe.block ?_
        repeat (first | refine Safe.seq ?_ | refine Safe.skip ?_ | with_reducible refine thenQ.n ?_ | with_reducible refine blockQ.n ?_)
        refine Safe.regionD (n := 10) [] [] E_good mixed rfl ?_
        refine DAny.take (i := 0) rfl (by kernel_rfl) [] (by kernel_rfl) (by kernel_rfl) (by kernel_rfl) rfl rfl rfl (v := V.ref [14, 0] 0 (rws api_Timer.cells v8_1583).length) (fun _ hz => (.fn rfl)) ?_
        refine DAny.take (i := 1) rfl (by kernel_rfl) [] (by kernel_rfl) (by kernel_rfl) (by kernel_rfl) rfl rfl rfl (v := V.int .i64 v5_1629) (fun _ hz => (.fn rfl)) ?_
        refine okG h (fun hb1633 h => ?_)
        refine DAny.take (i := 2) rfl (by kernel_rfl) [] (by kernel_rfl) (by kernel_rfl) (by kernel_rfl) rfl rfl rfl (v := V.ptr [14, 0] (0 + Int.toNat v5_1629) 0) (fun _ hz => (.idxRefM (f := api_Timer.cells) (xs := v8_1583) rfl rfl rfl (hz _ _ rfl rfl) rfl rfl hb1633)) ?_
        refine DAny.take (i := 3) rfl (by kernel_rfl) [] (by kernel_rfl) (by kernel_rfl) (by kernel_rfl) rfl rfl rfl (v := V.agg [V.int .i64 ((gt v8_1583 v5_1629).At), V.int .i64 ((gt v8_1583 v5_1629).Id)]) (fun _ hz => (.load rfl rfl (.rowsM (f := api_Timer.cells) (xs := v8_1583) hb1633 (hz _ _ rfl rfl) rfl) rfl)) ?_
        refine DAny.take (i := 4) rfl (by kernel_rfl) [] (by kernel_rfl) (by kernel_rfl) (by kernel_rfl) rfl rfl rfl (v := V.ref [14, 0] 0 (rws api_Timer.cells v8_1583).length) (fun _ hz => (.fn rfl)) ?_
        refine DAny.take (i := 5) rfl (by kernel_rfl) [] (by kernel_rfl) (by kernel_rfl) (by kernel_rfl) rfl rfl rfl (v := V.int .i64 v4_1628) (fun _ hz => (.fn rfl)) ?_
        refine okG h (fun hb1634 h => ?_)
        refine DAny.take (i := 6) rfl (by kernel_rfl) [] (by kernel_rfl) (by kernel_rfl) (by kernel_rfl) rfl rfl rfl (v := V.ptr [14, 0] (0 + Int.toNat v4_1628) 0) (fun _ hz => (.idxRefM (f := api_Timer.cells) (xs := v8_1583) rfl rfl rfl (hz _ _ rfl rfl) rfl rfl hb1634)) ?_
        refine DAny.take (i := 7) rfl (by kernel_rfl) [] (by kernel_rfl) (by kernel_rfl) (by kernel_rfl) rfl rfl rfl (v := V.agg [V.int .i64 ((gt v8_1583 v4_1628).At), V.int .i64 ((gt v8_1583 v4_1628).Id)]) (fun _ hz => (.load rfl rfl (.rowsM (f := api_Timer.cells) (xs := v8_1583) hb1634 (hz _ _ rfl rfl) rfl) rfl)) ?_
        refine bindG h ?_
        intro x_1635 he1636 h
        refine DAny.take (i := 8) rfl (by kernel_rfl) [] (by kernel_rfl) (by kernel_rfl) (by kernel_rfl) rfl rfl rfl (v := V.int .i64 x_1635) (fun _ hz => (.callP rfl rfl (go_heap_order_sc (gt v8_1583 v5_1629) (gt v8_1583 v4_1628) _ he1636) rfl)) ?_
        refine DAny.take (i := 9) rfl (by kernel_rfl) [] (by kernel_rfl) (by kernel_rfl) (by kernel_rfl) rfl rfl rfl (v := V.bool (decide (x_1635 < 0))) (fun _ hz => (.fn rfl)) ?_
        refine DAny.nil (by kernel_rfl) ?_
        repeat (first | refine Safe.seq ?_ | refine Safe.skip ?_ | with_reducible refine thenQ.n ?_ | with_reducible refine blockQ.n ?_)
        refine ifG h (fun hc1637 h => ?_) (fun hc1637 h => ?_)
        · skip
          refine Safe.condK rfl hc1637 ?_
          repeat (first | refine Safe.seq ?_ | refine Safe.skip ?_ | with_reducible refine thenQ.n ?_ | with_reducible refine blockQ.n ?_)
          refine Safe.region ?_
          refine SafeOps.quiet0 E_good rfl rfl rfl (v := V.int .i64 v5_1629) (.fn rfl) ?_
          refine SafeOps.quiet0 E_good rfl rfl rfl (v := V.int .i64 v5_1629) (.fn rfl) ?_
          refine SafeOps.nil ?_
          repeat (first | refine Safe.seq ?_ | refine Safe.skip ?_ | with_reducible refine thenQ.n ?_ | with_reducible refine blockQ.n ?_)
          refine Safe.region ?_
          refine SafeOps.quiet0 E_good rfl rfl rfl (v := V.int .i64 v5_1629) (.fn rfl) ?_
          refine SafeOps.quiet0 E_good rfl rfl rfl (v := V.int .i64 (IntKind.i64.wrap (v5_1629 + 1))) (.fn rfl) ?_
          refine SafeOps.quiet0 E_good rfl rfl rfl (v := V.int .i64 (IntKind.i64.wrap (v5_1629 + 1))) (.fn rfl) ?_
          refine SafeOps.nil ?_
          repeat (first | refine Safe.seq ?_ | refine Safe.skip ?_ | with_reducible refine thenQ.n ?_ | with_reducible refine blockQ.n ?_)
          exact ⟨_, next_out h, (.cov ⟨rfl, rfl, (upT_cons (.refl _) (upT_cons (.refl _) (upT_cons (.refl _) (upT_cons (.refl _) upT_nil)))), (upOb_cons rfl (.refl _) upOb_nil), (upOut_cons rfl (upT_cons (.refl _) (upT_cons (.refl _) upT_nil)) upOut_nil), rfl⟩)⟩
        · skip
          refine Safe.condN rfl hc1637 ?_
          repeat (first | refine Safe.seq ?_ | refine Safe.skip ?_ | with_reducible refine thenQ.n ?_ | with_reducible refine blockQ.n ?_)
          refine Safe.region ?_
          refine SafeOps.quiet0 E_good rfl rfl rfl (v := V.int .i64 v5_1629) (.fn rfl) ?_
          refine SafeOps.quiet0 E_good rfl rfl rfl (v := V.int .i64 (IntKind.i64.wrap (v5_1629 + 1))) (.fn rfl) ?_
          refine SafeOps.quiet0 E_good rfl rfl rfl (v := V.int .i64 (IntKind.i64.wrap (v5_1629 + 1))) (.fn rfl) ?_
          refine SafeOps.nil ?_
          repeat (first | refine Safe.seq ?_ | refine Safe.skip ?_ | with_reducible refine thenQ.n ?_ | with_reducible refine blockQ.n ?_)
          exact ⟨_, next_out h, (.cov ⟨rfl, rfl, (upT_cons (.refl _) (upT_cons (.refl _) (upT_cons (.refl _) (upT_cons (.refl _) upT_nil)))), (upOb_cons rfl (.refl _) upOb_nil), (upOut_cons rfl (upT_cons (.refl _) (upT_cons (.refl _) upT_nil)) upOut_nil), rfl⟩)⟩
      · skip
        refine Safe.condN rfl hc1632 ?_
        repeat (first | refine Safe.seq ?_ | refine Safe.skip ?_ | with_reducible refine thenQ.n ?_ | with_reducible refine blockQ.n ?_)
        refine Safe.exit ?_
        repeat (first | with_reducible refine thenQ.e ?_ | with_reducible refine blockQ.x rfl ?_ | with_reducible refine blockQ.y rfl ?_)
        replace h := inr_out h hr1630
        repeat (first | refine Safe.seq ?_ | refine Safe.skip ?_ | with_reducible refine thenQ.n ?_ | with_reducible refine blockQ.n ?_)
        refine Safe.region ?_
        refine SafeOps.quiet0 E_good rfl rfl rfl (v := V.int .i64 v4_1628) (.fn rfl) ?_
        refine SafeOps.quiet0 E_good rfl rfl rfl (v := V.int .i64 v1_1584) (.fn rfl) ?_
        refine SafeOps.quiet0 E_good rfl rfl rfl (v := V.bool (v4_1628 == v1_1584)) (.fn rfl) ?_
        refine SafeOps.nil ?_
        repeat (first | refine Safe.seq ?_ | refine Safe.skip ?_ | with_reducible refine thenQ.n ?_ | with_reducible refine blockQ.n ?_)
        refine ifG h (fun hc1638 h => ?_) (fun hc1638 h => ?_)
        · skip
          refine Safe.condK rfl hc1638 ?_
          repeat (first | refine Safe.seq ?_ | refine Safe.skip ?_ | with_reducible refine thenQ.n ?_ | with_reducible refine blockQ.n ?_)
          refine Safe.ret ?_
          repeat (first | with_reducible refine thenQ.r ?_ | with_reducible refine blockQ.r ?_)
          refine inQ.gen (vs := []) (v := V.tup []) (.inr rfl) rfl .nil rfl ?_
          replace h := inr_out h hr1585
          refine SafeOps.nil ?_
          repeat (first | refine Safe.seq ?_ | refine Safe.skip ?_ | with_reducible refine thenQ.n ?_ | with_reducible refine blockQ.n ?_)
          refine Safe.region ?_
          refine SafeOps.quiet0 E_good rfl rfl rfl (v := V.ref [14, 0] 0 (rws api_Timer.cells v8_1583).length) (.fn rfl) ?_
          refine SafeOps.quiet0 E_good rfl rfl rfl (v := V.int .i64 x_1455) (.fn rfl) ?_
          refine SafeOps.inline E_good rfl rfl rfl rfl rfl Try.func34 rfl (fun _ _ => Try.call34 _ _) rfl ?_
          repeat (first | refine Safe.seq ?_ | refine Safe.skip ?_ | with_reducible refine thenQ.n ?_ | with_reducible refine blockQ.n ?_)
          refine Safe.block ?_
          repeat (first | refine Safe.seq ?_ | refine Safe.skip ?_ | with_reducible refine thenQ.n ?_ | with_reducible refine blockQ.n ?_)
          refine Safe.loopW (fun ((v8_1661, v1_1662) : (List api_Timer) × Int) => ⟨Try.f34.ntmps, [(0, V.ref [14, 0] 0 (rws api_Timer.cells v8_1661).length), (1, V.int .i64 v1_1662)], [([14, 0], Obj.rows 2 (rws api_Timer.cells v8_1661) false)], [(Try.f15.ntmps, [(8, V.ref [14, 0] 0 (rws api_Timer.cells v8_1661).length)])], [43]⟩) h (.cov ⟨rfl, rfl, (upT_cons (.refl _) (upT_cons (.refl _) upT_nil)), (upOb_cons rfl (.refl _) upOb_nil), (upOut_cons rfl (upT_cons (.refl _) upT_nil) upOut_nil), rfl⟩) ?_
          rintro ⟨v8_1661, v1_1662⟩ ohr1663 h hr1663
          replace h : go_heap_Reset_s8 (v8_1661, v1_1662) = some ohr1663 := h
          rw [go_heap_Reset_s8] at h
          repeat (first | refine Safe.seq ?_ | refine Safe.skip ?_ | with_reducible refine thenQ.n ?_ | with_reducible refine blockQ.n ?_)
          refine Safe.region ?_
          refine SafeOps.quiet0 E_good rfl rfl rfl (v := V.int .i64 v1_1662) (.fn rfl) ?_
          refine SafeOps.quiet0 E_good rfl rfl rfl (v := V.bool (decide (v1_1662 > 0))) (.fn rfl) ?_
          refine SafeOps.nil ?_
          repeat (first | refine Safe.seq ?_ | refine Safe.skip ?_ | with_reducible refine thenQ.n ?_ | with_reducible refine blockQ.n ?_)
          refine ifG h (fun hc1664 h => ?_) (fun hc1664 h => ?_)
          · skip
            refine Safe.condK rfl hc1664 ?_
            repeat (first | refine Safe.seq ?_ | refine Safe.skip ?_ | with_reducible refine thenQ.n ?_ | with_reducible refine blockQ.n ?_)
            refine Safe.block ?_
            repeat (first | refine Safe.seq ?_ | refine Safe.skip ?_ | with_reducible refine thenQ.n ?_ | with_reducible refine blockQ.n ?_)
            refine Safe.region ?_
            refine SafeOps.quiet0 E_good rfl rfl rfl (v := V.int .i64 v1_1662) (.fn rfl) ?_
            refine SafeOps.quiet0 E_good rfl rfl rfl (v := V.int .i64 (IntKind.i64.wrap (v1_1662 - 1))) (.fn rfl) ?_
            refine SafeOps.quiet0 E_good rfl rfl rfl (v := V.int .i64 (IntKind.i64.wrap (Int.tdiv (IntKind.i64.wrap (v1_1662 - 1)) 4))) (.quoV rfl rfl (by decide)) ?_
            refine SafeOps.quiet0 E_good rfl rfl rfl (v := V.int .i64 (IntKind.i64.wrap (Int.tdiv (IntKind.i64.wrap (v1_1662 - 1)) 4))) (.fn rfl) ?_
            refine SafeOps.nil ?_
            repeat (first | refine Safe.seq ?_ | refine Safe.skip ?_ | with_reducible refine thenQ.n ?_ | with_reducible refine blockQ.n ?_)
            refine Safe.regionD (n := 10) [] [] E_good mixed rfl ?_
            refine DAny.take (i := 0) rfl (by kernel_rfl) [] (by kernel_rfl) (by kernel_rfl) (by kernel_rfl) rfl rfl rfl (v := V.ref [14, 0] 0 (rws api_Timer.cells v8_1661).length) (fun _ hz => (.fn rfl)) ?_
            refine DAny.take (i := 1) rfl (by kernel_rfl) [] (by kernel_rfl) (by kernel_rfl) (by kernel_rfl) rfl rfl rfl (v := V.int .i64 (IntKind.i64.wrap (Int.tdiv (IntKind.i64.wrap (v1_1662 - 1)) 4))) (fun _ hz => (.fn rfl)) ?_
            refine okG h (fun hb1665 h => ?_)
            refine DAny.take (i := 2) rfl (by kernel_rfl) [] (by kernel_rfl) (by kernel_rfl) (by kernel_rfl) rfl rfl rfl (v := V.ptr [14, 0] (0 + Int.toNat (IntKind.i64.wrap (Int.tdiv (IntKind.i64.wrap (v1_1662 - 1)) 4))) 0) (fun _ hz => (.idxRefM (f := api_Timer.cells) (xs := v8_1661) rfl rfl rfl (hz _ _ rfl rfl) rfl rfl hb1665)) ?_
            refine DAny.take (i := 3) rfl (by kernel_rfl) [] (by kernel_rfl) (by kernel_rfl) (by kernel_rfl) rfl rfl rfl (v := V.agg [V.int .i64 ((gt v8_1661 (IntKind.i64.wrap (Int.tdiv (IntKind.i64.wrap (v1_1662 - 1)) 4))).At), V.int .i64 ((gt v8_1661 (IntKind.i64.wrap (Int.tdiv (IntKind.i64.wrap (v1_1662 - 1)) 4))).Id)]) (fun _ hz => (.load rfl rfl (.rowsM (f := api_Timer.cells) (xs := v8_1661) hb1665 (hz _ _ rfl rfl) rfl) rfl)) ?_
            refine DAny.take (i := 4) rfl (by kernel_rfl) [] (by kernel_rfl) (by kernel_rfl) (by kernel_rfl) rfl rfl rfl (v := V.ref [14, 0] 0 (rws api_Timer.cells v8_1661).length) (fun _ hz => (.fn rfl)) ?_
            refine DAny.take (i := 5) rfl (by kernel_rfl) [] (by kernel_rfl) (by kernel_rfl) (by kernel_rfl) rfl rfl rfl (v := V.int .i64 v1_1662) (fun _ hz => (.fn rfl)) ?_
            refine okG h (fun hb1666 h => ?_)
            refine DAny.take (i := 6) rfl (by kernel_rfl) [] (by kernel_rfl) (by kernel_rfl) (by kernel_rfl) rfl rfl rfl (v := V.ptr [14, 0] (0 + Int.toNat v1_1662) 0) (fun _ hz => (.idxRefM (f := api_Timer.cells) (xs := v8_1661) rfl rfl rfl (hz _ _ rfl rfl) rfl rfl hb1666)) ?_
            refine DAny.take (i := 7) rfl (by kernel_rfl) [] (by kernel_rfl) (by kernel_rfl) (by kernel_rfl) rfl rfl rfl (v := V.agg [V.int .i64 ((gt v8_1661 v1_1662).At), V.int .i64 ((gt v8_1661 v1_1662).Id)]) (fun _ hz => (.load rfl rfl (.rowsM (f := api_Timer.cells) (xs := v8_1661) hb1666 (hz _ _ rfl rfl) rfl) rfl)) ?_
            refine bindG h ?_
            intro x_1667 he1668 h
            refine DAny.take (i := 8) rfl (by kernel_rfl) [] (by kernel_rfl) (by kernel_rfl) (by kernel_rfl) rfl rfl rfl (v := V.int .i64 x_1667) (fun _ hz => (.callP rfl rfl (go_heap_order_sc (gt v8_1661 (IntKind.i64.wrap (Int.tdiv (IntKind.i64.wrap (v1_1662 - 1)) 4))) (gt v8_1661 v1_1662) _ he1668) rfl)) ?_
            refine DAny.take (i := 9) rfl (by kernel_rfl) [] (by kernel_rfl) (by kernel_rfl) (by kernel_rfl) rfl rfl rfl (v := V.bool (decide (x_1667 ≤ 0))) (fun _ hz => (.fn rfl)) ?_
            refine DAny.nil (by kernel_rfl) ?_
            repeat (first | refine Safe.seq ?_ | refine Safe.skip ?_ | with_reducible refine thenQ.n ?_ | with_reducible refine blockQ.n ?_)
            refine ifG h (fun hc1669 h => ?_) (fun hc1669 h => ?_)
            · skip
              refine Safe.condK rfl hc1669 ?_
              repeat (first | refine Safe.seq ?_ | refine Safe.skip ?_ | with_reducible refine thenQ.n ?_ | with_reducible refine blockQ.n ?_)
              refine Safe.ret ?_
              repeat (first | with_reducible refine thenQ.r ?_ | with_reducible refine blockQ.r ?_)
              refine inQ.gen (vs := []) (v := V.tup []) (.inr rfl) rfl .nil rfl ?_
              replace h := inr_out h hr1663
              refine SafeOps.nil ?_
              repeat (first | refine Safe.seq ?_ | refine Safe.skip ?_ | with_reducible refine thenQ.n ?_ | with_reducible refine blockQ.n ?_)
              refine Safe.region ?_
              refine SafeOps.quiet0 E_good rfl rfl rfl (v := V.ref [14, 0] 0 (rws api_Timer.cells v8_1661).length) (.fn rfl) ?_
              refine SafeOps.quiet0 E_good rfl rfl rfl (v := V.ref [14, 0] 0 (rws api_Timer.cells v8_1661).length) (.fn rfl) ?_
              refine SafeOps.quiet0 E_good rfl rfl rfl (v := V.int .i64 0) (.fn rfl) ?_
              refine SafeOps.nil ?_
              repeat (first | refine Safe.seq ?_ | refine Safe.skip ?_ | with_reducible refine thenQ.n ?_ | with_reducible refine blockQ.n ?_)
              refine Safe.ret ?_
              repeat (first | with_reducible refine thenQ.r ?_ | with_reducible refine blockQ.r ?_)
              obtain rfl := Option.some.inj h
              exact retQ.gen (vs := [V.ref [14, 0] 0 (rws api_Timer.cells v8_1661).length, V.int .i64 0]) rfl (.tmp (v := V.ref [14, 0] 0 (rws api_Timer.cells v8_1661).length) rfl (.tmp (v := V.int .i64 0) rfl .nil)) (by exact (.tup (.cons (.own rfl rfl) (.cons (.free rfl) .nil)))) (by simp) (.inr rfl)
            · skip
              refine Safe.condN rfl hc1669 ?_
              repeat (first | refine Safe.seq ?_ | refine Safe.skip ?_ | with_reducible refine thenQ.n ?_ | with_reducible refine blockQ.n ?_)
              refine Safe.regionD (n := 16) [(13, [12, 0]), (13, [14, 0]), (13, [35]), (15, [12, 0]), (15, [14, 0]), (15, [35])] [] E_good mixed rfl ?_
              refine DAny.take (i := 0) rfl (by kernel_rfl) [[12, 0], [14, 0], [35]] (by kernel_rfl) (by kernel_rfl) (by kernel_rfl) rfl rfl rfl (v := V.ref [14, 0] 0 (rws api_Timer.cells v8_1661).length) (fun _ hz => (.fn rfl)) ?_
              refine DAny.take (i := 1) rfl (by kernel_rfl) [[12, 0], [14, 0], [35]] (by kernel_rfl) (by kernel_rfl) (by kernel_rfl) rfl rfl rfl (v := V.int .i64 (IntKind.i64.wrap (Int.tdiv (IntKind.i64.wrap (v1_1662 - 1)) 4))) (fun _ hz => (.fn rfl)) ?_
              refine DAny.take (i := 2) rfl (by kernel_rfl) [[12, 0], [14, 0], [35]] (by kernel_rfl) (by kernel_rfl) (by kernel_rfl) rfl rfl rfl (v := V.ref [14, 0] 0 (rws api_Timer.cells v8_1661).length) (fun _ hz => (.fn rfl)) ?_
              refine DAny.take (i := 3) rfl (by kernel_rfl) [[12, 0], [14, 0], [35]] (by kernel_rfl) (by kernel_rfl) (by kernel_rfl) rfl rfl rfl (v := V.int .i64 v1_1662) (fun _ hz => (.fn rfl)) ?_
              refine DAny.take (i := 4) rfl (by kernel_rfl) [[12, 0], [14, 0], [35]] (by kernel_rfl) (by kernel_rfl) (by kernel_rfl) rfl rfl rfl (v := V.ref [14, 0] 0 (rws api_Timer.cells v8_1661).length) (fun _ hz => (.fn rfl)) ?_
              refine DAny.take (i := 5) rfl (by kernel_rfl) [[12, 0], [14, 0], [35]] (by kernel_rfl) (by kernel_rfl) (by kernel_rfl) rfl rfl rfl (v := V.int .i64 v1_1662) (fun _ hz => (.fn rfl)) ?_
              refine okG h (fun hb1670 h => ?_)
              refine DAny.take (i := 6) rfl (by kernel_rfl) [[12, 0], [35]] (by kernel_rfl) (by kernel_rfl) (by kernel_rfl) rfl rfl rfl (v := V.ptr [14, 0] (0 + Int.toNat v1_1662) 0) (fun _ hz => (.idxRefM (f := api_Timer.cells) (xs := v8_1661) rfl rfl rfl (hz _ _ rfl rfl) rfl rfl hb1670)) ?_
              refine DAny.take (i := 7) rfl (by kernel_rfl) [[12, 0], [35]] (by kernel_rfl) (by kernel_rfl) (by kernel_rfl) rfl rfl rfl (v := V.agg [V.int .i64 ((gt v8_1661 v1_1662).At), V.int .i64 ((gt v8_1661 v1_1662).Id)]) (fun _ hz => (.load rfl rfl (.rowsM (f := api_Timer.cells) (xs := v8_1661) hb1670 (hz _ _ rfl rfl) rfl) rfl)) ?_
              refine DAny.take (i := 8) rfl (by kernel_rfl) [[12, 0], [14, 0], [35]] (by kernel_rfl) (by kernel_rfl) (by kernel_rfl) rfl rfl rfl (v := V.ref [14, 0] 0 (rws api_Timer.cells v8_1661).length) (fun _ hz => (.fn rfl)) ?_
              refine DAny.take (i := 9) rfl (by kernel_rfl) [[12, 0], [14, 0], [35]] (by kernel_rfl) (by kernel_rfl) (by kernel_rfl) rfl rfl rfl (v := V.int .i64 (IntKind.i64.wrap (Int.tdiv (IntKind.i64.wrap (v1_1662 - 1)) 4))) (fun _ hz => (.fn rfl)) ?_
              refine okG h (fun hb1671 h => ?_)
              refine DAny.take (i := 10) rfl (by kernel_rfl) [[12, 0], [35]] (by kernel_rfl) (by kernel_rfl) (by kernel_rfl) rfl rfl rfl (v := V.ptr [14, 0] (0 + Int.toNat (IntKind.i64.wrap (Int.tdiv (IntKind.i64.wrap (v1_1662 - 1)) 4))) 0) (fun _ hz => (.idxRefM (f := api_Timer.cells) (xs := v8_1661) rfl rfl rfl (hz _ _ rfl rfl) rfl rfl hb1671)) ?_
              refine DAny.take (i := 11) rfl (by kernel_rfl) [[12, 0], [35]] (by kernel_rfl) (by kernel_rfl) (by kernel_rfl) rfl rfl rfl (v := V.agg [V.int .i64 ((gt v8_1661 (IntKind.i64.wrap (Int.tdiv (IntKind.i64.wrap (v1_1662 - 1)) 4))).At), V.int .i64 ((gt v8_1661 (IntKind.i64.wrap (Int.tdiv (IntKind.i64.wrap (v1_1662 - 1)) 4))).Id)]) (fun _ hz => (.load rfl rfl (.rowsM (f := api_Timer.cells) (xs := v8_1661) hb1671 (hz _ _ rfl rfl) rfl) rfl)) ?_
              refine okG h (fun hb1672 h => ?_)
              refine DAny.take (i := 12) rfl (by kernel_rfl) [[12, 0], [35]] (by kernel_rfl) (by kernel_rfl) (by kernel_rfl) rfl rfl rfl (v := V.ptr [14, 0] (0 + Int.toNat (IntKind.i64.wrap (Int.tdiv (IntKind.i64.wrap (v1_1662 - 1)) 4))) 0) (fun _ hz => (.idxRefM (f := api_Timer.cells) (xs := v8_1661) rfl rfl rfl (hz _ _ rfl rfl) rfl rfl hb1672)) ?_
              refine DAny.only (i := 13) rfl (by kernel_rfl) (.store (z := Obj.rows 2 (rws api_Timer.cells (st v8_1661 (IntKind.i64.wrap (Int.tdiv (IntKind.i64.wrap (v1_1662 - 1)) 4)) (gt v8_1661 v1_1662))) false) rfl rfl rfl rfl rfl rfl rfl (.rowsM (f := api_Timer.cells) (xs := v8_1661) (y := (gt v8_1661 v1_1662)) hb1672 rfl rfl rfl rfl) rfl ?_)
              refine okG h (fun hb1673 h => ?_)
              refine DAny.take (i := 14) rfl (by kernel_rfl) [[12, 0], [35]] (by kernel_rfl) (by kernel_rfl) (by kernel_rfl) rfl rfl rfl (v := V.ptr [14, 0] (0 + Int.toNat v1_1662) 0) (fun _ hz => (.idxRefL (f := api_Timer.cells) (xs := st v8_1661 (IntKind.i64.wrap (Int.tdiv (IntKind.i64.wrap (v1_1662 - 1)) 4)) (gt v8_1661 v1_1662)) (ys := v8_1661) rfl rfl rfl (hz _ _ rfl rfl) rfl (by simp [st]) hb1673)) ?_
              refine DAny.only (i := 15) rfl (by kernel_rfl) (.store (z := Obj.rows 2 (rws api_Timer.cells (st (st v8_1661 (IntKind.i64.wrap (Int.tdiv (IntKind.i64.wrap (v1_1662 - 1)) 4)) (gt v8_1661 v1_1662)) v1_1662 (gt v8_1661 (IntKind.i64.wrap (Int.tdiv (IntKind.i64.wrap (v1_1662 - 1)) 4))))) false) rfl rfl rfl rfl rfl rfl rfl (.rowsM (f := api_Timer.cells) (xs := st v8_1661 (IntKind.i64.wrap (Int.tdiv (IntKind.i64.wrap (v1_1662 - 1)) 4)) (gt v8_1661 v1_1662)) (y := (gt v8_1661 (IntKind.i64.wrap (Int.tdiv (IntKind.i64.wrap (v1_1662 - 1)) 4)))) hb1673 rfl rfl rfl rfl) rfl ?_)
              refine DAny.nil (by kernel_rfl) ?_
              repeat (first | refine Safe.seq ?_ | refine Safe.skip ?_ | with_reducible refine thenQ.n ?_ | with_reducible refine blockQ.n ?_)
              refine Safe.see 0 (u := V.ref [14, 0] 0 (rws api_Timer.cells (st (st v8_1661 (IntKind.i64.wrap (Int.tdiv (IntKind.i64.wrap (v1_1662 - 1)) 4)) (gt v8_1661 v1_1662)) v1_1662 (gt v8_1661 (IntKind.i64.wrap (Int.tdiv (IntKind.i64.wrap (v1_1662 - 1)) 4))))).length) rfl (.len (by simp [rws, st])) ?_
              refine Safe.see 10 (u := V.ref [14, 0] 0 (rws api_Timer.cells (st (st v8_1661 (IntKind.i64.wrap (Int.tdiv (IntKind.i64.wrap (v1_1662 - 1)) 4)) (gt v8_1661 v1_1662)) v1_1662 (gt v8_1661 (IntKind.i64.wrap (Int.tdiv (IntKind.i64.wrap (v1_1662 - 1)) 4))))).length) rfl (.len (by simp [rws, st])) ?_
              refine Safe.see 14 (u := V.ref [14, 0] 0 (rws api_Timer.cells (st (st v8_1661 (IntKind.i64.wrap (Int.tdiv (IntKind.i64.wrap (v1_1662 - 1)) 4)) (gt v8_1661 v1_1662)) v1_1662 (gt v8_1661 (IntKind.i64.wrap (Int.tdiv (IntKind.i64.wrap (v1_1662 - 1)) 4))))).length) rfl (.len (by simp [rws, st])) ?_
              refine Safe.see 20 (u := V.ref [14, 0] 0 (rws api_Timer.cells (st (st v8_1661 (IntKind.i64.wrap (Int.tdiv (IntKind.i64.wrap (v1_1662 - 1)) 4)) (gt v8_1661 v1_1662)) v1_1662 (gt v8_1661 (IntKind.i64.wrap (Int.tdiv (IntKind.i64.wrap (v1_1662 - 1)) 4))))).length) rfl (.len (by simp [rws, st])) ?_
              refine Safe.see 22 (u := V.ref [14, 0] 0 (rws api_Timer.cells (st (st v8_1661 (IntKind.i64.wrap (Int.tdiv (IntKind.i64.wrap (v1_1662 - 1)) 4)) (gt v8_1661 v1_1662)) v1_1662 (gt v8_1661 (IntKind.i64.wrap (Int.tdiv (IntKind.i64.wrap (v1_1662 - 1)) 4))))).length) rfl (.len (by simp [rws, st])) ?_
              refine Safe.see 24 (u := V.ref [14, 0] 0 (rws api_Timer.cells (st (st v8_1661 (IntKind.i64.wrap (Int.tdiv (IntKind.i64.wrap (v1_1662 - 1)) 4)) (gt v8_1661 v1_1662)) v1_1662 (gt v8_1661 (IntKind.i64.wrap (Int.tdiv (IntKind.i64.wrap (v1_1662 - 1)) 4))))).length) rfl (.len (by simp [rws, st])) ?_
              refine Safe.see 28 (u := V.ref [14, 0] 0 (rws api_Timer.cells (st (st v8_1661 (IntKind.i64.wrap (Int.tdiv (IntKind.i64.wrap (v1_1662 - 1)) 4)) (gt v8_1661 v1_1662)) v1_1662 (gt v8_1661 (IntKind.i64.wrap (Int.tdiv (IntKind.i64.wrap (v1_1662 - 1)) 4))))).length) rfl (.len (by simp [rws, st])) ?_
              repeat (first | refine Safe.seq ?_ | refine Safe.skip ?_ | with_reducible refine thenQ.n ?_ | with_reducible refine blockQ.n ?_)
              refine Safe.region ?_
              refine SafeOps.quiet0 E_good rfl rfl rfl (v := V.int .i64 (IntKind.i64.wrap (Int.tdiv (IntKind.i64.wrap (v1_1662 - 1)) 4))) (.fn rfl) ?_
              refine SafeOps.quiet0 E_good rfl rfl rfl (v := V.int .i64 (IntKind.i64.wrap (Int.tdiv (IntKind.i64.wrap (v1_1662 - 1)) 4))) (.fn rfl) ?_
              refine SafeOps.nil ?_
              repeat (first | refine Safe.seq ?_ | refine Safe.skip ?_ | with_reducible refine thenQ.n ?_ | with_reducible refine blockQ.n ?_)
              exact ⟨_, next_out h, (.cov ⟨rfl, rfl, (upT_cons (.refl _) (upT_cons (.refl _) upT_nil)), (upOb_cons rfl (.refl _) upOb_nil), (upOut_cons rfl (upT_cons (.len (by simp [rws, st])) upT_nil) upOut_nil), rfl⟩)⟩
          · skip
            refine Safe.condN rfl hc1664 ?_
            repeat (first | refine Safe.seq ?_ | refine Safe.skip ?_ | with_reducible refine thenQ.n ?_ | with_reducible refine blockQ.n ?_)
            refine Safe.exit ?_
            repeat (first | with_reducible refine thenQ.e ?_ | with_reducible refine blockQ.x rfl ?_ | with_reducible refine blockQ.y rfl ?_)
            replace h := inr_out h hr1663
            repeat (first | refine Safe.seq ?_ | refine Safe.skip ?_ | with_reducible refine thenQ.n ?_ | with_reducible refine blockQ.n ?_)
            repeat (first | with_reducible refine thenQ.r ?_ | with_reducible refine blockQ.r ?_)
            refine inQ.gen (vs := []) (v := V.tup []) (.inl rfl) rfl .nil rfl ?_
            refine SafeOps.nil ?_
            repeat (first | refine Safe.seq ?_ | refine Safe.skip ?_ | with_reducible refine thenQ.n ?_ | with_reducible refine blockQ.n ?_)
            refine Safe.region ?_
            refine SafeOps.quiet0 E_good rfl rfl rfl (v := V.ref [14, 0] 0 (rws api_Timer.cells v8_1661).length) (.fn rfl) ?_
            refine SafeOps.quiet0 E_good rfl rfl rfl (v := V.ref [14, 0] 0 (rws api_Timer.cells v8_1661).length) (.fn rfl) ?_
            refine SafeOps.quiet0 E_good rfl rfl rfl (v := V.int .i64 0) (.fn rfl) ?_
            refine SafeOps.nil ?_
            repeat (first | refine Safe.seq ?_ | refine Safe.skip ?_ | with_reducible refine thenQ.n ?_ | with_reducible refine blockQ.n ?_)
            refine Safe.ret ?_
            repeat (first | with_reducible refine thenQ.r ?_ | with_reducible refine blockQ.r ?_)
            obtain rfl := Option.some.inj h
            exact retQ.gen (vs := [V.ref [14, 0] 0 (rws api_Timer.cells v8_1661).length, V.int .i64 0]) rfl (.tmp (v := V.ref [14, 0] 0 (rws api_Timer.cells v8_1661).length) rfl (.tmp (v := V.int .i64 0) rfl .nil)) (by exact (.tup (.cons (.own rfl rfl) (.cons (.free rfl) .nil)))) (by simp) (.inr rfl)
        · skip
          refine Safe.condN rfl hc1638 ?_
          repeat (first | refine Safe.seq ?_ | refine Safe.skip ?_ | with_reducible refine thenQ.n ?_ | with_reducible refine blockQ.n ?_)
          refine Safe.regionD (n := 16) [(13, [12, 0]), (13, [14, 0]), (15, [12, 0]), (15, [14, 0])] [] E_good mixed rfl ?_
          refine DAny.take (i := 0) rfl (by kernel_rfl) [[12, 0], [14, 0]] (by kernel_rfl) (by kernel_rfl) (by kernel_rfl) rfl rfl rfl (v := V.ref [14, 0] 0 (rws api_Timer.cells v8_1583).length) (fun _ hz => (.fn rfl)) ?_
          refine DAny.take (i := 1) rfl (by kernel_rfl) [[12, 0], [14, 0]] (by kernel_rfl) (by kernel_rfl) (by kernel_rfl) rfl rfl rfl (v := V.int .i64 v4_1628) (fun _ hz => (.fn rfl)) ?_
          refine DAny.take (i := 2) rfl (by kernel_rfl) [[12, 0], [14, 0]] (by kernel_rfl) (by kernel_rfl) (by kernel_rfl) rfl rfl rfl (v := V.ref [14, 0] 0 (rws api_Timer.cells v8_1583).length) (fun _ hz => (.fn rfl)) ?_
          refine DAny.take (i := 3) rfl (by kernel_rfl) [[12, 0], [14, 0]] (by kernel_rfl) (by kernel_rfl) (by kernel_rfl) rfl rfl rfl (v := V.int .i64 v1_1584) (fun _ hz => (.fn rfl)) ?_
          refine DAny.take (i := 4) rfl (by kernel_rfl) [[12, 0], [14, 0]] (by kernel_rfl) (by kernel_rfl) (by kernel_rfl) rfl rfl rfl (v := V.ref [14, 0] 0 (rws api_Timer.cells v8_1583).length) (fun _ hz => (.fn rfl)) ?_
          refine DAny.take (i := 5) rfl (by kernel_rfl) [[12, 0], [14, 0]] (by kernel_rfl) (by kernel_rfl) (by kernel_rfl) rfl rfl rfl (v := V.int .i64 v1_1584) (fun _ hz => (.fn rfl)) ?_
          refine okG h (fun hb1674 h => ?_)
          refine DAny.take (i := 6) rfl (by kernel_rfl) [[12, 0]] (by kernel_rfl) (by kernel_rfl) (by kernel_rfl) rfl rfl rfl (v := V.ptr [14, 0] (0 + Int.toNat v1_1584) 0) (fun _ hz => (.idxRefM (f := api_Timer.cells) (xs := v8_1583) rfl rfl rfl (hz _ _ rfl rfl) rfl rfl hb1674)) ?_
          refine DAny.take (i := 7) rfl (by kernel_rfl) [[12, 0]] (by kernel_rfl) (by kernel_rfl) (by kernel_rfl) rfl rfl rfl (v := V.agg [V.int .i64 ((gt v8_1583 v1_1584).At), V.int .i64 ((gt v8_1583 v1_1584).Id)]) (fun _ hz => (.load rfl rfl (.rowsM (f := api_Timer.cells) (xs := v8_1583) hb1674 (hz _ _ rfl rfl) rfl) rfl)) ?_
          refine DAny.take (i := 8) rfl (by kernel_rfl) [[12, 0], [14, 0]] (by kernel_rfl) (by kernel_rfl) (by kernel_rfl) rfl rfl rfl (v := V.ref [14, 0] 0 (rws api_Timer.cells v8_1583).length) (fun _ hz => (.fn rfl)) ?_
          refine DAny.take (i := 9) rfl (by kernel_rfl) [[12, 0], [14, 0]] (by kernel_rfl) (by kernel_rfl) (by kernel_rfl) rfl rfl rfl (v := V.int .i64 v4_1628) (fun _ hz => (.fn rfl)) ?_
          refine okG h (fun hb1675 h => ?_)
          refine DAny.take (i := 10) rfl (by kernel_rfl) [[12, 0]] (by kernel_rfl) (by kernel_rfl) (by kernel_rfl) rfl rfl rfl (v := V.ptr [14, 0] (0 + Int.toNat v4_1628) 0) (fun _ hz => (.idxRefM (f := api_Timer.cells) (xs := v8_1583) rfl rfl rfl (hz _ _ rfl rfl) rfl rfl hb1675)) ?_
          refine DAny.take (i := 11) rfl (by kernel_rfl) [[12, 0]] (by kernel_rfl) (by kernel_rfl) (by kernel_rfl) rfl rfl rfl (v := V.agg [V.int .i64 ((gt v8_1583 v4_1628).At), V.int .i64 ((gt v8_1583 v4_1628).Id)]) (fun _ hz => (.load rfl rfl (.rowsM (f := api_Timer.cells) (xs := v8_1583) hb1675 (hz _ _ rfl rfl) rfl) rfl)) ?_
          refine okG h (fun hb1676 h => ?_)
          refine DAny.take (i := 12) rfl (by kernel_rfl) [[12, 0]] (by kernel_rfl) (by kernel_rfl) (by kernel_rfl) rfl rfl rfl (v := V.ptr [14, 0] (0 + Int.toNat v4_1628) 0) (fun _ hz => (.idxRefM (f := api_Timer.cells) (xs := v8_1583) rfl rfl rfl (hz _ _ rfl rfl) rfl rfl hb1676)) ?_
          refine DAny.only (i := 13) rfl (by kernel_rfl) (.store (z := Obj.rows 2 (rws api_Timer.cells (st v8_1583 v4_1628 (gt v8_1583 v1_1584))) false) rfl rfl rfl rfl rfl rfl rfl (.rowsM (f := api_Timer.cells) (xs := v8_1583) (y := (gt v8_1583 v1_1584)) hb1676 rfl rfl rfl rfl) rfl ?_)
          refine okG h (fun hb1677 h => ?_)
          refine DAny.take (i := 14) rfl (by kernel_rfl) [[12, 0]] (by kernel_rfl) (by kernel_rfl) (by kernel_rfl) rfl rfl rfl (v := V.ptr [14, 0] (0 + Int.toNat v1_1584) 0) (fun _ hz => (.idxRefL (f := api_Timer.cells) (xs := st v8_1583 v4_1628 (gt v8_1583 v1_1584)) (ys := v8_1583) rfl rfl rfl (hz _ _ rfl rfl) rfl (by simp [st]) hb1677)) ?_
          refine DAny.only (i := 15) rfl (by kernel_rfl) (.store (z := Obj.rows 2 (rws api_Timer.cells (st (st v8_1583 v4_1628 (gt v8_1583 v1_1584)) v1_1584 (gt v8_1583 v4_1628))) false) rfl rfl rfl rfl rfl rfl rfl (.rowsM (f := api_Timer.cells) (xs := st v8_1583 v4_1628 (gt v8_1583 v1_1584)) (y := (gt v8_1583 v4_1628)) hb1677 rfl rfl rfl rfl) rfl ?_)
          refine DAny.nil (by kernel_rfl) ?_
          repeat (first | refine Safe.seq ?_ | refine Safe.skip ?_ | with_reducible refine thenQ.n ?_ | with_reducible refine blockQ.n ?_)
          refine Safe.see 0 (u := V.ref [14, 0] 0 (rws api_Timer.cells (st (st v8_1583 v4_1628 (gt v8_1583 v1_1584)) v1_1584 (gt v8_1583 v4_1628))).length) rfl (.len (by simp [rws, st])) ?_
          refine Safe.see 37 (u := V.ref [14, 0] 0 (rws api_Timer.cells (st (st v8_1583 v4_1628 (gt v8_1583 v1_1584)) v1_1584 (gt v8_1583 v4_1628))).length) rfl (.len (by simp [rws, st])) ?_
          refine Safe.see 39 (u := V.ref [14, 0] 0 (rws api_Timer.cells (st (st v8_1583 v4_1628 (gt v8_1583 v1_1584)) v1_1584 (gt v8_1583 v4_1628))).length) rfl (.len (by simp [rws, st])) ?_
          refine Safe.see 41 (u := V.ref [14, 0] 0 (rws api_Timer.cells (st (st v8_1583 v4_1628 (gt v8_1583 v1_1584)) v1_1584 (gt v8_1583 v4_1628))).length) rfl (.len (by simp [rws, st])) ?_
          refine Safe.see 45 (u := V.ref [14, 0] 0 (rws api_Timer.cells (st (st v8_1583 v4_1628 (gt v8_1583 v1_1584)) v1_1584 (gt v8_1583 v4_1628))).length) rfl (.len (by simp [rws, st])) ?_
          repeat (first | refine Safe.seq ?_ | refine Safe.skip ?_ | with_reducible refine thenQ.n ?_ | with_reducible refine blockQ.n ?_)
          refine Safe.region ?_
          refine SafeOps.quiet0 E_good rfl rfl rfl (v := V.int .i64 v4_1628) (.fn rfl) ?_
          refine SafeOps.quiet0 E_good rfl rfl rfl (v := V.int .i64 v4_1628) (.fn rfl) ?_
          refine SafeOps.nil ?_
          repeat (first | refine Safe.seq ?_ | refine Safe.skip ?_ | with_reducible refine thenQ.n ?_ | with_reducible refine blockQ.n ?_)
          exact ⟨_, next_out h, (.cov ⟨rfl, rfl, (upT_cons (.refl _) (upT_cons (.refl _) upT_nil)), (upOb_cons rfl (.refl _) upOb_nil), (upOut_cons rfl (upT_cons (.len (by simp [rws, st])) (upT_cons (.refl _) upT_nil)) upOut_nil), rfl⟩)⟩

noncomputable def go_ravelref08_Reset (a0_1681 : List api_Timer) (a1_1682 : Int) (a2_1683 : Int) : Option ((List api_Timer) × Int) :=
  (go_ravelref08_Check a0_1681).bind fun x_1695 =>
  if (((x_1695 != 0) || (decide (a2_1683 < 0))) || (decide (a2_1683 > 1125899906842624))) = true then
    some ([], 1)
  else
    (go_ravelref08_Cancel a0_1681 a1_1682).bind fun (x_1700, x_1701) =>
    if (x_1701 != 0) = true then
      some ([], x_1701)
    else
      (go_ravelref08_with x_1700 (api_Timer.mk a2_1683 a1_1682)).bind fun x_1704 =>
      some (x_1704, 0)

noncomputable def go_ravelref08_SameList_s1 (a0_1735 : List api_Timer) (a1_1736 : List api_Timer) : (Int) → Option ((Int) ⊕ (Bool))
  | v13_1765 =>
    if (decide (v13_1765 < (a0_1735.length : Int))) = true then
      if 0 ≤ v13_1765 ∧ v13_1765 < (a0_1735.length : Int) then
        if 0 ≤ v13_1765 ∧ v13_1765 < (a1_1736.length : Int) then
          if (!(api_Timer.beq (gt a0_1735 v13_1765) (gt a1_1736 v13_1765))) = true then
            inrO (
              some false)
          else
            nextO (IntKind.i64.wrap (v13_1765 + 1))
        else none
      else none
    else
      inrO (
        some true)

noncomputable def go_ravelref08_SameList (a0_1735 : List api_Timer) (a1_1736 : List api_Timer) : Option Bool :=
  if ((a0_1735.length : Int) != (a1_1736.length : Int)) = true then
    some false
  else
    whileO (go_ravelref08_SameList_s1 a0_1735 a1_1736) 0

noncomputable def go_ravelref08_Same (a0_1729 : List api_Timer) (a1_1730 : List api_Timer) : Option Bool :=
  (go_ravelref08_Order a0_1729).bind fun x_1773 =>
  (go_ravelref08_Order a1_1730).bind fun x_1775 =>
  (go_ravelref08_SameList x_1773 x_1775).bind fun x_1777 =>
  some x_1777

noncomputable def go_ravellaw08_fits (a0_1709 : List api_Timer) (a1_1710 : Int) (a2_1711 : List api_Timer) (a3_1712 : Int) : Option Bool :=
  if ((a1_1710 != 0) || (a3_1712 != 0)) = true then
    some ((a1_1710 == a3_1712) && ((a0_1709.length : Int) == 0))
  else
    (go_ravelref08_Check a0_1709).bind fun x_1787 =>
    if (x_1787 == 0) = true then
      (go_ravelref08_Same a0_1709 a2_1711).bind fun x_1792 =>
      some x_1792
    else
      some false

end Go.Proofs.Ytbcapidhhbkkcaa
