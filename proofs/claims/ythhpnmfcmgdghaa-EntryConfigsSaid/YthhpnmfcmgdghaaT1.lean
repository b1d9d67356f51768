/- Helper lemmas for the claim's theorem: an abstract machine over the model, proved sound; no condition beyond each lemma's own. -/
import Derived.Test.YthhpnmfcmgdghaaT0
set_option linter.unusedVariables false
set_option linter.unusedSimpArgs false
set_option linter.unnecessarySimpa false
set_option linter.unusedSectionVars false
namespace Go.Proofs.Ythhpnmfcmgdghaa
open Go Go.AM
set_option maxRecDepth 100000
set_option maxHeartbeats 1000000
set_option linter.unusedVariables false
set_option linter.unusedSimpArgs false
variable {gl : List (Nat × List V)}
def go_code_odd_j2 (v3_1203 : Bool) (v4_1204 : Bool) : Bool :=
  ((!v3_1203) || (!v4_1204))

def go_code_odd_j4 (a0_1180 : api_Instr) (v46_1215 : Bool) : Bool :=
  if v46_1215 = true then
    go_code_odd_j2 (go_code_within a0_1180.A 8) (a0_1180.B == 0)
  else
    true

def go_code_odd_j3 (a0_1180 : api_Instr) (v27_1209 : Bool) : Bool :=
  if v27_1209 = true then
    go_code_odd_j2 (a0_1180.A == 0) (a0_1180.B == 0)
  else
    if (a0_1180.Op == 4) = true then
      go_code_odd_j2 (go_code_within (IntKind.i64.wrap (a0_1180.A - 1)) 1000) (a0_1180.B == 0)
    else
      if (a0_1180.Op == 5) = true then
        go_code_odd_j2 (go_code_within a0_1180.A 16) (a0_1180.B == 0)
      else
        if (a0_1180.Op == 6) = true then
          go_code_odd_j2 (go_code_within a0_1180.A 4) (a0_1180.B == 0)
        else
          if (a0_1180.Op == 7) = true then
            go_code_odd_j4 a0_1180 (a0_1180.Op == 7)
          else
            go_code_odd_j4 a0_1180 (a0_1180.Op == 8)

def go_code_odd (a0_1180 : api_Instr) : Bool :=
  if (a0_1180.Op == 1) = true then
    go_code_odd_j2 (go_code_within (IntKind.i64.wrap (a0_1180.A - 1)) 100) (a0_1180.B == 0)
  else
    if (a0_1180.Op == 2) = true then
      go_code_odd_j2 (go_code_within a0_1180.A 16) (go_code_within a0_1180.B 4)
    else
      if (a0_1180.Op == 3) = true then
        go_code_odd_j3 a0_1180 (a0_1180.Op == 3)
      else
        go_code_odd_j3 a0_1180 (a0_1180.Op == 9)

theorem go_code_odd_sc (a0_1180 : api_Instr) (r : Bool) (h : go_code_odd a0_1180 = r) : SC Try.prog gl 62 [V.agg [V.int .i64 a0_1180.Op, V.int .i64 a0_1180.A, V.int .i64 a0_1180.B]] (V.bool r) := by
  rw [go_code_odd] at h
  refine SC.of E_good Try.func62 rfl (fun _ _ => Try.call62 _ _) rfl ?_
  repeat (first | refine Safe.seq ?_ | refine Safe.skip ?_ | with_reducible refine thenQ.n ?_ | with_reducible refine blockQ.n ?_)
  refine Safe.region ?_
  refine SafeOps.quiet1 E_good rfl rfl rfl (.box rfl rfl) rfl ?_
  refine SafeOps.quiet0 E_good rfl rfl rfl (v := V.bool false) (.fn rfl) ?_
  refine SafeOps.nil ?_
  repeat (first | refine Safe.seq ?_ | refine Safe.skip ?_ | with_reducible refine thenQ.n ?_ | with_reducible refine blockQ.n ?_)
  refine Safe.regionD (n := 8) [] [] E_good mixed rfl ?_
  refine DAny.take (i := 0) rfl (by kernel_rfl) [] (by kernel_rfl) (by kernel_rfl) (by kernel_rfl) rfl rfl rfl (v := V.ptr [1] 0 1) (fun _ hz => (.fn rfl)) ?_
  refine DAny.take (i := 1) rfl (by kernel_rfl) [] (by kernel_rfl) (by kernel_rfl) (by kernel_rfl) rfl rfl rfl (v := V.int .i64 a0_1180.A) (fun _ hz => (.load rfl rfl (.box (hz _ _ rfl rfl) rfl) rfl)) ?_
  refine DAny.take (i := 2) rfl (by kernel_rfl) [] (by kernel_rfl) (by kernel_rfl) (by kernel_rfl) rfl rfl rfl (v := V.bool (a0_1180.A == 0)) (fun _ hz => (.fn rfl)) ?_
  refine DAny.take (i := 3) rfl (by kernel_rfl) [] (by kernel_rfl) (by kernel_rfl) (by kernel_rfl) rfl rfl rfl (v := V.ptr [1] 0 2) (fun _ hz => (.fn rfl)) ?_
  refine DAny.take (i := 4) rfl (by kernel_rfl) [] (by kernel_rfl) (by kernel_rfl) (by kernel_rfl) rfl rfl rfl (v := V.int .i64 a0_1180.B) (fun _ hz => (.load rfl rfl (.box (hz _ _ rfl rfl) rfl) rfl)) ?_
  refine DAny.take (i := 5) rfl (by kernel_rfl) [] (by kernel_rfl) (by kernel_rfl) (by kernel_rfl) rfl rfl rfl (v := V.bool (a0_1180.B == 0)) (fun _ hz => (.fn rfl)) ?_
  refine DAny.take (i := 6) rfl (by kernel_rfl) [] (by kernel_rfl) (by kernel_rfl) (by kernel_rfl) rfl rfl rfl (v := V.bool (a0_1180.A == 0)) (fun _ hz => (.fn rfl)) ?_
  refine DAny.take (i := 7) rfl (by kernel_rfl) [] (by kernel_rfl) (by kernel_rfl) (by kernel_rfl) rfl rfl rfl (v := V.bool (a0_1180.B == 0)) (fun _ hz => (.fn rfl)) ?_
  refine DAny.nil (by kernel_rfl) ?_
  repeat (first | refine Safe.seq ?_ | refine Safe.skip ?_ | with_reducible refine thenQ.n ?_ | with_reducible refine blockQ.n ?_)
  refine Safe.region ?_
  refine SafeOps.quiet0 E_good rfl rfl rfl (v := V.ptr [1] 0 0) (.fn rfl) ?_
  refine SafeOps.quiet0 E_good rfl rfl rfl (v := V.int .i64 a0_1180.Op) (.load rfl rfl (.box rfl rfl) rfl) ?_
  refine SafeOps.nil ?_
  repeat (first | refine Safe.seq ?_ | refine Safe.skip ?_ | with_reducible refine thenQ.n ?_ | with_reducible refine blockQ.n ?_)
  refine Safe.joinT (fun ((v3_1203, v4_1204) : Bool × Bool) => go_code_odd_j2 v3_1203 v4_1204 = r) (fun ((v3_1203, v4_1204) : Bool × Bool) => ⟨Try.f62.ntmps, [(3, V.bool v3_1203), (4, V.bool v4_1204)], [], [], []⟩) ?_ (fun HJ1205 => ?_)
  · rintro ⟨v3_1203, v4_1204⟩ h
    replace h : go_code_odd_j2 v3_1203 v4_1204 = r := h
    rw [go_code_odd_j2] at h
    repeat (first | refine Safe.seq ?_ | refine Safe.skip ?_ | with_reducible refine thenQ.n ?_ | with_reducible refine blockQ.n ?_)
    refine Safe.region ?_
    refine SafeOps.quiet0 E_good rfl rfl rfl (v := V.bool v3_1203) (.fn rfl) ?_
    refine SafeOps.quiet0 E_good rfl rfl rfl (v := V.bool (!v3_1203)) (.fn rfl) ?_
    refine SafeOps.quiet0 E_good rfl rfl rfl (v := V.bool (!v3_1203)) (.fn rfl) ?_
    refine SafeOps.bjoin 3 57 (b := ((!v3_1203) || (!v4_1204))) (b1 := true) (b0 := (!v4_1204)) (fun hc1206 K => ?_) (fun hc1206 K => ?_) bj_or ?_
    · skip
      refine SafeOps.skip (congrArg (fun b => some (!b)) hc1206) rfl rfl ?_
      refine SafeOps.skip (congrArg (fun b => some (!b)) hc1206) rfl rfl ?_
      refine SafeOps.quiet0 E_good rfl rfl rfl (v := V.bool true) (.pickK rfl hc1206 rfl) ?_
      exact SafeOps.drop' 3 rfl rfl rfl K
    · skip
      refine SafeOps.quiet0 E_good (congrArg (fun b => some (!b)) hc1206) rfl rfl (v := V.bool v4_1204) (.fn rfl) ?_
      refine SafeOps.quiet0 E_good (congrArg (fun b => some (!b)) hc1206) rfl rfl (v := V.bool (!v4_1204)) (.fn rfl) ?_
      refine SafeOps.quiet0 E_good rfl rfl rfl (v := V.bool (!v4_1204)) (.pickK rfl hc1206 rfl) ?_
      exact SafeOps.drop' 3 rfl rfl rfl K
    refine SafeOps.quiet0 E_good rfl rfl rfl (v := V.bool ((!v3_1203) || (!v4_1204))) (.fn rfl) ?_
    refine SafeOps.nil ?_
    repeat (first | refine Safe.seq ?_ | refine Safe.skip ?_ | with_reducible refine thenQ.n ?_ | with_reducible refine blockQ.n ?_)
    refine Safe.ret ?_
    repeat (first | with_reducible refine thenQ.r ?_ | with_reducible refine blockQ.r ?_)
    obtain rfl := h
    exact retQ.gen (vs := [V.bool ((!v3_1203) || (!v4_1204))]) rfl (.tmp (v := V.bool ((!v3_1203) || (!v4_1204))) rfl .nil) (.free rfl) (by simp) (.inr rfl)
  · skip
    refine Safe.block ?_
    repeat (first | refine Safe.seq ?_ | refine Safe.skip ?_ | with_reducible refine thenQ.n ?_ | with_reducible refine blockQ.n ?_)
    refine Safe.region ?_
    refine SafeOps.quiet0 E_good rfl rfl rfl (v := V.bool (a0_1180.Op == 1)) (.fn rfl) ?_
    refine SafeOps.quiet0 E_good rfl rfl rfl (v := V.bool (a0_1180.Op == 1)) (.fn rfl) ?_
    refine SafeOps.nil ?_
    repeat (first | refine Safe.seq ?_ | refine Safe.skip ?_ | with_reducible refine thenQ.n ?_ | with_reducible refine blockQ.n ?_)
    refine ifG h (fun hc1207 h => ?_) (fun hc1207 h => ?_)
    · skip
      refine Safe.condK rfl hc1207 ?_
      repeat (first | refine Safe.seq ?_ | refine Safe.skip ?_ | with_reducible refine thenQ.n ?_ | with_reducible refine blockQ.n ?_)
      refine Safe.region ?_
      refine SafeOps.quiet0 E_good rfl rfl rfl (v := V.ptr [1] 0 1) (.fn rfl) ?_
      refine SafeOps.quiet0 E_good rfl rfl rfl (v := V.int .i64 a0_1180.A) (.load rfl rfl (.box rfl rfl) rfl) ?_
      refine SafeOps.quiet0 E_good rfl rfl rfl (v := V.int .i64 (IntKind.i64.wrap (a0_1180.A - 1))) (.fn rfl) ?_
      refine SafeOps.quiet0 E_good rfl rfl rfl (v := V.bool (go_code_within (IntKind.i64.wrap (a0_1180.A - 1)) 100)) (.callP rfl rfl (go_code_within_sc (IntKind.i64.wrap (a0_1180.A - 1)) 100 _ rfl) rfl) ?_
      refine SafeOps.quiet0 E_good rfl rfl rfl (v := V.bool (go_code_within (IntKind.i64.wrap (a0_1180.A - 1)) 100)) (.fn rfl) ?_
      refine SafeOps.nil ?_
      repeat (first | refine Safe.skip ?_ | with_reducible refine thenQ.n ?_ | with_reducible refine blockQ.n ?_)
      exact Safe.got (HJ1205 (go_code_within (IntKind.i64.wrap (a0_1180.A - 1)) 100, (a0_1180.B == 0)) h) (.cov ⟨rfl, rfl, (upT_cons (.refl _) (upT_cons (.refl _) upT_nil)), upOb_nil, upOut_nil, rfl⟩)
    · skip
      refine Safe.condN rfl hc1207 ?_
      repeat (first | refine Safe.seq ?_ | refine Safe.skip ?_ | with_reducible refine thenQ.n ?_ | with_reducible refine blockQ.n ?_)
      refine Safe.region ?_
      refine SafeOps.quiet0 E_good rfl rfl rfl (v := V.bool (a0_1180.Op == 2)) (.fn rfl) ?_
      refine SafeOps.quiet0 E_good rfl rfl rfl (v := V.bool (a0_1180.Op == 2)) (.fn rfl) ?_
      refine SafeOps.nil ?_
      repeat (first | refine Safe.seq ?_ | refine Safe.skip ?_ | with_reducible refine thenQ.n ?_ | with_reducible refine blockQ.n ?_)
      refine ifG h (fun hc1208 h => ?_) (fun hc1208 h => ?_)
      · skip
        refine Safe.condK rfl hc1208 ?_
        repeat (first | refine Safe.seq ?_ | refine Safe.skip ?_ | with_reducible refine thenQ.n ?_ | with_reducible refine blockQ.n ?_)
        refine Safe.regionD (n := 8) [] [] E_good mixed rfl ?_
        refine DAny.take (i := 0) rfl (by kernel_rfl) [] (by kernel_rfl) (by kernel_rfl) (by kernel_rfl) rfl rfl rfl (v := V.ptr [1] 0 1) (fun _ hz => (.fn rfl)) ?_
        refine DAny.take (i := 1) rfl (by kernel_rfl) [] (by kernel_rfl) (by kernel_rfl) (by kernel_rfl) rfl rfl rfl (v := V.int .i64 a0_1180.A) (fun _ hz => (.load rfl rfl (.box (hz _ _ rfl rfl) rfl) rfl)) ?_
        refine DAny.take (i := 2) rfl (by kernel_rfl) [] (by kernel_rfl) (by kernel_rfl) (by kernel_rfl) rfl rfl rfl (v := V.bool (go_code_within a0_1180.A 16)) (fun _ hz => (.callP rfl rfl (go_code_within_sc a0_1180.A 16 _ rfl) rfl)) ?_
        refine DAny.take (i := 3) rfl (by kernel_rfl) [] (by kernel_rfl) (by kernel_rfl) (by kernel_rfl) rfl rfl rfl (v := V.ptr [1] 0 2) (fun _ hz => (.fn rfl)) ?_
        refine DAny.take (i := 4) rfl (by kernel_rfl) [] (by kernel_rfl) (by kernel_rfl) (by kernel_rfl) rfl rfl rfl (v := V.int .i64 a0_1180.B) (fun _ hz => (.load rfl rfl (.box (hz _ _ rfl rfl) rfl) rfl)) ?_
        refine DAny.take (i := 5) rfl (by kernel_rfl) [] (by kernel_rfl) (by kernel_rfl) (by kernel_rfl) rfl rfl rfl (v := V.bool (go_code_within a0_1180.B 4)) (fun _ hz => (.callP rfl rfl (go_code_within_sc a0_1180.B 4 _ rfl) rfl)) ?_
        refine DAny.take (i := 6) rfl (by kernel_rfl) [] (by kernel_rfl) (by kernel_rfl) (by kernel_rfl) rfl rfl rfl (v := V.bool (go_code_within a0_1180.A 16)) (fun _ hz => (.fn rfl)) ?_
        refine DAny.take (i := 7) rfl (by kernel_rfl) [] (by kernel_rfl) (by kernel_rfl) (by kernel_rfl) rfl rfl rfl (v := V.bool (go_code_within a0_1180.B 4)) (fun _ hz => (.fn rfl)) ?_
        refine DAny.nil (by kernel_rfl) ?_
        repeat (first | refine Safe.skip ?_ | with_reducible refine thenQ.n ?_ | with_reducible refine blockQ.n ?_)
        exact Safe.got (HJ1205 (go_code_within a0_1180.A 16, go_code_within a0_1180.B 4) h) (.cov ⟨rfl, rfl, (upT_cons (.refl _) (upT_cons (.refl _) upT_nil)), upOb_nil, upOut_nil, rfl⟩)
      · skip
        refine Safe.condN rfl hc1208 ?_
        repeat (first | refine Safe.seq ?_ | refine Safe.skip ?_ | with_reducible refine thenQ.n ?_ | with_reducible refine blockQ.n ?_)
        refine Safe.region ?_
        refine SafeOps.quiet0 E_good rfl rfl rfl (v := V.bool (a0_1180.Op == 3)) (.fn rfl) ?_
        refine SafeOps.quiet0 E_good rfl rfl rfl (v := V.bool (a0_1180.Op == 3)) (.fn rfl) ?_
        refine SafeOps.nil ?_
        repeat (first | refine Safe.seq ?_ | refine Safe.skip ?_ | with_reducible refine thenQ.n ?_ | with_reducible refine blockQ.n ?_)
        refine Safe.joinT (fun (v27_1209 : Bool) => go_code_odd_j3 a0_1180 v27_1209 = r) (fun (v27_1209 : Bool) => ⟨Try.f62.ntmps, [(1, V.ptr [1] 0 0), (3, V.bool (a0_1180.A == 0)), (4, V.bool (a0_1180.B == 0)), (12, V.int .i64 a0_1180.Op), (27, V.bool v27_1209)], [([1], Obj.box [V.int .i64 a0_1180.Op, V.int .i64 a0_1180.A, V.int .i64 a0_1180.B])], [], []⟩) ?_ (fun HJ1210 => ?_)
        · intro v27_1209 h
          replace h : go_code_odd_j3 a0_1180 v27_1209 = r := h
          rw [go_code_odd_j3] at h
          repeat (first | refine Safe.seq ?_ | refine Safe.skip ?_ | with_reducible refine thenQ.n ?_ | with_reducible refine blockQ.n ?_)
          refine ifG h (fun hc1211 h => ?_) (fun hc1211 h => ?_)
          · skip
            refine Safe.condK rfl hc1211 ?_
            repeat (first | refine Safe.skip ?_ | with_reducible refine thenQ.n ?_ | with_reducible refine blockQ.n ?_)
            exact Safe.got (HJ1205 ((a0_1180.A == 0), (a0_1180.B == 0)) h) (.cov ⟨rfl, rfl, (upT_cons (.refl _) (upT_cons (.refl _) upT_nil)), upOb_nil, upOut_nil, rfl⟩)
          · skip
            refine Safe.condN rfl hc1211 ?_
            repeat (first | refine Safe.seq ?_ | refine Safe.skip ?_ | with_reducible refine thenQ.n ?_ | with_reducible refine blockQ.n ?_)
            refine Safe.region ?_
            refine SafeOps.quiet0 E_good rfl rfl rfl (v := V.bool (a0_1180.Op == 4)) (.fn rfl) ?_
            refine SafeOps.quiet0 E_good rfl rfl rfl (v := V.bool (a0_1180.Op == 4)) (.fn rfl) ?_
            refine SafeOps.nil ?_
            repeat (first | refine Safe.seq ?_ | refine Safe.skip ?_ | with_reducible refine thenQ.n ?_ | with_reducible refine blockQ.n ?_)
            refine ifG h (fun hc1212 h => ?_) (fun hc1212 h => ?_)
            · skip
              refine Safe.condK rfl hc1212 ?_
              repeat (first | refine Safe.seq ?_ | refine Safe.skip ?_ | with_reducible refine thenQ.n ?_ | with_reducible refine blockQ.n ?_)
              refine Safe.region ?_
              refine SafeOps.quiet0 E_good rfl rfl rfl (v := V.ptr [1] 0 1) (.fn rfl) ?_
              refine SafeOps.quiet0 E_good rfl rfl rfl (v := V.int .i64 a0_1180.A) (.load rfl rfl (.box rfl rfl) rfl) ?_
              refine SafeOps.quiet0 E_good rfl rfl rfl (v := V.int .i64 (IntKind.i64.wrap (a0_1180.A - 1))) (.fn rfl) ?_
              refine SafeOps.quiet0 E_good rfl rfl rfl (v := V.bool (go_code_within (IntKind.i64.wrap (a0_1180.A - 1)) 1000)) (.callP rfl rfl (go_code_within_sc (IntKind.i64.wrap (a0_1180.A - 1)) 1000 _ rfl) rfl) ?_
              refine SafeOps.quiet0 E_good rfl rfl rfl (v := V.bool (go_code_within (IntKind.i64.wrap (a0_1180.A - 1)) 1000)) (.fn rfl) ?_
              refine SafeOps.nil ?_
              repeat (first | refine Safe.skip ?_ | with_reducible refine thenQ.n ?_ | with_reducible refine blockQ.n ?_)
              exact Safe.got (HJ1205 (go_code_within (IntKind.i64.wrap (a0_1180.A - 1)) 1000, (a0_1180.B == 0)) h) (.cov ⟨rfl, rfl, (upT_cons (.refl _) (upT_cons (.refl _) upT_nil)), upOb_nil, upOut_nil, rfl⟩)
            · skip
              refine Safe.condN rfl hc1212 ?_
              repeat (first | refine Safe.seq ?_ | refine Safe.skip ?_ | with_reducible refine thenQ.n ?_ | with_reducible refine blockQ.n ?_)
              refine Safe.region ?_
              refine SafeOps.quiet0 E_good rfl rfl rfl (v := V.bool (a0_1180.Op == 5)) (.fn rfl) ?_
              refine SafeOps.quiet0 E_good rfl rfl rfl (v := V.bool (a0_1180.Op == 5)) (.fn rfl) ?_
              refine SafeOps.nil ?_
              repeat (first | refine Safe.seq ?_ | refine Safe.skip ?_ | with_reducible refine thenQ.n ?_ | with_reducible refine blockQ.n ?_)
              refine ifG h (fun hc1213 h => ?_) (fun hc1213 h => ?_)
              · skip
                refine Safe.condK rfl hc1213 ?_
                repeat (first | refine Safe.seq ?_ | refine Safe.skip ?_ | with_reducible refine thenQ.n ?_ | with_reducible refine blockQ.n ?_)
                refine Safe.region ?_
                refine SafeOps.quiet0 E_good rfl rfl rfl (v := V.ptr [1] 0 1) (.fn rfl) ?_
                refine SafeOps.quiet0 E_good rfl rfl rfl (v := V.int .i64 a0_1180.A) (.load rfl rfl (.box rfl rfl) rfl) ?_
                refine SafeOps.quiet0 E_good rfl rfl rfl (v := V.bool (go_code_within a0_1180.A 16)) (.callP rfl rfl (go_code_within_sc a0_1180.A 16 _ rfl) rfl) ?_
                refine SafeOps.quiet0 E_good rfl rfl rfl (v := V.bool (go_code_within a0_1180.A 16)) (.fn rfl) ?_
                refine SafeOps.nil ?_
                repeat (first | refine Safe.skip ?_ | with_reducible refine thenQ.n ?_ | with_reducible refine blockQ.n ?_)
                exact Safe.got (HJ1205 (go_code_within a0_1180.A 16, (a0_1180.B == 0)) h) (.cov ⟨rfl, rfl, (upT_cons (.refl _) (upT_cons (.refl _) upT_nil)), upOb_nil, upOut_nil, rfl⟩)
              · skip
                refine Safe.condN rfl hc1213 ?_
                repeat (first | refine Safe.seq ?_ | refine Safe.skip ?_ | with_reducible refine thenQ.n ?_ | with_reducible refine blockQ.n ?_)
                refine Safe.region ?_
                refine SafeOps.quiet0 E_good rfl rfl rfl (v := V.bool (a0_1180.Op == 6)) (.fn rfl) ?_
                refine SafeOps.quiet0 E_good rfl rfl rfl (v := V.bool (a0_1180.Op == 6)) (.fn rfl) ?_
                refine SafeOps.nil ?_
                repeat (first | refine Safe.seq ?_ | refine Safe.skip ?_ | with_reducible refine thenQ.n ?_ | with_reducible refine blockQ.n ?_)
                refine ifG h (fun hc1214 h => ?_) (fun hc1214 h => ?_)
                · skip
                  refine Safe.condK rfl hc1214 ?_
                  repeat (first | refine Safe.seq ?_ | refine Safe.skip ?_ | with_reducible refine thenQ.n ?_ | with_reducible refine blockQ.n ?_)
                  refine Safe.region ?_
                  refine SafeOps.quiet0 E_good rfl rfl rfl (v := V.ptr [1] 0 1) (.fn rfl) ?_
                  refine SafeOps.quiet0 E_good rfl rfl rfl (v := V.int .i64 a0_1180.A) (.load rfl rfl (.box rfl rfl) rfl) ?_
                  refine SafeOps.quiet0 E_good rfl rfl rfl (v := V.bool (go_code_within a0_1180.A 4)) (.callP rfl rfl (go_code_within_sc a0_1180.A 4 _ rfl) rfl) ?_
                  refine SafeOps.quiet0 E_good rfl rfl rfl (v := V.bool (go_code_within a0_1180.A 4)) (.fn rfl) ?_
                  refine SafeOps.nil ?_
                  repeat (first | refine Safe.skip ?_ | with_reducible refine thenQ.n ?_ | with_reducible refine blockQ.n ?_)
                  exact Safe.got (HJ1205 (go_code_within a0_1180.A 4, (a0_1180.B == 0)) h) (.cov ⟨rfl, rfl, (upT_cons (.refl _) (upT_cons (.refl _) upT_nil)), upOb_nil, upOut_nil, rfl⟩)
                · skip
                  refine Safe.condN rfl hc1214 ?_
                  repeat (first | refine Safe.seq ?_ | refine Safe.skip ?_ | with_reducible refine thenQ.n ?_ | with_reducible refine blockQ.n ?_)
                  refine Safe.region ?_
                  refine SafeOps.quiet0 E_good rfl rfl rfl (v := V.bool (a0_1180.Op == 7)) (.fn rfl) ?_
                  refine SafeOps.quiet0 E_good rfl rfl rfl (v := V.bool (a0_1180.Op == 7)) (.fn rfl) ?_
                  refine SafeOps.nil ?_
                  repeat (first | refine Safe.seq ?_ | refine Safe.skip ?_ | with_reducible refine thenQ.n ?_ | with_reducible refine blockQ.n ?_)
                  refine Safe.joinT (fun (v46_1215 : Bool) => go_code_odd_j4 a0_1180 v46_1215 = r) (fun (v46_1215 : Bool) => ⟨Try.f62.ntmps, [(1, V.ptr [1] 0 0), (4, V.bool (a0_1180.B == 0)), (46, V.bool v46_1215)], [([1], Obj.box [V.int .i64 a0_1180.Op, V.int .i64 a0_1180.A, V.int .i64 a0_1180.B])], [], []⟩) ?_ (fun HJ1216 => ?_)
                  · intro v46_1215 h
                    replace h : go_code_odd_j4 a0_1180 v46_1215 = r := h
                    rw [go_code_odd_j4] at h
                    repeat (first | refine Safe.seq ?_ | refine Safe.skip ?_ | with_reducible refine thenQ.n ?_ | with_reducible refine blockQ.n ?_)
                    refine ifG h (fun hc1217 h => ?_) (fun hc1217 h => ?_)
                    · skip
                      refine Safe.condK rfl hc1217 ?_
                      repeat (first | refine Safe.seq ?_ | refine Safe.skip ?_ | with_reducible refine thenQ.n ?_ | with_reducible refine blockQ.n ?_)
                      refine Safe.region ?_
                      refine SafeOps.quiet0 E_good rfl rfl rfl (v := V.ptr [1] 0 1) (.fn rfl) ?_
                      refine SafeOps.quiet0 E_good rfl rfl rfl (v := V.int .i64 a0_1180.A) (.load rfl rfl (.box rfl rfl) rfl) ?_
                      refine SafeOps.quiet0 E_good rfl rfl rfl (v := V.bool (go_code_within a0_1180.A 8)) (.callP rfl rfl (go_code_within_sc a0_1180.A 8 _ rfl) rfl) ?_
                      refine SafeOps.quiet0 E_good rfl rfl rfl (v := V.bool (go_code_within a0_1180.A 8)) (.fn rfl) ?_
                      refine SafeOps.nil ?_
                      repeat (first | refine Safe.skip ?_ | with_reducible refine thenQ.n ?_ | with_reducible refine blockQ.n ?_)
                      exact Safe.got (HJ1205 (go_code_within a0_1180.A 8, (a0_1180.B == 0)) h) (.cov ⟨rfl, rfl, (upT_cons (.refl _) (upT_cons (.refl _) upT_nil)), upOb_nil, upOut_nil, rfl⟩)
                    · skip
                      refine Safe.condN rfl hc1217 ?_
                      repeat (first | refine Safe.seq ?_ | refine Safe.skip ?_ | with_reducible refine thenQ.n ?_ | with_reducible refine blockQ.n ?_)
                      refine Safe.region ?_
                      refine SafeOps.quiet0 E_good rfl rfl rfl (v := V.bool true) (.fn rfl) ?_
                      refine SafeOps.nil ?_
                      repeat (first | refine Safe.seq ?_ | refine Safe.skip ?_ | with_reducible refine thenQ.n ?_ | with_reducible refine blockQ.n ?_)
                      refine Safe.ret ?_
                      repeat (first | with_reducible refine thenQ.r ?_ | with_reducible refine blockQ.r ?_)
                      obtain rfl := h
                      exact retQ.gen (vs := [V.bool true]) rfl (.tmp (v := V.bool true) rfl .nil) (.free rfl) (by simp) (.inr rfl)
                  · skip
                    refine ifG h (fun hc1218 h => ?_) (fun hc1218 h => ?_)
                    · skip
                      refine Safe.condK rfl hc1218 ?_
                      repeat (first | refine Safe.skip ?_ | with_reducible refine thenQ.n ?_ | with_reducible refine blockQ.n ?_)
                      exact Safe.got (HJ1216 ((a0_1180.Op == 7)) h) (.cov ⟨rfl, rfl, (upT_cons (.refl _) (upT_cons (.refl _) (upT_cons (.refl _) upT_nil))), (upOb_cons rfl (.refl _) upOb_nil), upOut_nil, rfl⟩)
                    · skip
                      refine Safe.condN rfl hc1218 ?_
                      repeat (first | refine Safe.seq ?_ | refine Safe.skip ?_ | with_reducible refine thenQ.n ?_ | with_reducible refine blockQ.n ?_)
                      refine Safe.region ?_
                      refine SafeOps.quiet0 E_good rfl rfl rfl (v := V.bool (a0_1180.Op == 8)) (.fn rfl) ?_
                      refine SafeOps.quiet0 E_good rfl rfl rfl (v := V.bool (a0_1180.Op == 8)) (.fn rfl) ?_
                      refine SafeOps.nil ?_
                      repeat (first | refine Safe.skip ?_ | with_reducible refine thenQ.n ?_ | with_reducible refine blockQ.n ?_)
                      exact Safe.got (HJ1216 ((a0_1180.Op == 8)) h) (.cov ⟨rfl, rfl, (upT_cons (.refl _) (upT_cons (.refl _) (upT_cons (.refl _) upT_nil))), (upOb_cons rfl (.refl _) upOb_nil), upOut_nil, rfl⟩)
        · skip
          refine ifG h (fun hc1219 h => ?_) (fun hc1219 h => ?_)
          · skip
            refine Safe.condK rfl hc1219 ?_
            repeat (first | refine Safe.skip ?_ | with_reducible refine thenQ.n ?_ | with_reducible refine blockQ.n ?_)
            exact Safe.got (HJ1210 ((a0_1180.Op == 3)) h) (.cov ⟨rfl, rfl, (upT_cons (.refl _) (upT_cons (.refl _) (upT_cons (.refl _) (upT_cons (.refl _) (upT_cons (.refl _) upT_nil))))), (upOb_cons rfl (.refl _) upOb_nil), upOut_nil, rfl⟩)
          · skip
            refine Safe.condN rfl hc1219 ?_
            repeat (first | refine Safe.seq ?_ | refine Safe.skip ?_ | with_reducible refine thenQ.n ?_ | with_reducible refine blockQ.n ?_)
            refine Safe.region ?_
            refine SafeOps.quiet0 E_good rfl rfl rfl (v := V.bool (a0_1180.Op == 9)) (.fn rfl) ?_
            refine SafeOps.quiet0 E_good rfl rfl rfl (v := V.bool (a0_1180.Op == 9)) (.fn rfl) ?_
            refine SafeOps.nil ?_
            repeat (first | refine Safe.skip ?_ | with_reducible refine thenQ.n ?_ | with_reducible refine blockQ.n ?_)
            exact Safe.got (HJ1210 ((a0_1180.Op == 9)) h) (.cov ⟨rfl, rfl, (upT_cons (.refl _) (upT_cons (.refl _) (upT_cons (.refl _) (upT_cons (.refl _) (upT_cons (.refl _) upT_nil))))), (upOb_cons rfl (.refl _) upOb_nil), upOut_nil, rfl⟩)

noncomputable def go_slices_IndexFunc_api_Instr_api_Instr_odd62_s1 (a0_1176 : List api_Instr) : (Int) → Option ((Int) ⊕ (Int))
  | v8_1237 =>
    if (decide (v8_1237 < (a0_1176.length : Int))) = true then
      if 0 ≤ v8_1237 ∧ v8_1237 < (a0_1176.length : Int) then
        if (go_code_odd (gt a0_1176 v8_1237)) = true then
          inrO (
            some v8_1237)
        else
          nextO (IntKind.i64.wrap (v8_1237 + 1))
      else none
    else
      inrO (
        some (-1))

noncomputable def go_slices_IndexFunc_api_Instr_api_Instr_odd62 (a0_1176 : List api_Instr) : Option Int :=
  whileO (go_slices_IndexFunc_api_Instr_api_Instr_odd62_s1 a0_1176) 0

theorem go_slices_IndexFunc_api_Instr_api_Instr_odd62_sc (a0_1176 : List api_Instr) (r : Int) (h : go_slices_IndexFunc_api_Instr_api_Instr_odd62 a0_1176 = some r) : SC Try.prog gl 56 [V.sl 3 (rws api_Instr.cells a0_1176), V.fn 62 []] (V.int .i64 r) := by
  rw [go_slices_IndexFunc_api_Instr_api_Instr_odd62] at h
  refine SC.of E_good Try.func56 rfl (fun _ _ => Try.call56 _ _) rfl ?_
  repeat (first | refine Safe.seq ?_ | refine Safe.skip ?_ | with_reducible refine thenQ.n ?_ | with_reducible refine blockQ.n ?_)
  refine Safe.region ?_
  refine SafeOps.quiet0 E_good rfl rfl rfl (v := V.int .i64 0) (.fn rfl) ?_
  refine SafeOps.nil ?_
  repeat (first | refine Safe.seq ?_ | refine Safe.skip ?_ | with_reducible refine thenQ.n ?_ | with_reducible refine blockQ.n ?_)
  refine Safe.region ?_
  refine SafeOps.quiet0 E_good rfl rfl rfl (v := V.sl 3 (rws api_Instr.cells a0_1176)) (.fn rfl) ?_
  refine SafeOps.quiet0 E_good rfl rfl rfl (v := V.int .i64 (a0_1176.length : Int)) (.fnE rfl lenE) ?_
  refine SafeOps.quiet0 E_good rfl rfl rfl (v := V.int .i64 0) (.fn rfl) ?_
  refine SafeOps.nil ?_
  repeat (first | refine Safe.seq ?_ | refine Safe.skip ?_ | with_reducible refine thenQ.n ?_ | with_reducible refine blockQ.n ?_)
  refine Safe.block ?_
  repeat (first | refine Safe.seq ?_ | refine Safe.skip ?_ | with_reducible refine thenQ.n ?_ | with_reducible refine blockQ.n ?_)
  refine Safe.loopW (fun (v8_1237 : Int) => ⟨Try.f56.ntmps, [(0, V.sl 3 (rws api_Instr.cells a0_1176)), (1, V.fn 62 []), (7, V.int .i64 (a0_1176.length : Int)), (8, V.int .i64 v8_1237)], [], [], []⟩) h (.cov ⟨rfl, rfl, (upT_cons (.refl _) (upT_cons (.refl _) (upT_cons (.refl _) (upT_cons (.refl _) upT_nil)))), upOb_nil, upOut_nil, rfl⟩) ?_
  intro v8_1237 ohr1238 h hr1238
  replace h : go_slices_IndexFunc_api_Instr_api_Instr_odd62_s1 a0_1176 v8_1237 = some ohr1238 := h
  rw [go_slices_IndexFunc_api_Instr_api_Instr_odd62_s1] at h
  repeat (first | refine Safe.seq ?_ | refine Safe.skip ?_ | with_reducible refine thenQ.n ?_ | with_reducible refine blockQ.n ?_)
  refine Safe.region ?_
  refine SafeOps.quiet0 E_good rfl rfl rfl (v := V.bool (decide (v8_1237 < (a0_1176.length : Int)))) (.fn rfl) ?_
  refine SafeOps.nil ?_
  repeat (first | refine Safe.seq ?_ | refine Safe.skip ?_ | with_reducible refine thenQ.n ?_ | with_reducible refine blockQ.n ?_)
  refine ifG h (fun hc1239 h => ?_) (fun hc1239 h => ?_)
  · skip
    refine Safe.condK rfl hc1239 ?_
    repeat (first | refine Safe.seq ?_ | refine Safe.skip ?_ | with_reducible refine thenQ.n ?_ | with_reducible refine blockQ.n ?_)
    refine Safe.block ?_
    repeat (first | refine Safe.seq ?_ | refine Safe.skip ?_ | with_reducible refine thenQ.n ?_ | with_reducible refine blockQ.n ?_)
    refine Safe.region ?_
    refine SafeOps.quiet0 E_good rfl rfl rfl (v := V.int .i64 v8_1237) (.fn rfl) ?_
    refine SafeOps.quiet0 E_good rfl rfl rfl (v := V.int .i64 v8_1237) (.fn rfl) ?_
    refine SafeOps.nil ?_
    repeat (first | refine Safe.seq ?_ | refine Safe.skip ?_ | with_reducible refine thenQ.n ?_ | with_reducible refine blockQ.n ?_)
    refine Safe.region ?_
    refine SafeOps.quiet0 E_good rfl rfl rfl (v := V.fn 62 []) (.fn rfl) ?_
    refine SafeOps.quiet0 E_good rfl rfl rfl (v := V.sl 3 (rws api_Instr.cells a0_1176)) (.fn rfl) ?_
    refine SafeOps.quiet0 E_good rfl rfl rfl (v := V.int .i64 v8_1237) (.fn rfl) ?_
    refine okG h (fun hb1240 h => ?_)
    refine SafeOps.quiet0 E_good rfl rfl rfl (v := V.spt 3 (rws api_Instr.cells a0_1176) (Int.toNat v8_1237) 0) (.idxSlM (f := api_Instr.cells) rfl rfl rfl rfl rfl hb1240) ?_
    refine SafeOps.quiet0 E_good rfl rfl rfl (v := V.agg [V.int .i64 ((gt a0_1176 v8_1237).Op), V.int .i64 ((gt a0_1176 v8_1237).A), V.int .i64 ((gt a0_1176 v8_1237).B)]) (.load rfl rfl (.sptM (f := api_Instr.cells) hb1240 rfl) rfl) ?_
    refine SafeOps.quiet0 E_good rfl rfl rfl (v := V.bool (go_code_odd (gt a0_1176 v8_1237))) (.callP rfl rfl (go_code_odd_sc (gt a0_1176 v8_1237) _ rfl) rfl) ?_
    refine SafeOps.nil ?_
    repeat (first | refine Safe.seq ?_ | refine Safe.skip ?_ | with_reducible refine thenQ.n ?_ | with_reducible refine blockQ.n ?_)
    refine ifG h (fun hc1241 h => ?_) (fun hc1241 h => ?_)
    · skip
      refine Safe.condK rfl hc1241 ?_
      repeat (first | refine Safe.seq ?_ | refine Safe.skip ?_ | with_reducible refine thenQ.n ?_ | with_reducible refine blockQ.n ?_)
      refine Safe.region ?_
      refine SafeOps.quiet0 E_good rfl rfl rfl (v := V.int .i64 v8_1237) (.fn rfl) ?_
      refine SafeOps.quiet0 E_good rfl rfl rfl (v := V.int .i64 v8_1237) (.fn rfl) ?_
      refine SafeOps.nil ?_
      repeat (first | refine Safe.seq ?_ | refine Safe.skip ?_ | with_reducible refine thenQ.n ?_ | with_reducible refine blockQ.n ?_)
      refine Safe.ret ?_
      repeat (first | with_reducible refine thenQ.r ?_ | with_reducible refine blockQ.r ?_)
      replace h := inr_out h hr1238
      obtain rfl := Option.some.inj h
      exact retQ.gen (vs := [V.int .i64 v8_1237]) rfl (.tmp (v := V.int .i64 v8_1237) rfl .nil) (.free rfl) (by simp) (.inr rfl)
    · skip
      refine Safe.condN rfl hc1241 ?_
      repeat (first | refine Safe.seq ?_ | refine Safe.skip ?_ | with_reducible refine thenQ.n ?_ | with_reducible refine blockQ.n ?_)
      refine Safe.region ?_
      refine SafeOps.quiet0 E_good rfl rfl rfl (v := V.int .i64 (IntKind.i64.wrap (v8_1237 + 1))) (.fn rfl) ?_
      refine SafeOps.quiet0 E_good rfl rfl rfl (v := V.int .i64 (IntKind.i64.wrap (v8_1237 + 1))) (.fn rfl) ?_
      refine SafeOps.nil ?_
      repeat (first | refine Safe.seq ?_ | refine Safe.skip ?_ | with_reducible refine thenQ.n ?_ | with_reducible refine blockQ.n ?_)
      exact ⟨_, next_out h, (.cov ⟨rfl, rfl, (upT_cons (.refl _) (upT_cons (.refl _) (upT_cons (.refl _) (upT_cons (.refl _) upT_nil)))), upOb_nil, upOut_nil, rfl⟩)⟩
  · skip
    refine Safe.condN rfl hc1239 ?_
    repeat (first | refine Safe.seq ?_ | refine Safe.skip ?_ | with_reducible refine thenQ.n ?_ | with_reducible refine blockQ.n ?_)
    refine Safe.exit ?_
    repeat (first | with_reducible refine thenQ.e ?_ | with_reducible refine blockQ.x rfl ?_ | with_reducible refine blockQ.y rfl ?_)
    replace h := inr_out h hr1238
    repeat (first | refine Safe.seq ?_ | refine Safe.skip ?_ | with_reducible refine thenQ.n ?_ | with_reducible refine blockQ.n ?_)
    refine Safe.region ?_
    refine SafeOps.quiet0 E_good rfl rfl rfl (v := V.int .i64 (-1)) (.fn rfl) ?_
    refine SafeOps.nil ?_
    repeat (first | refine Safe.seq ?_ | refine Safe.skip ?_ | with_reducible refine thenQ.n ?_ | with_reducible refine blockQ.n ?_)
    refine Safe.ret ?_
    repeat (first | with_reducible refine thenQ.r ?_ | with_reducible refine blockQ.r ?_)
    obtain rfl := Option.some.inj h
    exact retQ.gen (vs := [V.int .i64 (-1)]) rfl (.tmp (v := V.int .i64 (-1)) rfl .nil) (.free rfl) (by simp) (.inr rfl)

noncomputable def go_slices_ContainsFunc_api_Instr_api_Instr_odd62 (a0_1175 : List api_Instr) : Option Bool :=
  (go_slices_IndexFunc_api_Instr_api_Instr_odd62 a0_1175).bind fun x_1244 =>
  some (decide (x_1244 ≥ 0))

theorem go_slices_ContainsFunc_api_Instr_api_Instr_odd62_sc (a0_1175 : List api_Instr) (r : Bool) (h : go_slices_ContainsFunc_api_Instr_api_Instr_odd62 a0_1175 = some r) : SC Try.prog gl 41 [V.sl 3 (rws api_Instr.cells a0_1175), V.fn 62 []] (V.bool r) := by
  rw [go_slices_ContainsFunc_api_Instr_api_Instr_odd62] at h
  refine SC.of E_good Try.func41 rfl (fun _ _ => Try.call41 _ _) rfl ?_
  repeat (first | refine Safe.seq ?_ | refine Safe.skip ?_ | with_reducible refine thenQ.n ?_ | with_reducible refine blockQ.n ?_)
  refine Safe.region ?_
  refine SafeOps.quiet0 E_good rfl rfl rfl (v := V.bool false) (.fn rfl) ?_
  refine SafeOps.nil ?_
  repeat (first | refine Safe.seq ?_ | refine Safe.skip ?_ | with_reducible refine thenQ.n ?_ | with_reducible refine blockQ.n ?_)
  refine Safe.region ?_
  refine SafeOps.quiet0 E_good rfl rfl rfl (v := V.sl 3 (rws api_Instr.cells a0_1175)) (.fn rfl) ?_
  refine SafeOps.quiet0 E_good rfl rfl rfl (v := V.fn 62 []) (.fn rfl) ?_
  refine bindG h ?_
  intro x_1244 he1245 h
  refine SafeOps.quiet0 E_good rfl rfl rfl (v := V.int .i64 x_1244) (.callP rfl rfl (go_slices_IndexFunc_api_Instr_api_Instr_odd62_sc a0_1175 _ he1245) rfl) ?_
  refine SafeOps.quiet0 E_good rfl rfl rfl (v := V.bool (decide (x_1244 ≥ 0))) (.fn rfl) ?_
  refine SafeOps.quiet0 E_good rfl rfl rfl (v := V.bool (decide (x_1244 ≥ 0))) (.fn rfl) ?_
  refine SafeOps.nil ?_
  repeat (first | refine Safe.seq ?_ | refine Safe.skip ?_ | with_reducible refine thenQ.n ?_ | with_reducible refine blockQ.n ?_)
  refine Safe.ret ?_
  repeat (first | with_reducible refine thenQ.r ?_ | with_reducible refine blockQ.r ?_)
  obtain rfl := Option.some.inj h
  exact retQ.gen (vs := [V.bool (decide (x_1244 ≥ 0))]) rfl (.tmp (v := V.bool (decide (x_1244 ≥ 0))) rfl .nil) (.free rfl) (by simp) (.inr rfl)

noncomputable def go_code_Check (a0_1172 : List api_Instr) : Option Int :=
  if ((decide ((a0_1172.length : Int) < 1)) || (decide ((a0_1172.length : Int) > 32))) = true then
    some 1
  else
    (go_slices_ContainsFunc_api_Instr_api_Instr_odd62 a0_1172).bind fun x_1260 =>
    if x_1260 = true then
      some 1
    else
      some 0

theorem go_code_Check_sc (a0_1172 : List api_Instr) (r : Int) (h : go_code_Check a0_1172 = some r) : SC Try.prog gl 52 [V.sl 3 (rws api_Instr.cells a0_1172)] (V.int .i64 r) := by
  rw [go_code_Check] at h
  refine SC.of E_good Try.func52 rfl (fun _ _ => Try.call52 _ _) rfl ?_
  repeat (first | refine Safe.seq ?_ | refine Safe.skip ?_ | with_reducible refine thenQ.n ?_ | with_reducible refine blockQ.n ?_)
  refine Safe.region ?_
  refine SafeOps.quiet0 E_good rfl rfl rfl (v := V.int .i64 0) (.fn rfl) ?_
  refine SafeOps.nil ?_
  repeat (first | refine Safe.seq ?_ | refine Safe.skip ?_ | with_reducible refine thenQ.n ?_ | with_reducible refine blockQ.n ?_)
  refine Safe.region ?_
  refine SafeOps.quiet0 E_good rfl rfl rfl (v := V.sl 3 (rws api_Instr.cells a0_1172)) (.fn rfl) ?_
  refine SafeOps.quiet0 E_good rfl rfl rfl (v := V.int .i64 (a0_1172.length : Int)) (.fnE rfl lenE) ?_
  refine SafeOps.quiet0 E_good rfl rfl rfl (v := V.bool (decide ((a0_1172.length : Int) < 1))) (.fn rfl) ?_
  refine SafeOps.quiet0 E_good rfl rfl rfl (v := V.bool (decide ((a0_1172.length : Int) < 1))) (.fn rfl) ?_
  refine SafeOps.bjoin 4 10 (b := ((decide ((a0_1172.length : Int) < 1)) || (decide ((a0_1172.length : Int) > 32)))) (b1 := true) (b0 := decide ((a0_1172.length : Int) > 32)) (fun hc1256 K => ?_) (fun hc1256 K => ?_) bj_or ?_
  · skip
    refine SafeOps.skip (congrArg (fun b => some (!b)) hc1256) rfl rfl ?_
    refine SafeOps.skip (congrArg (fun b => some (!b)) hc1256) rfl rfl ?_
    refine SafeOps.skip (congrArg (fun b => some (!b)) hc1256) rfl rfl ?_
    refine SafeOps.quiet0 E_good rfl rfl rfl (v := V.bool true) (.pickK rfl hc1256 rfl) ?_
    exact SafeOps.drop' 4 rfl rfl rfl K
  · skip
    refine SafeOps.quiet0 E_good (congrArg (fun b => some (!b)) hc1256) rfl rfl (v := V.sl 3 (rws api_Instr.cells a0_1172)) (.fn rfl) ?_
    refine SafeOps.quiet0 E_good (congrArg (fun b => some (!b)) hc1256) rfl rfl (v := V.int .i64 (a0_1172.length : Int)) (.fnE rfl lenE) ?_
    refine SafeOps.quiet0 E_good (congrArg (fun b => some (!b)) hc1256) rfl rfl (v := V.bool (decide ((a0_1172.length : Int) > 32))) (.fn rfl) ?_
    refine SafeOps.quiet0 E_good rfl rfl rfl (v := V.bool (decide ((a0_1172.length : Int) > 32))) (.pickK rfl hc1256 rfl) ?_
    exact SafeOps.drop' 4 rfl rfl rfl K
  refine SafeOps.quiet0 E_good rfl rfl rfl (v := V.bool ((decide ((a0_1172.length : Int) < 1)) || (decide ((a0_1172.length : Int) > 32)))) (.fn rfl) ?_
  refine ifG h (fun hc1257 h => ?_) (fun hc1257 h => ?_)
  · skip
    refine SafeOps.skip (congrArg (fun b => some (!b)) hc1257) rfl rfl ?_
    refine SafeOps.skip (congrArg (fun b => some (!b)) hc1257) rfl rfl ?_
    refine SafeOps.quiet0 E_good rfl rfl rfl (v := V.bool true) (.pickK rfl hc1257 rfl) ?_
    refine SafeOps.nil ?_
    repeat (first | refine Safe.seq ?_ | refine Safe.skip ?_ | with_reducible refine thenQ.n ?_ | with_reducible refine blockQ.n ?_)
    refine Safe.condK rfl rfl ?_
    repeat (first | refine Safe.seq ?_ | refine Safe.skip ?_ | with_reducible refine thenQ.n ?_ | with_reducible refine blockQ.n ?_)
    refine Safe.region ?_
    refine SafeOps.quiet0 E_good rfl rfl rfl (v := V.int .i64 1) (.fn rfl) ?_
    refine SafeOps.nil ?_
    repeat (first | refine Safe.seq ?_ | refine Safe.skip ?_ | with_reducible refine thenQ.n ?_ | with_reducible refine blockQ.n ?_)
    refine Safe.ret ?_
    repeat (first | with_reducible refine thenQ.r ?_ | with_reducible refine blockQ.r ?_)
    obtain rfl := Option.some.inj h
    exact retQ.gen (vs := [V.int .i64 1]) rfl (.tmp (v := V.int .i64 1) rfl .nil) (.free rfl) (by simp) (.inr rfl)
  · skip
    refine SafeOps.quiet0 E_good (congrArg (fun b => some (!b)) hc1257) rfl rfl (v := V.sl 3 (rws api_Instr.cells a0_1172)) (.fn rfl) ?_
    refine bindG h ?_
    intro x_1260 he1261 h
    refine SafeOps.quiet0 E_good (congrArg (fun b => some (!b)) hc1257) rfl rfl (v := V.bool x_1260) (.callP rfl rfl (go_slices_ContainsFunc_api_Instr_api_Instr_odd62_sc a0_1172 _ he1261) rfl) ?_
    refine SafeOps.quiet0 E_good rfl rfl rfl (v := V.bool x_1260) (.pickK rfl hc1257 rfl) ?_
    refine SafeOps.nil ?_
    repeat (first | refine Safe.seq ?_ | refine Safe.skip ?_ | with_reducible refine thenQ.n ?_ | with_reducible refine blockQ.n ?_)
    refine ifG h (fun hc1262 h => ?_) (fun hc1262 h => ?_)
    · skip
      refine Safe.condK rfl hc1262 ?_
      repeat (first | refine Safe.seq ?_ | refine Safe.skip ?_ | with_reducible refine thenQ.n ?_ | with_reducible refine blockQ.n ?_)
      refine Safe.region ?_
      refine SafeOps.quiet0 E_good rfl rfl rfl (v := V.int .i64 1) (.fn rfl) ?_
      refine SafeOps.nil ?_
      repeat (first | refine Safe.seq ?_ | refine Safe.skip ?_ | with_reducible refine thenQ.n ?_ | with_reducible refine blockQ.n ?_)
      refine Safe.ret ?_
      repeat (first | with_reducible refine thenQ.r ?_ | with_reducible refine blockQ.r ?_)
      obtain rfl := Option.some.inj h
      exact retQ.gen (vs := [V.int .i64 1]) rfl (.tmp (v := V.int .i64 1) rfl .nil) (.free rfl) (by simp) (.inr rfl)
    · skip
      refine Safe.condN rfl hc1262 ?_
      repeat (first | refine Safe.seq ?_ | refine Safe.skip ?_ | with_reducible refine thenQ.n ?_ | with_reducible refine blockQ.n ?_)
      refine Safe.region ?_
      refine SafeOps.quiet0 E_good rfl rfl rfl (v := V.int .i64 0) (.fn rfl) ?_
      refine SafeOps.nil ?_
      repeat (first | refine Safe.seq ?_ | refine Safe.skip ?_ | with_reducible refine thenQ.n ?_ | with_reducible refine blockQ.n ?_)
      refine Safe.ret ?_
      repeat (first | with_reducible refine thenQ.r ?_ | with_reducible refine blockQ.r ?_)
      obtain rfl := Option.some.inj h
      exact retQ.gen (vs := [V.int .i64 0]) rfl (.tmp (v := V.int .i64 0) rfl .nil) (.free rfl) (by simp) (.inr rfl)

noncomputable def go_code_CheckAll_s4 (a0_1162 : List (List api_Instr)) (v17_1447 : Int) : (Int) → Option ((Int) ⊕ ((Int) ⊕ (Int)))
  | v8_1478 =>
    if (decide (v8_1478 < ((gt a0_1162 v17_1447).length : Int))) = true then
      if 0 ≤ v8_1478 ∧ v8_1478 < ((gt a0_1162 v17_1447).length : Int) then
        if ((((gt (gt a0_1162 v17_1447) v8_1478).Op) == 2) && (decide (((gt (gt a0_1162 v17_1447) v8_1478).A) ≥ (a0_1162.length : Int)))) = true then
          inrO (
            if (decide (v8_1478 ≥ 0)) = true then
              inrO (
                some 1)
            else
              nextO (IntKind.i64.wrap (v17_1447 + 1)))
        else
          nextO (IntKind.i64.wrap (v8_1478 + 1))
      else none
    else
      inrO (
        nextO (IntKind.i64.wrap (v17_1447 + 1)))

noncomputable def go_code_CheckAll_s3 (a0_1162 : List (List api_Instr)) : (Int) → Option ((Int) ⊕ (Int))
  | v17_1447 =>
    if (decide (v17_1447 < (a0_1162.length : Int))) = true then
      if 0 ≤ v17_1447 ∧ v17_1447 < (a0_1162.length : Int) then
        (go_code_Check (gt a0_1162 v17_1447)).bind fun x_1451 =>
        if (x_1451 != 0) = true then
          inrO (
            some 1)
        else
          whileO (go_code_CheckAll_s4 a0_1162 v17_1447) 0
      else none
    else
      inrO (
        some 0)

noncomputable def go_code_CheckAll (a0_1162 : List (List api_Instr)) : Option Int :=
  if ((decide ((a0_1162.length : Int) < 1)) || (decide ((a0_1162.length : Int) > 16))) = true then
    some 1
  else
    whileO (go_code_CheckAll_s3 a0_1162) 0

theorem go_code_CheckAll_sc (a0_1162 : List (List api_Instr)) (r : Int) (h : go_code_CheckAll a0_1162 = some r) : SC Try.prog gl 33 [V.sl 1 (rws (fun l => [V.sl 3 (rws api_Instr.cells l)]) a0_1162)] (V.int .i64 r) := by
  rw [go_code_CheckAll] at h
  refine SC.of E_good Try.func33 rfl (fun _ _ => Try.call33 _ _) rfl ?_
  repeat (first | refine Safe.seq ?_ | refine Safe.skip ?_ | with_reducible refine thenQ.n ?_ | with_reducible refine blockQ.n ?_)
  refine Safe.region ?_
  refine SafeOps.quiet1 E_good rfl rfl rfl (.box rfl rfl) rfl ?_
  refine SafeOps.quiet0 E_good rfl rfl rfl (v := V.int .i64 0) (.fn rfl) ?_
  refine SafeOps.nil ?_
  repeat (first | refine Safe.seq ?_ | refine Safe.skip ?_ | with_reducible refine thenQ.n ?_ | with_reducible refine blockQ.n ?_)
  refine Safe.region ?_
  refine SafeOps.quiet0 E_good rfl rfl rfl (v := V.sl 1 (rws (fun l => [V.sl 3 (rws api_Instr.cells l)]) a0_1162)) (.load rfl rfl (.box rfl rfl) rfl) ?_
  refine SafeOps.quiet0 E_good rfl rfl rfl (v := V.int .i64 (a0_1162.length : Int)) (.fnE rfl lenE) ?_
  refine SafeOps.quiet0 E_good rfl rfl rfl (v := V.bool (decide ((a0_1162.length : Int) < 1))) (.fn rfl) ?_
  refine SafeOps.quiet0 E_good rfl rfl rfl (v := V.bool (decide ((a0_1162.length : Int) < 1))) (.fn rfl) ?_
  refine SafeOps.bjoin 4 13 (b := ((decide ((a0_1162.length : Int) < 1)) || (decide ((a0_1162.length : Int) > 16)))) (b1 := true) (b0 := decide ((a0_1162.length : Int) > 16)) (fun hc1372 K => ?_) (fun hc1372 K => ?_) bj_or ?_
  · skip
    refine SafeOps.skip (congrArg (fun b => some (!b)) hc1372) rfl rfl ?_
    refine SafeOps.skip (congrArg (fun b => some (!b)) hc1372) rfl rfl ?_
    refine SafeOps.skip (congrArg (fun b => some (!b)) hc1372) rfl rfl ?_
    refine SafeOps.quiet0 E_good rfl rfl rfl (v := V.bool true) (.pickK rfl hc1372 rfl) ?_
    exact SafeOps.drop' 4 rfl rfl rfl K
  · skip
    refine SafeOps.quiet0 E_good (congrArg (fun b => some (!b)) hc1372) rfl rfl (v := V.sl 1 (rws (fun l => [V.sl 3 (rws api_Instr.cells l)]) a0_1162)) (.load rfl rfl (.box rfl rfl) rfl) ?_
    refine SafeOps.quiet0 E_good (congrArg (fun b => some (!b)) hc1372) rfl rfl (v := V.int .i64 (a0_1162.length : Int)) (.fnE rfl lenE) ?_
    refine SafeOps.quiet0 E_good (congrArg (fun b => some (!b)) hc1372) rfl rfl (v := V.bool (decide ((a0_1162.length : Int) > 16))) (.fn rfl) ?_
    refine SafeOps.quiet0 E_good rfl rfl rfl (v := V.bool (decide ((a0_1162.length : Int) > 16))) (.pickK rfl hc1372 rfl) ?_
    exact SafeOps.drop' 4 rfl rfl rfl K
  refine SafeOps.nil ?_
  repeat (first | refine Safe.seq ?_ | refine Safe.skip ?_ | with_reducible refine thenQ.n ?_ | with_reducible refine blockQ.n ?_)
  refine ifG h (fun hc1373 h => ?_) (fun hc1373 h => ?_)
  · skip
    refine Safe.condK rfl hc1373 ?_
    repeat (first | refine Safe.seq ?_ | refine Safe.skip ?_ | with_reducible refine thenQ.n ?_ | with_reducible refine blockQ.n ?_)
    refine Safe.region ?_
    refine SafeOps.quiet0 E_good rfl rfl rfl (v := V.int .i64 1) (.fn rfl) ?_
    refine SafeOps.nil ?_
    repeat (first | refine Safe.seq ?_ | refine Safe.skip ?_ | with_reducible refine thenQ.n ?_ | with_reducible refine blockQ.n ?_)
    refine Safe.ret ?_
    repeat (first | with_reducible refine thenQ.r ?_ | with_reducible refine blockQ.r ?_)
    obtain rfl := Option.some.inj h
    exact retQ.gen (vs := [V.int .i64 1]) rfl (.tmp (v := V.int .i64 1) rfl .nil) (.free rfl) (by simp) (.inr rfl)
  · skip
    refine Safe.condN rfl hc1373 ?_
    repeat (first | refine Safe.seq ?_ | refine Safe.skip ?_ | with_reducible refine thenQ.n ?_ | with_reducible refine blockQ.n ?_)
    refine Safe.region ?_
    refine SafeOps.quiet0 E_good rfl rfl rfl (v := V.fn 51 [V.ptr [1] 0 0]) (.fn rfl) ?_
    refine SafeOps.quiet0 E_good rfl rfl rfl (v := V.fn 51 [V.ptr [1] 0 0]) (.fn rfl) ?_
    refine SafeOps.nil ?_
    repeat (first | refine Safe.seq ?_ | refine Safe.skip ?_ | with_reducible refine thenQ.n ?_ | with_reducible refine blockQ.n ?_)
    refine Safe.region ?_
    refine SafeOps.quiet0 E_good rfl rfl rfl (v := V.sl 1 (rws (fun l => [V.sl 3 (rws api_Instr.cells l)]) a0_1162)) (.load rfl rfl (.box rfl rfl) rfl) ?_
    refine SafeOps.quiet0 E_good rfl rfl rfl (v := V.int .i64 (a0_1162.length : Int)) (.fnE rfl lenE) ?_
    refine SafeOps.quiet0 E_good rfl rfl rfl (v := V.int .i64 0) (.fn rfl) ?_
    refine SafeOps.nil ?_
    repeat (first | refine Safe.seq ?_ | refine Safe.skip ?_ | with_reducible refine thenQ.n ?_ | with_reducible refine blockQ.n ?_)
    refine Safe.block ?_
    repeat (first | refine Safe.seq ?_ | refine Safe.skip ?_ | with_reducible refine thenQ.n ?_ | with_reducible refine blockQ.n ?_)
    refine Safe.loopW (fun (v17_1447 : Int) => ⟨Try.f33.ntmps, [(3, V.fn 51 [V.ptr [1] 0 0]), (15, V.sl 1 (rws (fun l => [V.sl 3 (rws api_Instr.cells l)]) a0_1162)), (16, V.int .i64 (a0_1162.length : Int)), (17, V.int .i64 v17_1447)], [([1], Obj.box [V.sl 1 (rws (fun l => [V.sl 3 (rws api_Instr.cells l)]) a0_1162)])], [], []⟩) h (.cov ⟨rfl, rfl, (upT_cons (.refl _) (upT_cons (.refl _) (upT_cons (.refl _) (upT_cons (.refl _) upT_nil)))), (upOb_cons rfl (.refl _) upOb_nil), upOut_nil, rfl⟩) ?_
    intro v17_1447 ohr1448 h hr1448
    replace h : go_code_CheckAll_s3 a0_1162 v17_1447 = some ohr1448 := h
    rw [go_code_CheckAll_s3] at h
    repeat (first | refine Safe.seq ?_ | refine Safe.skip ?_ | with_reducible refine thenQ.n ?_ | with_reducible refine blockQ.n ?_)
    refine Safe.region ?_
    refine SafeOps.quiet0 E_good rfl rfl rfl (v := V.bool (decide (v17_1447 < (a0_1162.length : Int)))) (.fn rfl) ?_
    refine SafeOps.nil ?_
    repeat (first | refine Safe.seq ?_ | refine Safe.skip ?_ | with_reducible refine thenQ.n ?_ | with_reducible refine blockQ.n ?_)
    refine ifG h (fun hc1449 h => ?_) (fun hc1449 h => ?_)
    · skip
      refine Safe.condK rfl hc1449 ?_
      repeat (first | refine Safe.seq ?_ | refine Safe.skip ?_ | with_reducible refine thenQ.n ?_ | with_reducible refine blockQ.n ?_)
      refine Safe.block ?_
      repeat (first | refine Safe.seq ?_ | refine Safe.skip ?_ | with_reducible refine thenQ.n ?_ | with_reducible refine blockQ.n ?_)
      refine Safe.region ?_
      refine okG h (fun hb1450 h => ?_)
      refine SafeOps.quiet0 E_good rfl rfl rfl (v := V.spt 1 (rws (fun l => [V.sl 3 (rws api_Instr.cells l)]) a0_1162) (Int.toNat v17_1447) 0) (.idxSlM (f := (fun l => [V.sl 3 (rws api_Instr.cells l)])) rfl rfl rfl rfl rfl hb1450) ?_
      refine SafeOps.quiet0 E_good rfl rfl rfl (v := V.sl 3 (rws api_Instr.cells (gt a0_1162 v17_1447))) (.load rfl rfl (.sptM (f := (fun l => [V.sl 3 (rws api_Instr.cells l)])) hb1450 rfl) rfl) ?_
      refine SafeOps.quiet0 E_good rfl rfl rfl (v := V.sl 3 (rws api_Instr.cells (gt a0_1162 v17_1447))) (.fn rfl) ?_
      refine SafeOps.nil ?_
      repeat (first | refine Safe.seq ?_ | refine Safe.skip ?_ | with_reducible refine thenQ.n ?_ | with_reducible refine blockQ.n ?_)
      refine Safe.region ?_
      refine SafeOps.quiet0 E_good rfl rfl rfl (v := V.sl 3 (rws api_Instr.cells (gt a0_1162 v17_1447))) (.fn rfl) ?_
      refine bindG h ?_
      intro x_1451 he1452 h
      refine SafeOps.quiet0 E_good rfl rfl rfl (v := V.int .i64 x_1451) (.callP rfl rfl (go_code_Check_sc (gt a0_1162 v17_1447) _ he1452) rfl) ?_
      refine SafeOps.quiet0 E_good rfl rfl rfl (v := V.bool (x_1451 != 0)) (.fn rfl) ?_
      refine SafeOps.quiet0 E_good rfl rfl rfl (v := V.bool (x_1451 != 0)) (.fn rfl) ?_
      refine ifG h (fun hc1453 h => ?_) (fun hc1453 h => ?_)
      · skip
        refine SafeOps.skip (congrArg (fun b => some (!b)) hc1453) rfl rfl ?_
        refine SafeOps.skip (congrArg (fun b => some (!b)) hc1453) rfl rfl ?_
        refine SafeOps.skip (congrArg (fun b => some (!b)) hc1453) rfl rfl ?_
        refine SafeOps.quiet0 E_good rfl rfl rfl (v := V.bool true) (.pickK rfl hc1453 rfl) ?_
        refine SafeOps.nil ?_
        repeat (first | refine Safe.seq ?_ | refine Safe.skip ?_ | with_reducible refine thenQ.n ?_ | with_reducible refine blockQ.n ?_)
        refine Safe.condK rfl rfl ?_
        repeat (first | refine Safe.seq ?_ | refine Safe.skip ?_ | with_reducible refine thenQ.n ?_ | with_reducible refine blockQ.n ?_)
        refine Safe.region ?_
        refine SafeOps.quiet0 E_good rfl rfl rfl (v := V.int .i64 1) (.fn rfl) ?_
        refine SafeOps.nil ?_
        repeat (first | refine Safe.seq ?_ | refine Safe.skip ?_ | with_reducible refine thenQ.n ?_ | with_reducible refine blockQ.n ?_)
        refine Safe.ret ?_
        repeat (first | with_reducible refine thenQ.r ?_ | with_reducible refine blockQ.r ?_)
        replace h := inr_out h hr1448
        obtain rfl := Option.some.inj h
        exact retQ.gen (vs := [V.int .i64 1]) rfl (.tmp (v := V.int .i64 1) rfl .nil) (.free rfl) (by simp) (.inr rfl)
      · skip
        refine SafeOps.quiet0 E_good (congrArg (fun b => some (!b)) hc1453) rfl rfl (v := V.sl 3 (rws api_Instr.cells (gt a0_1162 v17_1447))) (.fn rfl) ?_
        refine SafeOps.quiet0 E_good (congrArg (fun b => some (!b)) hc1453) rfl rfl (v := V.fn 51 [V.ptr [1] 0 0]) (.fn rfl) ?_
        refine SafeOps.inline E_good (congrArg (fun b => some (!b)) hc1453) rfl rfl rfl rfl Try.func41 rfl (fun _ _ => Try.call41 _ _) rfl ?_
        repeat (first | refine Safe.seq ?_ | refine Safe.skip ?_ | with_reducible refine thenQ.n ?_ | with_reducible refine blockQ.n ?_)
        refine Safe.region ?_
        refine SafeOps.quiet0 E_good rfl rfl rfl (v := V.bool false) (.fn rfl) ?_
        refine SafeOps.nil ?_
        repeat (first | refine Safe.seq ?_ | refine Safe.skip ?_ | with_reducible refine thenQ.n ?_ | with_reducible refine blockQ.n ?_)
        refine Safe.region ?_
        refine SafeOps.quiet0 E_good rfl rfl rfl (v := V.sl 3 (rws api_Instr.cells (gt a0_1162 v17_1447))) (.fn rfl) ?_
        refine SafeOps.quiet0 E_good rfl rfl rfl (v := V.fn 51 [V.ptr [1] 0 0]) (.fn rfl) ?_
        refine SafeOps.inline E_good rfl rfl rfl rfl rfl Try.func56 rfl (fun _ _ => Try.call56 _ _) rfl ?_
        repeat (first | refine Safe.seq ?_ | refine Safe.skip ?_ | with_reducible refine thenQ.n ?_ | with_reducible refine blockQ.n ?_)
        refine Safe.region ?_
        refine SafeOps.quiet0 E_good rfl rfl rfl (v := V.int .i64 0) (.fn rfl) ?_
        refine SafeOps.nil ?_
        repeat (first | refine Safe.seq ?_ | refine Safe.skip ?_ | with_reducible refine thenQ.n ?_ | with_reducible refine blockQ.n ?_)
        refine Safe.region ?_
        refine SafeOps.quiet0 E_good rfl rfl rfl (v := V.sl 3 (rws api_Instr.cells (gt a0_1162 v17_1447))) (.fn rfl) ?_
        refine SafeOps.quiet0 E_good rfl rfl rfl (v := V.int .i64 ((gt a0_1162 v17_1447).length : Int)) (.fnE rfl lenE) ?_
        refine SafeOps.quiet0 E_good rfl rfl rfl (v := V.int .i64 0) (.fn rfl) ?_
        refine SafeOps.nil ?_
        repeat (first | refine Safe.seq ?_ | refine Safe.skip ?_ | with_reducible refine thenQ.n ?_ | with_reducible refine blockQ.n ?_)
        refine Safe.block ?_
        repeat (first | refine Safe.seq ?_ | refine Safe.skip ?_ | with_reducible refine thenQ.n ?_ | with_reducible refine blockQ.n ?_)
        refine Safe.loopW (fun (v8_1478 : Int) => ⟨Try.f56.ntmps, [(0, V.sl 3 (rws api_Instr.cells (gt a0_1162 v17_1447))), (1, V.fn 51 [V.ptr [1] 0 0]), (7, V.int .i64 ((gt a0_1162 v17_1447).length : Int)), (8, V.int .i64 v8_1478)], [([1], Obj.box [V.sl 1 (rws (fun l => [V.sl 3 (rws api_Instr.cells l)]) a0_1162)])], [(Try.f41.ntmps, []), (Try.f33.ntmps, [(3, V.fn 51 [V.ptr [1] 0 0]), (15, V.sl 1 (rws (fun l => [V.sl 3 (rws api_Instr.cells l)]) a0_1162)), (16, V.int .i64 (a0_1162.length : Int)), (17, V.int .i64 v17_1447), (24, V.bool (x_1451 != 0)), (25, V.sl 3 (rws api_Instr.cells (gt a0_1162 v17_1447))), (26, V.fn 51 [V.ptr [1] 0 0])])], [27, 7]⟩) h (.cov ⟨rfl, rfl, (upT_cons (.refl _) (upT_cons (.refl _) (upT_cons (.refl _) (upT_cons (.refl _) upT_nil)))), (upOb_cons rfl (.refl _) upOb_nil), (upOut_cons rfl upT_nil (upOut_cons rfl (upT_cons (.refl _) (upT_cons (.refl _) (upT_cons (.refl _) (upT_cons (.refl _) (upT_cons (.refl _) (upT_cons (.refl _) (upT_cons (.refl _) upT_nil))))))) upOut_nil)), rfl⟩) ?_
        intro v8_1478 ohr1479 h hr1479
        replace h : go_code_CheckAll_s4 a0_1162 v17_1447 v8_1478 = some ohr1479 := h
        rw [go_code_CheckAll_s4] at h
        repeat (first | refine Safe.seq ?_ | refine Safe.skip ?_ | with_reducible refine thenQ.n ?_ | with_reducible refine blockQ.n ?_)
        refine Safe.region ?_
        refine SafeOps.quiet0 E_good rfl rfl rfl (v := V.bool (decide (v8_1478 < ((gt a0_1162 v17_1447).length : Int)))) (.fn rfl) ?_
        refine SafeOps.nil ?_
        repeat (first | refine Safe.seq ?_ | refine Safe.skip ?_ | with_reducible refine thenQ.n ?_ | with_reducible refine blockQ.n ?_)
        refine ifG h (fun hc1480 h => ?_) (fun hc1480 h => ?_)
        · skip
          refine Safe.condK rfl hc1480 ?_
          repeat (first | refine Safe.seq ?_ | refine Safe.skip ?_ | with_reducible refine thenQ.n ?_ | with_reducible refine blockQ.n ?_)
          refine Safe.block ?_
          repeat (first | refine Safe.seq ?_ | refine Safe.skip ?_ | with_reducible refine thenQ.n ?_ | with_reducible refine blockQ.n ?_)
          refine Safe.region ?_
          refine SafeOps.quiet0 E_good rfl rfl rfl (v := V.int .i64 v8_1478) (.fn rfl) ?_
          refine SafeOps.quiet0 E_good rfl rfl rfl (v := V.int .i64 v8_1478) (.fn rfl) ?_
          refine SafeOps.nil ?_
          repeat (first | refine Safe.seq ?_ | refine Safe.skip ?_ | with_reducible refine thenQ.n ?_ | with_reducible refine blockQ.n ?_)
          refine Safe.region ?_
          refine SafeOps.quiet0 E_good rfl rfl rfl (v := V.fn 51 [V.ptr [1] 0 0]) (.fn rfl) ?_
          refine SafeOps.quiet0 E_good rfl rfl rfl (v := V.sl 3 (rws api_Instr.cells (gt a0_1162 v17_1447))) (.fn rfl) ?_
          refine SafeOps.quiet0 E_good rfl rfl rfl (v := V.int .i64 v8_1478) (.fn rfl) ?_
          refine okG h (fun hb1481 h => ?_)
          refine SafeOps.quiet0 E_good rfl rfl rfl (v := V.spt 3 (rws api_Instr.cells (gt a0_1162 v17_1447)) (Int.toNat v8_1478) 0) (.idxSlM (f := api_Instr.cells) rfl rfl rfl rfl rfl hb1481) ?_
          refine SafeOps.quiet0 E_good rfl rfl rfl (v := V.agg [V.int .i64 ((gt (gt a0_1162 v17_1447) v8_1478).Op), V.int .i64 ((gt (gt a0_1162 v17_1447) v8_1478).A), V.int .i64 ((gt (gt a0_1162 v17_1447) v8_1478).B)]) (.load rfl rfl (.sptM (f := api_Instr.cells) hb1481 rfl) rfl) ?_
          refine SafeOps.inline E_good rfl rfl rfl rfl rfl Try.func51 rfl (fun _ _ => Try.call51 _ _) rfl ?_
          repeat (first | refine Safe.seq ?_ | refine Safe.skip ?_ | with_reducible refine thenQ.n ?_ | with_reducible refine blockQ.n ?_)
          refine Safe.region ?_
          refine SafeOps.quiet1 E_good rfl rfl rfl (.box rfl rfl) rfl ?_
          refine SafeOps.quiet0 E_good rfl rfl rfl (v := V.bool false) (.fn rfl) ?_
          refine SafeOps.nil ?_
          repeat (first | refine Safe.seq ?_ | refine Safe.skip ?_ | with_reducible refine thenQ.n ?_ | with_reducible refine blockQ.n ?_)
          refine Safe.region ?_
          refine SafeOps.quiet0 E_good rfl rfl rfl (v := V.ptr [27, 7, 16, 2] 0 0) (.fn rfl) ?_
          refine SafeOps.quiet0 E_good rfl rfl rfl (v := V.int .i64 ((gt (gt a0_1162 v17_1447) v8_1478).Op)) (.load rfl rfl (.box rfl rfl) rfl) ?_
          refine SafeOps.quiet0 E_good rfl rfl rfl (v := V.bool (((gt (gt a0_1162 v17_1447) v8_1478).Op) == 2)) (.fn rfl) ?_
          refine SafeOps.quiet0 E_good rfl rfl rfl (v := V.bool (((gt (gt a0_1162 v17_1447) v8_1478).Op) == 2)) (.fn rfl) ?_
          refine SafeOps.bjoin 6 13 (b := ((((gt (gt a0_1162 v17_1447) v8_1478).Op) == 2) && (decide (((gt (gt a0_1162 v17_1447) v8_1478).A) ≥ (a0_1162.length : Int))))) (b1 := decide (((gt (gt a0_1162 v17_1447) v8_1478).A) ≥ (a0_1162.length : Int))) (b0 := false) (fun hc1482 K => ?_) (fun hc1482 K => ?_) bj_and ?_
          · skip
            refine SafeOps.quiet0 E_good (congrArg some hc1482) rfl rfl (v := V.ptr [27, 7, 16, 2] 0 1) (.fn rfl) ?_
            refine SafeOps.quiet0 E_good (congrArg some hc1482) rfl rfl (v := V.int .i64 ((gt (gt a0_1162 v17_1447) v8_1478).A)) (.load rfl rfl (.box rfl rfl) rfl) ?_
            refine SafeOps.quiet0 E_good (congrArg some hc1482) rfl rfl (v := V.sl 1 (rws (fun l => [V.sl 3 (rws api_Instr.cells l)]) a0_1162)) (.load rfl rfl (.box rfl rfl) rfl) ?_
            refine SafeOps.quiet0 E_good (congrArg some hc1482) rfl rfl (v := V.int .i64 (a0_1162.length : Int)) (.fnE rfl lenE) ?_
            refine SafeOps.quiet0 E_good (congrArg some hc1482) rfl rfl (v := V.bool (decide (((gt (gt a0_1162 v17_1447) v8_1478).A) ≥ (a0_1162.length : Int)))) (.fn rfl) ?_
            refine SafeOps.quiet0 E_good rfl rfl rfl (v := V.bool (decide (((gt (gt a0_1162 v17_1447) v8_1478).A) ≥ (a0_1162.length : Int)))) (.pickK rfl hc1482 rfl) ?_
            exact SafeOps.drop' 6 rfl rfl rfl K
          · skip
            refine SafeOps.skip (congrArg some hc1482) rfl rfl ?_
            refine SafeOps.skip (congrArg some hc1482) rfl rfl ?_
            refine SafeOps.skip (congrArg some hc1482) rfl rfl ?_
            refine SafeOps.skip (congrArg some hc1482) rfl rfl ?_
            refine SafeOps.skip (congrArg some hc1482) rfl rfl ?_
            refine SafeOps.quiet0 E_good rfl rfl rfl (v := V.bool false) (.pickK rfl hc1482 rfl) ?_
            exact SafeOps.drop' 6 rfl rfl rfl K
          refine SafeOps.quiet0 E_good rfl rfl rfl (v := V.bool ((((gt (gt a0_1162 v17_1447) v8_1478).Op) == 2) && (decide (((gt (gt a0_1162 v17_1447) v8_1478).A) ≥ (a0_1162.length : Int))))) (.fn rfl) ?_
          refine SafeOps.nil ?_
          repeat (first | refine Safe.seq ?_ | refine Safe.skip ?_ | with_reducible refine thenQ.n ?_ | with_reducible refine blockQ.n ?_)
          refine Safe.ret ?_
          repeat (first | with_reducible refine thenQ.r ?_ | with_reducible refine blockQ.r ?_)
          refine inQ.gen (vs := [V.bool ((((gt (gt a0_1162 v17_1447) v8_1478).Op) == 2) && (decide (((gt (gt a0_1162 v17_1447) v8_1478).A) ≥ (a0_1162.length : Int))))]) (v := V.bool ((((gt (gt a0_1162 v17_1447) v8_1478).Op) == 2) && (decide (((gt (gt a0_1162 v17_1447) v8_1478).A) ≥ (a0_1162.length : Int))))) (.inr rfl) rfl (.tmp (v := V.bool ((((gt (gt a0_1162 v17_1447) v8_1478).Op) == 2) && (decide (((gt (gt a0_1162 v17_1447) v8_1478).A) ≥ (a0_1162.length : Int))))) rfl .nil) rfl ?_
          refine SafeOps.nil ?_
          repeat (first | refine Safe.seq ?_ | refine Safe.skip ?_ | with_reducible refine thenQ.n ?_ | with_reducible refine blockQ.n ?_)
          refine ifG h (fun hc1483 h => ?_) (fun hc1483 h => ?_)
          · skip
            refine Safe.condK rfl hc1483 ?_
            repeat (first | refine Safe.seq ?_ | refine Safe.skip ?_ | with_reducible refine thenQ.n ?_ | with_reducible refine blockQ.n ?_)
            refine Safe.region ?_
            refine SafeOps.quiet0 E_good rfl rfl rfl (v := V.int .i64 v8_1478) (.fn rfl) ?_
            refine SafeOps.quiet0 E_good rfl rfl rfl (v := V.int .i64 v8_1478) (.fn rfl) ?_
            refine SafeOps.nil ?_
            repeat (first | refine Safe.seq ?_ | refine Safe.skip ?_ | with_reducible refine thenQ.n ?_ | with_reducible refine blockQ.n ?_)
            refine Safe.ret ?_
            repeat (first | with_reducible refine thenQ.r ?_ | with_reducible refine blockQ.r ?_)
            refine inQ.gen (vs := [V.int .i64 v8_1478]) (v := V.int .i64 v8_1478) (.inr rfl) rfl (.tmp (v := V.int .i64 v8_1478) rfl .nil) rfl ?_
            replace h := inr_out h hr1479
            refine SafeOps.quiet0 E_good rfl rfl rfl (v := V.bool (decide (v8_1478 ≥ 0))) (.fn rfl) ?_
            refine SafeOps.quiet0 E_good rfl rfl rfl (v := V.bool (decide (v8_1478 ≥ 0))) (.fn rfl) ?_
            refine SafeOps.nil ?_
            repeat (first | refine Safe.seq ?_ | refine Safe.skip ?_ | with_reducible refine thenQ.n ?_ | with_reducible refine blockQ.n ?_)
            refine Safe.ret ?_
            repeat (first | with_reducible refine thenQ.r ?_ | with_reducible refine blockQ.r ?_)
            refine inQ.gen (vs := [V.bool (decide (v8_1478 ≥ 0))]) (v := V.bool (decide (v8_1478 ≥ 0))) (.inr rfl) rfl (.tmp (v := V.bool (decide (v8_1478 ≥ 0))) rfl .nil) rfl ?_
            refine SafeOps.quiet0 E_good rfl rfl rfl (v := V.bool (decide (v8_1478 ≥ 0))) (.pickK rfl hc1453 rfl) ?_
            refine SafeOps.nil ?_
            repeat (first | refine Safe.seq ?_ | refine Safe.skip ?_ | with_reducible refine thenQ.n ?_ | with_reducible refine blockQ.n ?_)
            refine ifG h (fun hc1484 h => ?_) (fun hc1484 h => ?_)
            · skip
              refine Safe.condK rfl hc1484 ?_
              repeat (first | refine Safe.seq ?_ | refine Safe.skip ?_ | with_reducible refine thenQ.n ?_ | with_reducible refine blockQ.n ?_)
              refine Safe.region ?_
              refine SafeOps.quiet0 E_good rfl rfl rfl (v := V.int .i64 1) (.fn rfl) ?_
              refine SafeOps.nil ?_
              repeat (first | refine Safe.seq ?_ | refine Safe.skip ?_ | with_reducible refine thenQ.n ?_ | with_reducible refine blockQ.n ?_)
              refine Safe.ret ?_
              repeat (first | with_reducible refine thenQ.r ?_ | with_reducible refine blockQ.r ?_)
              replace h := inr_out h hr1448
              obtain rfl := Option.some.inj h
              exact retQ.gen (vs := [V.int .i64 1]) rfl (.tmp (v := V.int .i64 1) rfl .nil) (.free rfl) (by simp) (.inr rfl)
            · skip
              refine Safe.condN rfl hc1484 ?_
              repeat (first | refine Safe.seq ?_ | refine Safe.skip ?_ | with_reducible refine thenQ.n ?_ | with_reducible refine blockQ.n ?_)
              refine Safe.region ?_
              refine SafeOps.quiet0 E_good rfl rfl rfl (v := V.int .i64 (IntKind.i64.wrap (v17_1447 + 1))) (.fn rfl) ?_
              refine SafeOps.quiet0 E_good rfl rfl rfl (v := V.int .i64 (IntKind.i64.wrap (v17_1447 + 1))) (.fn rfl) ?_
              refine SafeOps.nil ?_
              repeat (first | refine Safe.seq ?_ | refine Safe.skip ?_ | with_reducible refine thenQ.n ?_ | with_reducible refine blockQ.n ?_)
              exact ⟨_, next_out h, (.cov ⟨rfl, rfl, (upT_cons (.refl _) (upT_cons (.refl _) (upT_cons (.refl _) (upT_cons (.refl _) upT_nil)))), (upOb_cons rfl (.refl _) upOb_nil), upOut_nil, rfl⟩)⟩
          · skip
            refine Safe.condN rfl hc1483 ?_
            repeat (first | refine Safe.seq ?_ | refine Safe.skip ?_ | with_reducible refine thenQ.n ?_ | with_reducible refine blockQ.n ?_)
            refine Safe.region ?_
            refine SafeOps.quiet0 E_good rfl rfl rfl (v := V.int .i64 (IntKind.i64.wrap (v8_1478 + 1))) (.fn rfl) ?_
            refine SafeOps.quiet0 E_good rfl rfl rfl (v := V.int .i64 (IntKind.i64.wrap (v8_1478 + 1))) (.fn rfl) ?_
            refine SafeOps.nil ?_
            repeat (first | refine Safe.seq ?_ | refine Safe.skip ?_ | with_reducible refine thenQ.n ?_ | with_reducible refine blockQ.n ?_)
            exact ⟨_, next_out h, (.cov ⟨rfl, rfl, (upT_cons (.refl _) (upT_cons (.refl _) (upT_cons (.refl _) (upT_cons (.refl _) upT_nil)))), (upOb_cons rfl (.refl _) upOb_nil), (upOut_cons rfl upT_nil (upOut_cons rfl (upT_cons (.refl _) (upT_cons (.refl _) (upT_cons (.refl _) (upT_cons (.refl _) (upT_cons (.refl _) (upT_cons (.refl _) (upT_cons (.refl _) upT_nil))))))) upOut_nil)), rfl⟩)⟩
        · skip
          refine Safe.condN rfl hc1480 ?_
          repeat (first | refine Safe.seq ?_ | refine Safe.skip ?_ | with_reducible refine thenQ.n ?_ | with_reducible refine blockQ.n ?_)
          refine Safe.exit ?_
          repeat (first | with_reducible refine thenQ.e ?_ | with_reducible refine blockQ.x rfl ?_ | with_reducible refine blockQ.y rfl ?_)
          replace h := inr_out h hr1479
          repeat (first | refine Safe.seq ?_ | refine Safe.skip ?_ | with_reducible refine thenQ.n ?_ | with_reducible refine blockQ.n ?_)
          refine Safe.region ?_
          refine SafeOps.quiet0 E_good rfl rfl rfl (v := V.int .i64 (-1)) (.fn rfl) ?_
          refine SafeOps.nil ?_
          repeat (first | refine Safe.seq ?_ | refine Safe.skip ?_ | with_reducible refine thenQ.n ?_ | with_reducible refine blockQ.n ?_)
          refine Safe.ret ?_
          repeat (first | with_reducible refine thenQ.r ?_ | with_reducible refine blockQ.r ?_)
          refine inQ.gen (vs := [V.int .i64 (-1)]) (v := V.int .i64 (-1)) (.inr rfl) rfl (.tmp (v := V.int .i64 (-1)) rfl .nil) rfl ?_
          refine SafeOps.quiet0 E_good rfl rfl rfl (v := V.bool false) (.fn rfl) ?_
          refine SafeOps.quiet0 E_good rfl rfl rfl (v := V.bool false) (.fn rfl) ?_
          refine SafeOps.nil ?_
          repeat (first | refine Safe.seq ?_ | refine Safe.skip ?_ | with_reducible refine thenQ.n ?_ | with_reducible refine blockQ.n ?_)
          refine Safe.ret ?_
          repeat (first | with_reducible refine thenQ.r ?_ | with_reducible refine blockQ.r ?_)
          refine inQ.gen (vs := [V.bool false]) (v := V.bool false) (.inr rfl) rfl (.tmp (v := V.bool false) rfl .nil) rfl ?_
          refine SafeOps.quiet0 E_good rfl rfl rfl (v := V.bool false) (.pickK rfl hc1453 rfl) ?_
          refine SafeOps.nil ?_
          repeat (first | refine Safe.seq ?_ | refine Safe.skip ?_ | with_reducible refine thenQ.n ?_ | with_reducible refine blockQ.n ?_)
          refine Safe.condN rfl rfl ?_
          repeat (first | refine Safe.seq ?_ | refine Safe.skip ?_ | with_reducible refine thenQ.n ?_ | with_reducible refine blockQ.n ?_)
          refine Safe.region ?_
          refine SafeOps.quiet0 E_good rfl rfl rfl (v := V.int .i64 (IntKind.i64.wrap (v17_1447 + 1))) (.fn rfl) ?_
          refine SafeOps.quiet0 E_good rfl rfl rfl (v := V.int .i64 (IntKind.i64.wrap (v17_1447 + 1))) (.fn rfl) ?_
          refine SafeOps.nil ?_
          repeat (first | refine Safe.seq ?_ | refine Safe.skip ?_ | with_reducible refine thenQ.n ?_ | with_reducible refine blockQ.n ?_)
          exact ⟨_, next_out h, (.cov ⟨rfl, rfl, (upT_cons (.refl _) (upT_cons (.refl _) (upT_cons (.refl _) (upT_cons (.refl _) upT_nil)))), (upOb_cons rfl (.refl _) upOb_nil), upOut_nil, rfl⟩)⟩
    · skip
      refine Safe.condN rfl hc1449 ?_
      repeat (first | refine Safe.seq ?_ | refine Safe.skip ?_ | with_reducible refine thenQ.n ?_ | with_reducible refine blockQ.n ?_)
      refine Safe.exit ?_
      repeat (first | with_reducible refine thenQ.e ?_ | with_reducible refine blockQ.x rfl ?_ | with_reducible refine blockQ.y rfl ?_)
      replace h := inr_out h hr1448
      repeat (first | refine Safe.seq ?_ | refine Safe.skip ?_ | with_reducible refine thenQ.n ?_ | with_reducible refine blockQ.n ?_)
      refine Safe.region ?_
      refine SafeOps.quiet0 E_good rfl rfl rfl (v := V.int .i64 0) (.fn rfl) ?_
      refine SafeOps.nil ?_
      repeat (first | refine Safe.seq ?_ | refine Safe.skip ?_ | with_reducible refine thenQ.n ?_ | with_reducible refine blockQ.n ?_)
      refine Safe.ret ?_
      repeat (first | with_reducible refine thenQ.r ?_ | with_reducible refine blockQ.r ?_)
      obtain rfl := Option.some.inj h
      exact retQ.gen (vs := [V.int .i64 0]) rfl (.tmp (v := V.int .i64 0) rfl .nil) (.free rfl) (by simp) (.inr rfl)

@[ext] structure api_Tenant where
  Weight : Int
  Quota : Int
  Live : Int
  Tag : Int
  Ran : Int
  deriving Inhabited
def api_Tenant.cells (x : api_Tenant) : List V := [V.int .i64 x.Weight, V.int .i64 x.Quota, V.int .i64 x.Live, V.int .i64 x.Tag, V.int .i64 x.Ran]
def api_Tenant.zero : api_Tenant := ⟨0, 0, 0, 0, 0⟩
def api_Tenant.beq (x y : api_Tenant) : Bool := ((x.Weight == y.Weight) && ((x.Quota == y.Quota) && ((x.Live == y.Live) && ((x.Tag == y.Tag) && ((x.Ran == y.Ran) && true)))))

def go_lodge_within_int (a0_1797 : Int) (a1_1798 : Int) (a2_1799 : Int) : Bool :=
  ((decide (a0_1797 ≥ a1_1798)) && (decide (a0_1797 ≤ a2_1799)))

theorem go_lodge_within_int_sc (a0_1797 : Int) (a1_1798 : Int) (a2_1799 : Int) (r : Bool) (h : go_lodge_within_int a0_1797 a1_1798 a2_1799 = r) : SC Try.prog gl 69 [V.int .i64 a0_1797, V.int .i64 a1_1798, V.int .i64 a2_1799] (V.bool r) := by
  rw [go_lodge_within_int] at h
  refine SC.of E_good Try.func69 rfl (fun _ _ => Try.call69 _ _) rfl ?_
  repeat (first | refine Safe.seq ?_ | refine Safe.skip ?_ | with_reducible refine thenQ.n ?_ | with_reducible refine blockQ.n ?_)
  refine Safe.region ?_
  refine SafeOps.quiet0 E_good rfl rfl rfl (v := V.bool false) (.fn rfl) ?_
  refine SafeOps.nil ?_
  repeat (first | refine Safe.seq ?_ | refine Safe.skip ?_ | with_reducible refine thenQ.n ?_ | with_reducible refine blockQ.n ?_)
  refine Safe.region ?_
  refine SafeOps.quiet0 E_good rfl rfl rfl (v := V.int .i64 a0_1797) (.fn rfl) ?_
  refine SafeOps.quiet0 E_good rfl rfl rfl (v := V.int .i64 a1_1798) (.fn rfl) ?_
  refine SafeOps.quiet0 E_good rfl rfl rfl (v := V.bool (decide (a0_1797 ≥ a1_1798))) (.fn rfl) ?_
  refine SafeOps.quiet0 E_good rfl rfl rfl (v := V.bool (decide (a0_1797 ≥ a1_1798))) (.fn rfl) ?_
  refine SafeOps.bjoin 4 14 (b := ((decide (a0_1797 ≥ a1_1798)) && (decide (a0_1797 ≤ a2_1799)))) (b1 := decide (a0_1797 ≤ a2_1799)) (b0 := false) (fun hc1801 K => ?_) (fun hc1801 K => ?_) bj_and ?_
  · skip
    refine SafeOps.quiet0 E_good (congrArg some hc1801) rfl rfl (v := V.int .i64 a0_1797) (.fn rfl) ?_
    refine SafeOps.quiet0 E_good (congrArg some hc1801) rfl rfl (v := V.int .i64 a2_1799) (.fn rfl) ?_
    refine SafeOps.quiet0 E_good (congrArg some hc1801) rfl rfl (v := V.bool (decide (a0_1797 ≤ a2_1799))) (.fn rfl) ?_
    refine SafeOps.quiet0 E_good rfl rfl rfl (v := V.bool (decide (a0_1797 ≤ a2_1799))) (.pickK rfl hc1801 rfl) ?_
    exact SafeOps.drop' 4 rfl rfl rfl K
  · skip
    refine SafeOps.skip (congrArg some hc1801) rfl rfl ?_
    refine SafeOps.skip (congrArg some hc1801) rfl rfl ?_
    refine SafeOps.skip (congrArg some hc1801) rfl rfl ?_
    refine SafeOps.quiet0 E_good rfl rfl rfl (v := V.bool false) (.pickK rfl hc1801 rfl) ?_
    exact SafeOps.drop' 4 rfl rfl rfl K
  refine SafeOps.quiet0 E_good rfl rfl rfl (v := V.bool ((decide (a0_1797 ≥ a1_1798)) && (decide (a0_1797 ≤ a2_1799)))) (.fn rfl) ?_
  refine SafeOps.nil ?_
  repeat (first | refine Safe.seq ?_ | refine Safe.skip ?_ | with_reducible refine thenQ.n ?_ | with_reducible refine blockQ.n ?_)
  refine Safe.ret ?_
  repeat (first | with_reducible refine thenQ.r ?_ | with_reducible refine blockQ.r ?_)
  obtain rfl := h
  exact retQ.gen (vs := [V.bool ((decide (a0_1797 ≥ a1_1798)) && (decide (a0_1797 ≤ a2_1799)))]) rfl (.tmp (v := V.bool ((decide (a0_1797 ≥ a1_1798)) && (decide (a0_1797 ≤ a2_1799)))) rfl .nil) (.free rfl) (by simp) (.inr rfl)

def go_lodge_within_int64 (a0_1805 : Int) (a1_1806 : Int) (a2_1807 : Int) : Bool :=
  ((decide (a0_1805 ≥ a1_1806)) && (decide (a0_1805 ≤ a2_1807)))

theorem go_lodge_within_int64_sc (a0_1805 : Int) (a1_1806 : Int) (a2_1807 : Int) (r : Bool) (h : go_lodge_within_int64 a0_1805 a1_1806 a2_1807 = r) : SC Try.prog gl 70 [V.int .i64 a0_1805, V.int .i64 a1_1806, V.int .i64 a2_1807] (V.bool r) := by
  rw [go_lodge_within_int64] at h
  refine SC.of E_good Try.func70 rfl (fun _ _ => Try.call70 _ _) rfl ?_
  repeat (first | refine Safe.seq ?_ | refine Safe.skip ?_ | with_reducible refine thenQ.n ?_ | with_reducible refine blockQ.n ?_)
  refine Safe.region ?_
  refine SafeOps.quiet0 E_good rfl rfl rfl (v := V.bool false) (.fn rfl) ?_
  refine SafeOps.nil ?_
  repeat (first | refine Safe.seq ?_ | refine Safe.skip ?_ | with_reducible refine thenQ.n ?_ | with_reducible refine blockQ.n ?_)
  refine Safe.region ?_
  refine SafeOps.quiet0 E_good rfl rfl rfl (v := V.int .i64 a0_1805) (.fn rfl) ?_
  refine SafeOps.quiet0 E_good rfl rfl rfl (v := V.int .i64 a1_1806) (.fn rfl) ?_
  refine SafeOps.quiet0 E_good rfl rfl rfl (v := V.bool (decide (a0_1805 ≥ a1_1806))) (.fn rfl) ?_
  refine SafeOps.quiet0 E_good rfl rfl rfl (v := V.bool (decide (a0_1805 ≥ a1_1806))) (.fn rfl) ?_
  refine SafeOps.bjoin 4 14 (b := ((decide (a0_1805 ≥ a1_1806)) && (decide (a0_1805 ≤ a2_1807)))) (b1 := decide (a0_1805 ≤ a2_1807)) (b0 := false) (fun hc1809 K => ?_) (fun hc1809 K => ?_) bj_and ?_
  · skip
    refine SafeOps.quiet0 E_good (congrArg some hc1809) rfl rfl (v := V.int .i64 a0_1805) (.fn rfl) ?_
    refine SafeOps.quiet0 E_good (congrArg some hc1809) rfl rfl (v := V.int .i64 a2_1807) (.fn rfl) ?_
    refine SafeOps.quiet0 E_good (congrArg some hc1809) rfl rfl (v := V.bool (decide (a0_1805 ≤ a2_1807))) (.fn rfl) ?_
    refine SafeOps.quiet0 E_good rfl rfl rfl (v := V.bool (decide (a0_1805 ≤ a2_1807))) (.pickK rfl hc1809 rfl) ?_
    exact SafeOps.drop' 4 rfl rfl rfl K
  · skip
    refine SafeOps.skip (congrArg some hc1809) rfl rfl ?_
    refine SafeOps.skip (congrArg some hc1809) rfl rfl ?_
    refine SafeOps.skip (congrArg some hc1809) rfl rfl ?_
    refine SafeOps.quiet0 E_good rfl rfl rfl (v := V.bool false) (.pickK rfl hc1809 rfl) ?_
    exact SafeOps.drop' 4 rfl rfl rfl K
  refine SafeOps.quiet0 E_good rfl rfl rfl (v := V.bool ((decide (a0_1805 ≥ a1_1806)) && (decide (a0_1805 ≤ a2_1807)))) (.fn rfl) ?_
  refine SafeOps.nil ?_
  repeat (first | refine Safe.seq ?_ | refine Safe.skip ?_ | with_reducible refine thenQ.n ?_ | with_reducible refine blockQ.n ?_)
  refine Safe.ret ?_
  repeat (first | with_reducible refine thenQ.r ?_ | with_reducible refine blockQ.r ?_)
  obtain rfl := h
  exact retQ.gen (vs := [V.bool ((decide (a0_1805 ≥ a1_1806)) && (decide (a0_1805 ≤ a2_1807)))]) rfl (.tmp (v := V.bool ((decide (a0_1805 ≥ a1_1806)) && (decide (a0_1805 ≤ a2_1807)))) rfl .nil) (.free rfl) (by simp) (.inr rfl)

def go_lodge_odd (a0_1796 : api_Tenant) : Bool :=
  (((((!(go_lodge_within_int a0_1796.Weight 1 16)) || (!(go_lodge_within_int a0_1796.Quota 0 256))) || (!(go_lodge_within_int a0_1796.Live 0 a0_1796.Quota))) || (!(go_lodge_within_int64 a0_1796.Tag 0 1152921504606846976))) || (!(go_lodge_within_int64 a0_1796.Ran 0 1099511627776)))

theorem go_lodge_odd_sc (a0_1796 : api_Tenant) (r : Bool) (h : go_lodge_odd a0_1796 = r) : SC Try.prog gl 64 [V.agg [V.int .i64 a0_1796.Weight, V.int .i64 a0_1796.Quota, V.int .i64 a0_1796.Live, V.int .i64 a0_1796.Tag, V.int .i64 a0_1796.Ran]] (V.bool r) := by
  rw [go_lodge_odd] at h
  refine SC.of E_good Try.func64 rfl (fun _ _ => Try.call64 _ _) rfl ?_
  repeat (first | refine Safe.seq ?_ | refine Safe.skip ?_ | with_reducible refine thenQ.n ?_ | with_reducible refine blockQ.n ?_)
  refine Safe.region ?_
  refine SafeOps.quiet1 E_good rfl rfl rfl (.box rfl rfl) rfl ?_
  refine SafeOps.quiet0 E_good rfl rfl rfl (v := V.bool false) (.fn rfl) ?_
  refine SafeOps.nil ?_
  repeat (first | refine Safe.seq ?_ | refine Safe.skip ?_ | with_reducible refine thenQ.n ?_ | with_reducible refine blockQ.n ?_)
  refine Safe.region ?_
  refine SafeOps.quiet0 E_good rfl rfl rfl (v := V.ptr [1] 0 0) (.fn rfl) ?_
  refine SafeOps.quiet0 E_good rfl rfl rfl (v := V.int .i64 a0_1796.Weight) (.load rfl rfl (.box rfl rfl) rfl) ?_
  refine SafeOps.quiet0 E_good rfl rfl rfl (v := V.bool (go_lodge_within_int a0_1796.Weight 1 16)) (.callP rfl rfl (go_lodge_within_int_sc a0_1796.Weight 1 16 _ rfl) rfl) ?_
  refine SafeOps.quiet0 E_good rfl rfl rfl (v := V.bool (!(go_lodge_within_int a0_1796.Weight 1 16))) (.fn rfl) ?_
  refine SafeOps.quiet0 E_good rfl rfl rfl (v := V.bool (!(go_lodge_within_int a0_1796.Weight 1 16))) (.fn rfl) ?_
  refine SafeOps.bjoin 5 12 (b := ((!(go_lodge_within_int a0_1796.Weight 1 16)) || (!(go_lodge_within_int a0_1796.Quota 0 256)))) (b1 := true) (b0 := (!(go_lodge_within_int a0_1796.Quota 0 256))) (fun hc1811 K => ?_) (fun hc1811 K => ?_) bj_or ?_
  · skip
    refine SafeOps.skip (congrArg (fun b => some (!b)) hc1811) rfl rfl ?_
    refine SafeOps.skip (congrArg (fun b => some (!b)) hc1811) rfl rfl ?_
    refine SafeOps.skip (congrArg (fun b => some (!b)) hc1811) rfl rfl ?_
    refine SafeOps.skip (congrArg (fun b => some (!b)) hc1811) rfl rfl ?_
    refine SafeOps.quiet0 E_good rfl rfl rfl (v := V.bool true) (.pickK rfl hc1811 rfl) ?_
    exact SafeOps.drop' 5 rfl rfl rfl K
  · skip
    refine SafeOps.quiet0 E_good (congrArg (fun b => some (!b)) hc1811) rfl rfl (v := V.ptr [1] 0 1) (.fn rfl) ?_
    refine SafeOps.quiet0 E_good (congrArg (fun b => some (!b)) hc1811) rfl rfl (v := V.int .i64 a0_1796.Quota) (.load rfl rfl (.box rfl rfl) rfl) ?_
    refine SafeOps.quiet0 E_good (congrArg (fun b => some (!b)) hc1811) rfl rfl (v := V.bool (go_lodge_within_int a0_1796.Quota 0 256)) (.callP rfl rfl (go_lodge_within_int_sc a0_1796.Quota 0 256 _ rfl) rfl) ?_
    refine SafeOps.quiet0 E_good (congrArg (fun b => some (!b)) hc1811) rfl rfl (v := V.bool (!(go_lodge_within_int a0_1796.Quota 0 256))) (.fn rfl) ?_
    refine SafeOps.quiet0 E_good rfl rfl rfl (v := V.bool (!(go_lodge_within_int a0_1796.Quota 0 256))) (.pickK rfl hc1811 rfl) ?_
    exact SafeOps.drop' 5 rfl rfl rfl K
  refine SafeOps.quiet0 E_good rfl rfl rfl (v := V.bool ((!(go_lodge_within_int a0_1796.Weight 1 16)) || (!(go_lodge_within_int a0_1796.Quota 0 256)))) (.fn rfl) ?_
  refine SafeOps.bjoin 7 20 (b := (((!(go_lodge_within_int a0_1796.Weight 1 16)) || (!(go_lodge_within_int a0_1796.Quota 0 256))) || (!(go_lodge_within_int a0_1796.Live 0 a0_1796.Quota)))) (b1 := true) (b0 := (!(go_lodge_within_int a0_1796.Live 0 a0_1796.Quota))) (fun hc1812 K => ?_) (fun hc1812 K => ?_) bj_or ?_
  · skip
    refine SafeOps.skip (congrArg (fun b => some (!b)) hc1812) rfl rfl ?_
    refine SafeOps.skip (congrArg (fun b => some (!b)) hc1812) rfl rfl ?_
    refine SafeOps.skip (congrArg (fun b => some (!b)) hc1812) rfl rfl ?_
    refine SafeOps.skip (congrArg (fun b => some (!b)) hc1812) rfl rfl ?_
    refine SafeOps.skip (congrArg (fun b => some (!b)) hc1812) rfl rfl ?_
    refine SafeOps.skip (congrArg (fun b => some (!b)) hc1812) rfl rfl ?_
    refine SafeOps.quiet0 E_good rfl rfl rfl (v := V.bool true) (.pickK rfl hc1812 rfl) ?_
    exact SafeOps.drop' 7 rfl rfl rfl K
  · skip
    refine SafeOps.quiet0 E_good (congrArg (fun b => some (!b)) hc1812) rfl rfl (v := V.ptr [1] 0 2) (.fn rfl) ?_
    refine SafeOps.quiet0 E_good (congrArg (fun b => some (!b)) hc1812) rfl rfl (v := V.int .i64 a0_1796.Live) (.load rfl rfl (.box rfl rfl) rfl) ?_
    refine SafeOps.quiet0 E_good (congrArg (fun b => some (!b)) hc1812) rfl rfl (v := V.ptr [1] 0 1) (.fn rfl) ?_
    refine SafeOps.quiet0 E_good (congrArg (fun b => some (!b)) hc1812) rfl rfl (v := V.int .i64 a0_1796.Quota) (.load rfl rfl (.box rfl rfl) rfl) ?_
    refine SafeOps.quiet0 E_good (congrArg (fun b => some (!b)) hc1812) rfl rfl (v := V.bool (go_lodge_within_int a0_1796.Live 0 a0_1796.Quota)) (.callP rfl rfl (go_lodge_within_int_sc a0_1796.Live 0 a0_1796.Quota _ rfl) rfl) ?_
    refine SafeOps.quiet0 E_good (congrArg (fun b => some (!b)) hc1812) rfl rfl (v := V.bool (!(go_lodge_within_int a0_1796.Live 0 a0_1796.Quota))) (.fn rfl) ?_
    refine SafeOps.quiet0 E_good rfl rfl rfl (v := V.bool (!(go_lodge_within_int a0_1796.Live 0 a0_1796.Quota))) (.pickK rfl hc1812 rfl) ?_
    exact SafeOps.drop' 7 rfl rfl rfl K
  refine SafeOps.quiet0 E_good rfl rfl rfl (v := V.bool (((!(go_lodge_within_int a0_1796.Weight 1 16)) || (!(go_lodge_within_int a0_1796.Quota 0 256))) || (!(go_lodge_within_int a0_1796.Live 0 a0_1796.Quota)))) (.fn rfl) ?_
  refine SafeOps.bjoin 5 26 (b := ((((!(go_lodge_within_int a0_1796.Weight 1 16)) || (!(go_lodge_within_int a0_1796.Quota 0 256))) || (!(go_lodge_within_int a0_1796.Live 0 a0_1796.Quota))) || (!(go_lodge_within_int64 a0_1796.Tag 0 1152921504606846976)))) (b1 := true) (b0 := (!(go_lodge_within_int64 a0_1796.Tag 0 1152921504606846976))) (fun hc1813 K => ?_) (fun hc1813 K => ?_) bj_or ?_
  · skip
    refine SafeOps.skip (congrArg (fun b => some (!b)) hc1813) rfl rfl ?_
    refine SafeOps.skip (congrArg (fun b => some (!b)) hc1813) rfl rfl ?_
    refine SafeOps.skip (congrArg (fun b => some (!b)) hc1813) rfl rfl ?_
    refine SafeOps.skip (congrArg (fun b => some (!b)) hc1813) rfl rfl ?_
    refine SafeOps.quiet0 E_good rfl rfl rfl (v := V.bool true) (.pickK rfl hc1813 rfl) ?_
    exact SafeOps.drop' 5 rfl rfl rfl K
  · skip
    refine SafeOps.quiet0 E_good (congrArg (fun b => some (!b)) hc1813) rfl rfl (v := V.ptr [1] 0 3) (.fn rfl) ?_
    refine SafeOps.quiet0 E_good (congrArg (fun b => some (!b)) hc1813) rfl rfl (v := V.int .i64 a0_1796.Tag) (.load rfl rfl (.box rfl rfl) rfl) ?_
    refine SafeOps.quiet0 E_good (congrArg (fun b => some (!b)) hc1813) rfl rfl (v := V.bool (go_lodge_within_int64 a0_1796.Tag 0 1152921504606846976)) (.callP rfl rfl (go_lodge_within_int64_sc a0_1796.Tag 0 1152921504606846976 _ rfl) rfl) ?_
    refine SafeOps.quiet0 E_good (congrArg (fun b => some (!b)) hc1813) rfl rfl (v := V.bool (!(go_lodge_within_int64 a0_1796.Tag 0 1152921504606846976))) (.fn rfl) ?_
    refine SafeOps.quiet0 E_good rfl rfl rfl (v := V.bool (!(go_lodge_within_int64 a0_1796.Tag 0 1152921504606846976))) (.pickK rfl hc1813 rfl) ?_
    exact SafeOps.drop' 5 rfl rfl rfl K
  refine SafeOps.quiet0 E_good rfl rfl rfl (v := V.bool ((((!(go_lodge_within_int a0_1796.Weight 1 16)) || (!(go_lodge_within_int a0_1796.Quota 0 256))) || (!(go_lodge_within_int a0_1796.Live 0 a0_1796.Quota))) || (!(go_lodge_within_int64 a0_1796.Tag 0 1152921504606846976)))) (.fn rfl) ?_
  refine SafeOps.bjoin 5 32 (b := (((((!(go_lodge_within_int a0_1796.Weight 1 16)) || (!(go_lodge_within_int a0_1796.Quota 0 256))) || (!(go_lodge_within_int a0_1796.Live 0 a0_1796.Quota))) || (!(go_lodge_within_int64 a0_1796.Tag 0 1152921504606846976))) || (!(go_lodge_within_int64 a0_1796.Ran 0 1099511627776)))) (b1 := true) (b0 := (!(go_lodge_within_int64 a0_1796.Ran 0 1099511627776))) (fun hc1814 K => ?_) (fun hc1814 K => ?_) bj_or ?_
  · skip
    refine SafeOps.skip (congrArg (fun b => some (!b)) hc1814) rfl rfl ?_
    refine SafeOps.skip (congrArg (fun b => some (!b)) hc1814) rfl rfl ?_
    refine SafeOps.skip (congrArg (fun b => some (!b)) hc1814) rfl rfl ?_
    refine SafeOps.skip (congrArg (fun b => some (!b)) hc1814) rfl rfl ?_
    refine SafeOps.quiet0 E_good rfl rfl rfl (v := V.bool true) (.pickK rfl hc1814 rfl) ?_
    exact SafeOps.drop' 5 rfl rfl rfl K
  · skip
    refine SafeOps.quiet0 E_good (congrArg (fun b => some (!b)) hc1814) rfl rfl (v := V.ptr [1] 0 4) (.fn rfl) ?_
    refine SafeOps.quiet0 E_good (congrArg (fun b => some (!b)) hc1814) rfl rfl (v := V.int .i64 a0_1796.Ran) (.load rfl rfl (.box rfl rfl) rfl) ?_
    refine SafeOps.quiet0 E_good (congrArg (fun b => some (!b)) hc1814) rfl rfl (v := V.bool (go_lodge_within_int64 a0_1796.Ran 0 1099511627776)) (.callP rfl rfl (go_lodge_within_int64_sc a0_1796.Ran 0 1099511627776 _ rfl) rfl) ?_
    refine SafeOps.quiet0 E_good (congrArg (fun b => some (!b)) hc1814) rfl rfl (v := V.bool (!(go_lodge_within_int64 a0_1796.Ran 0 1099511627776))) (.fn rfl) ?_
    refine SafeOps.quiet0 E_good rfl rfl rfl (v := V.bool (!(go_lodge_within_int64 a0_1796.Ran 0 1099511627776))) (.pickK rfl hc1814 rfl) ?_
    exact SafeOps.drop' 5 rfl rfl rfl K
  refine SafeOps.quiet0 E_good rfl rfl rfl (v := V.bool (((((!(go_lodge_within_int a0_1796.Weight 1 16)) || (!(go_lodge_within_int a0_1796.Quota 0 256))) || (!(go_lodge_within_int a0_1796.Live 0 a0_1796.Quota))) || (!(go_lodge_within_int64 a0_1796.Tag 0 1152921504606846976))) || (!(go_lodge_within_int64 a0_1796.Ran 0 1099511627776)))) (.fn rfl) ?_
  refine SafeOps.nil ?_
  repeat (first | refine Safe.seq ?_ | refine Safe.skip ?_ | with_reducible refine thenQ.n ?_ | with_reducible refine blockQ.n ?_)
  refine Safe.ret ?_
  repeat (first | with_reducible refine thenQ.r ?_ | with_reducible refine blockQ.r ?_)
  obtain rfl := h
  exact retQ.gen (vs := [V.bool (((((!(go_lodge_within_int a0_1796.Weight 1 16)) || (!(go_lodge_within_int a0_1796.Quota 0 256))) || (!(go_lodge_within_int a0_1796.Live 0 a0_1796.Quota))) || (!(go_lodge_within_int64 a0_1796.Tag 0 1152921504606846976))) || (!(go_lodge_within_int64 a0_1796.Ran 0 1099511627776)))]) rfl (.tmp (v := V.bool (((((!(go_lodge_within_int a0_1796.Weight 1 16)) || (!(go_lodge_within_int a0_1796.Quota 0 256))) || (!(go_lodge_within_int a0_1796.Live 0 a0_1796.Quota))) || (!(go_lodge_within_int64 a0_1796.Tag 0 1152921504606846976))) || (!(go_lodge_within_int64 a0_1796.Ran 0 1099511627776)))) rfl .nil) (.free rfl) (by simp) (.inr rfl)

noncomputable def go_slices_IndexFunc_api_Tenant_api_Tenant_odd64_s1 (a0_1792 : List api_Tenant) : (Int) → Option ((Int) ⊕ (Int))
  | v8_1832 =>
    if (decide (v8_1832 < (a0_1792.length : Int))) = true then
      if 0 ≤ v8_1832 ∧ v8_1832 < (a0_1792.length : Int) then
        if (go_lodge_odd (gt a0_1792 v8_1832)) = true then
          inrO (
            some v8_1832)
        else
          nextO (IntKind.i64.wrap (v8_1832 + 1))
      else none
    else
      inrO (
        some (-1))

noncomputable def go_slices_IndexFunc_api_Tenant_api_Tenant_odd64 (a0_1792 : List api_Tenant) : Option Int :=
  whileO (go_slices_IndexFunc_api_Tenant_api_Tenant_odd64_s1 a0_1792) 0

theorem go_slices_IndexFunc_api_Tenant_api_Tenant_odd64_sc (a0_1792 : List api_Tenant) (r : Int) (h : go_slices_IndexFunc_api_Tenant_api_Tenant_odd64 a0_1792 = some r) : SC Try.prog gl 68 [V.sl 5 (rws api_Tenant.cells a0_1792), V.fn 64 []] (V.int .i64 r) := by
  rw [go_slices_IndexFunc_api_Tenant_api_Tenant_odd64] at h
  refine SC.of E_good Try.func68 rfl (fun _ _ => Try.call68 _ _) rfl ?_
  repeat (first | refine Safe.seq ?_ | refine Safe.skip ?_ | with_reducible refine thenQ.n ?_ | with_reducible refine blockQ.n ?_)
  refine Safe.region ?_
  refine SafeOps.quiet0 E_good rfl rfl rfl (v := V.int .i64 0) (.fn rfl) ?_
  refine SafeOps.nil ?_
  repeat (first | refine Safe.seq ?_ | refine Safe.skip ?_ | with_reducible refine thenQ.n ?_ | with_reducible refine blockQ.n ?_)
  refine Safe.region ?_
  refine SafeOps.quiet0 E_good rfl rfl rfl (v := V.sl 5 (rws api_Tenant.cells a0_1792)) (.fn rfl) ?_
  refine SafeOps.quiet0 E_good rfl rfl rfl (v := V.int .i64 (a0_1792.length : Int)) (.fnE rfl lenE) ?_
  refine SafeOps.quiet0 E_good rfl rfl rfl (v := V.int .i64 0) (.fn rfl) ?_
  refine SafeOps.nil ?_
  repeat (first | refine Safe.seq ?_ | refine Safe.skip ?_ | with_reducible refine thenQ.n ?_ | with_reducible refine blockQ.n ?_)
  refine Safe.block ?_
  repeat (first | refine Safe.seq ?_ | refine Safe.skip ?_ | with_reducible refine thenQ.n ?_ | with_reducible refine blockQ.n ?_)
  refine Safe.loopW (fun (v8_1832 : Int) => ⟨Try.f68.ntmps, [(0, V.sl 5 (rws api_Tenant.cells a0_1792)), (1, V.fn 64 []), (7, V.int .i64 (a0_1792.length : Int)), (8, V.int .i64 v8_1832)], [], [], []⟩) h (.cov ⟨rfl, rfl, (upT_cons (.refl _) (upT_cons (.refl _) (upT_cons (.refl _) (upT_cons (.refl _) upT_nil)))), upOb_nil, upOut_nil, rfl⟩) ?_
  intro v8_1832 ohr1833 h hr1833
  replace h : go_slices_IndexFunc_api_Tenant_api_Tenant_odd64_s1 a0_1792 v8_1832 = some ohr1833 := h
  rw [go_slices_IndexFunc_api_Tenant_api_Tenant_odd64_s1] at h
  repeat (first | refine Safe.seq ?_ | refine Safe.skip ?_ | with_reducible refine thenQ.n ?_ | with_reducible refine blockQ.n ?_)
  refine Safe.region ?_
  refine SafeOps.quiet0 E_good rfl rfl rfl (v := V.bool (decide (v8_1832 < (a0_1792.length : Int)))) (.fn rfl) ?_
  refine SafeOps.nil ?_
  repeat (first | refine Safe.seq ?_ | refine Safe.skip ?_ | with_reducible refine thenQ.n ?_ | with_reducible refine blockQ.n ?_)
  refine ifG h (fun hc1834 h => ?_) (fun hc1834 h => ?_)
  · skip
    refine Safe.condK rfl hc1834 ?_
    repeat (first | refine Safe.seq ?_ | refine Safe.skip ?_ | with_reducible refine thenQ.n ?_ | with_reducible refine blockQ.n ?_)
    refine Safe.block ?_
    repeat (first | refine Safe.seq ?_ | refine Safe.skip ?_ | with_reducible refine thenQ.n ?_ | with_reducible refine blockQ.n ?_)
    refine Safe.region ?_
    refine SafeOps.quiet0 E_good rfl rfl rfl (v := V.int .i64 v8_1832) (.fn rfl) ?_
    refine SafeOps.quiet0 E_good rfl rfl rfl (v := V.int .i64 v8_1832) (.fn rfl) ?_
    refine SafeOps.nil ?_
    repeat (first | refine Safe.seq ?_ | refine Safe.skip ?_ | with_reducible refine thenQ.n ?_ | with_reducible refine blockQ.n ?_)
    refine Safe.region ?_
    refine SafeOps.quiet0 E_good rfl rfl rfl (v := V.fn 64 []) (.fn rfl) ?_
    refine SafeOps.quiet0 E_good rfl rfl rfl (v := V.sl 5 (rws api_Tenant.cells a0_1792)) (.fn rfl) ?_
    refine SafeOps.quiet0 E_good rfl rfl rfl (v := V.int .i64 v8_1832) (.fn rfl) ?_
    refine okG h (fun hb1835 h => ?_)
    refine SafeOps.quiet0 E_good rfl rfl rfl (v := V.spt 5 (rws api_Tenant.cells a0_1792) (Int.toNat v8_1832) 0) (.idxSlM (f := api_Tenant.cells) rfl rfl rfl rfl rfl hb1835) ?_
    refine SafeOps.quiet0 E_good rfl rfl rfl (v := V.agg [V.int .i64 ((gt a0_1792 v8_1832).Weight), V.int .i64 ((gt a0_1792 v8_1832).Quota), V.int .i64 ((gt a0_1792 v8_1832).Live), V.int .i64 ((gt a0_1792 v8_1832).Tag), V.int .i64 ((gt a0_1792 v8_1832).Ran)]) (.load rfl rfl (.sptM (f := api_Tenant.cells) hb1835 rfl) rfl) ?_
    refine SafeOps.quiet0 E_good rfl rfl rfl (v := V.bool (go_lodge_odd (gt a0_1792 v8_1832))) (.callP rfl rfl (go_lodge_odd_sc (gt a0_1792 v8_1832) _ rfl) rfl) ?_
    refine SafeOps.nil ?_
    repeat (first | refine Safe.seq ?_ | refine Safe.skip ?_ | with_reducible refine thenQ.n ?_ | with_reducible refine blockQ.n ?_)
    refine ifG h (fun hc1836 h => ?_) (fun hc1836 h => ?_)
    · skip
      refine Safe.condK rfl hc1836 ?_
      repeat (first | refine Safe.seq ?_ | refine Safe.skip ?_ | with_reducible refine thenQ.n ?_ | with_reducible refine blockQ.n ?_)
      refine Safe.region ?_
      refine SafeOps.quiet0 E_good rfl rfl rfl (v := V.int .i64 v8_1832) (.fn rfl) ?_
      refine SafeOps.quiet0 E_good rfl rfl rfl (v := V.int .i64 v8_1832) (.fn rfl) ?_
      refine SafeOps.nil ?_
      repeat (first | refine Safe.seq ?_ | refine Safe.skip ?_ | with_reducible refine thenQ.n ?_ | with_reducible refine blockQ.n ?_)
      refine Safe.ret ?_
      repeat (first | with_reducible refine thenQ.r ?_ | with_reducible refine blockQ.r ?_)
      replace h := inr_out h hr1833
      obtain rfl := Option.some.inj h
      exact retQ.gen (vs := [V.int .i64 v8_1832]) rfl (.tmp (v := V.int .i64 v8_1832) rfl .nil) (.free rfl) (by simp) (.inr rfl)
    · skip
      refine Safe.condN rfl hc1836 ?_
      repeat (first | refine Safe.seq ?_ | refine Safe.skip ?_ | with_reducible refine thenQ.n ?_ | with_reducible refine blockQ.n ?_)
      refine Safe.region ?_
      refine SafeOps.quiet0 E_good rfl rfl rfl (v := V.int .i64 (IntKind.i64.wrap (v8_1832 + 1))) (.fn rfl) ?_
      refine SafeOps.quiet0 E_good rfl rfl rfl (v := V.int .i64 (IntKind.i64.wrap (v8_1832 + 1))) (.fn rfl) ?_
      refine SafeOps.nil ?_
      repeat (first | refine Safe.seq ?_ | refine Safe.skip ?_ | with_reducible refine thenQ.n ?_ | with_reducible refine blockQ.n ?_)
      exact ⟨_, next_out h, (.cov ⟨rfl, rfl, (upT_cons (.refl _) (upT_cons (.refl _) (upT_cons (.refl _) (upT_cons (.refl _) upT_nil)))), upOb_nil, upOut_nil, rfl⟩)⟩
  · skip
    refine Safe.condN rfl hc1834 ?_
    repeat (first | refine Safe.seq ?_ | refine Safe.skip ?_ | with_reducible refine thenQ.n ?_ | with_reducible refine blockQ.n ?_)
    refine Safe.exit ?_
    repeat (first | with_reducible refine thenQ.e ?_ | with_reducible refine blockQ.x rfl ?_ | with_reducible refine blockQ.y rfl ?_)
    replace h := inr_out h hr1833
    repeat (first | refine Safe.seq ?_ | refine Safe.skip ?_ | with_reducible refine thenQ.n ?_ | with_reducible refine blockQ.n ?_)
    refine Safe.region ?_
    refine SafeOps.quiet0 E_good rfl rfl rfl (v := V.int .i64 (-1)) (.fn rfl) ?_
    refine SafeOps.nil ?_
    repeat (first | refine Safe.seq ?_ | refine Safe.skip ?_ | with_reducible refine thenQ.n ?_ | with_reducible refine blockQ.n ?_)
    refine Safe.ret ?_
    repeat (first | with_reducible refine thenQ.r ?_ | with_reducible refine blockQ.r ?_)
    obtain rfl := Option.some.inj h
    exact retQ.gen (vs := [V.int .i64 (-1)]) rfl (.tmp (v := V.int .i64 (-1)) rfl .nil) (.free rfl) (by simp) (.inr rfl)

noncomputable def go_slices_ContainsFunc_api_Tenant_api_Tenant_odd64 (a0_1791 : List api_Tenant) : Option Bool :=
  (go_slices_IndexFunc_api_Tenant_api_Tenant_odd64 a0_1791).bind fun x_1839 =>
  some (decide (x_1839 ≥ 0))

theorem go_slices_ContainsFunc_api_Tenant_api_Tenant_odd64_sc (a0_1791 : List api_Tenant) (r : Bool) (h : go_slices_ContainsFunc_api_Tenant_api_Tenant_odd64 a0_1791 = some r) : SC Try.prog gl 63 [V.sl 5 (rws api_Tenant.cells a0_1791), V.fn 64 []] (V.bool r) := by
  rw [go_slices_ContainsFunc_api_Tenant_api_Tenant_odd64] at h
  refine SC.of E_good Try.func63 rfl (fun _ _ => Try.call63 _ _) rfl ?_
  repeat (first | refine Safe.seq ?_ | refine Safe.skip ?_ | with_reducible refine thenQ.n ?_ | with_reducible refine blockQ.n ?_)
  refine Safe.region ?_
  refine SafeOps.quiet0 E_good rfl rfl rfl (v := V.bool false) (.fn rfl) ?_
  refine SafeOps.nil ?_
  repeat (first | refine Safe.seq ?_ | refine Safe.skip ?_ | with_reducible refine thenQ.n ?_ | with_reducible refine blockQ.n ?_)
  refine Safe.region ?_
  refine SafeOps.quiet0 E_good rfl rfl rfl (v := V.sl 5 (rws api_Tenant.cells a0_1791)) (.fn rfl) ?_
  refine SafeOps.quiet0 E_good rfl rfl rfl (v := V.fn 64 []) (.fn rfl) ?_
  refine bindG h ?_
  intro x_1839 he1840 h
  refine SafeOps.quiet0 E_good rfl rfl rfl (v := V.int .i64 x_1839) (.callP rfl rfl (go_slices_IndexFunc_api_Tenant_api_Tenant_odd64_sc a0_1791 _ he1840) rfl) ?_
  refine SafeOps.quiet0 E_good rfl rfl rfl (v := V.bool (decide (x_1839 ≥ 0))) (.fn rfl) ?_
  refine SafeOps.quiet0 E_good rfl rfl rfl (v := V.bool (decide (x_1839 ≥ 0))) (.fn rfl) ?_
  refine SafeOps.nil ?_
  repeat (first | refine Safe.seq ?_ | refine Safe.skip ?_ | with_reducible refine thenQ.n ?_ | with_reducible refine blockQ.n ?_)
  refine Safe.ret ?_
  repeat (first | with_reducible refine thenQ.r ?_ | with_reducible refine blockQ.r ?_)
  obtain rfl := Option.some.inj h
  exact retQ.gen (vs := [V.bool (decide (x_1839 ≥ 0))]) rfl (.tmp (v := V.bool (decide (x_1839 ≥ 0))) rfl .nil) (.free rfl) (by simp) (.inr rfl)

noncomputable def go_lodge_Check (a0_1788 : List api_Tenant) : Option Int :=
  if ((decide ((a0_1788.length : Int) < 1)) || (decide ((a0_1788.length : Int) > 16))) = true then
    some 1
  else
    (go_slices_ContainsFunc_api_Tenant_api_Tenant_odd64 a0_1788).bind fun x_1855 =>
    if x_1855 = true then
      some 1
    else
      some 0

theorem go_lodge_Check_sc (a0_1788 : List api_Tenant) (r : Int) (h : go_lodge_Check a0_1788 = some r) : SC Try.prog gl 53 [V.sl 5 (rws api_Tenant.cells a0_1788)] (V.int .i64 r) := by
  rw [go_lodge_Check] at h
  refine SC.of E_good Try.func53 rfl (fun _ _ => Try.call53 _ _) rfl ?_
  repeat (first | refine Safe.seq ?_ | refine Safe.skip ?_ | with_reducible refine thenQ.n ?_ | with_reducible refine blockQ.n ?_)
  refine Safe.region ?_
  refine SafeOps.quiet0 E_good rfl rfl rfl (v := V.int .i64 0) (.fn rfl) ?_
  refine SafeOps.nil ?_
  repeat (first | refine Safe.seq ?_ | refine Safe.skip ?_ | with_reducible refine thenQ.n ?_ | with_reducible refine blockQ.n ?_)
  refine Safe.region ?_
  refine SafeOps.quiet0 E_good rfl rfl rfl (v := V.sl 5 (rws api_Tenant.cells a0_1788)) (.fn rfl) ?_
  refine SafeOps.quiet0 E_good rfl rfl rfl (v := V.int .i64 (a0_1788.length : Int)) (.fnE rfl lenE) ?_
  refine SafeOps.quiet0 E_good rfl rfl rfl (v := V.bool (decide ((a0_1788.length : Int) < 1))) (.fn rfl) ?_
  refine SafeOps.quiet0 E_good rfl rfl rfl (v := V.bool (decide ((a0_1788.length : Int) < 1))) (.fn rfl) ?_
  refine SafeOps.bjoin 4 10 (b := ((decide ((a0_1788.length : Int) < 1)) || (decide ((a0_1788.length : Int) > 16)))) (b1 := true) (b0 := decide ((a0_1788.length : Int) > 16)) (fun hc1851 K => ?_) (fun hc1851 K => ?_) bj_or ?_
  · skip
    refine SafeOps.skip (congrArg (fun b => some (!b)) hc1851) rfl rfl ?_
    refine SafeOps.skip (congrArg (fun b => some (!b)) hc1851) rfl rfl ?_
    refine SafeOps.skip (congrArg (fun b => some (!b)) hc1851) rfl rfl ?_
    refine SafeOps.quiet0 E_good rfl rfl rfl (v := V.bool true) (.pickK rfl hc1851 rfl) ?_
    exact SafeOps.drop' 4 rfl rfl rfl K
  · skip
    refine SafeOps.quiet0 E_good (congrArg (fun b => some (!b)) hc1851) rfl rfl (v := V.sl 5 (rws api_Tenant.cells a0_1788)) (.fn rfl) ?_
    refine SafeOps.quiet0 E_good (congrArg (fun b => some (!b)) hc1851) rfl rfl (v := V.int .i64 (a0_1788.length : Int)) (.fnE rfl lenE) ?_
    refine SafeOps.quiet0 E_good (congrArg (fun b => some (!b)) hc1851) rfl rfl (v := V.bool (decide ((a0_1788.length : Int) > 16))) (.fn rfl) ?_
    refine SafeOps.quiet0 E_good rfl rfl rfl (v := V.bool (decide ((a0_1788.length : Int) > 16))) (.pickK rfl hc1851 rfl) ?_
    exact SafeOps.drop' 4 rfl rfl rfl K
  refine SafeOps.quiet0 E_good rfl rfl rfl (v := V.bool ((decide ((a0_1788.length : Int) < 1)) || (decide ((a0_1788.length : Int) > 16)))) (.fn rfl) ?_
  refine ifG h (fun hc1852 h => ?_) (fun hc1852 h => ?_)
  · skip
    refine SafeOps.skip (congrArg (fun b => some (!b)) hc1852) rfl rfl ?_
    refine SafeOps.skip (congrArg (fun b => some (!b)) hc1852) rfl rfl ?_
    refine SafeOps.quiet0 E_good rfl rfl rfl (v := V.bool true) (.pickK rfl hc1852 rfl) ?_
    refine SafeOps.nil ?_
    repeat (first | refine Safe.seq ?_ | refine Safe.skip ?_ | with_reducible refine thenQ.n ?_ | with_reducible refine blockQ.n ?_)
    refine Safe.condK rfl rfl ?_
    repeat (first | refine Safe.seq ?_ | refine Safe.skip ?_ | with_reducible refine thenQ.n ?_ | with_reducible refine blockQ.n ?_)
    refine Safe.region ?_
    refine SafeOps.quiet0 E_good rfl rfl rfl (v := V.int .i64 1) (.fn rfl) ?_
    refine SafeOps.nil ?_
    repeat (first | refine Safe.seq ?_ | refine Safe.skip ?_ | with_reducible refine thenQ.n ?_ | with_reducible refine blockQ.n ?_)
    refine Safe.ret ?_
    repeat (first | with_reducible refine thenQ.r ?_ | with_reducible refine blockQ.r ?_)
    obtain rfl := Option.some.inj h
    exact retQ.gen (vs := [V.int .i64 1]) rfl (.tmp (v := V.int .i64 1) rfl .nil) (.free rfl) (by simp) (.inr rfl)
  · skip
    refine SafeOps.quiet0 E_good (congrArg (fun b => some (!b)) hc1852) rfl rfl (v := V.sl 5 (rws api_Tenant.cells a0_1788)) (.fn rfl) ?_
    refine bindG h ?_
    intro x_1855 he1856 h
    refine SafeOps.quiet0 E_good (congrArg (fun b => some (!b)) hc1852) rfl rfl (v := V.bool x_1855) (.callP rfl rfl (go_slices_ContainsFunc_api_Tenant_api_Tenant_odd64_sc a0_1788 _ he1856) rfl) ?_
    refine SafeOps.quiet0 E_good rfl rfl rfl (v := V.bool x_1855) (.pickK rfl hc1852 rfl) ?_
    refine SafeOps.nil ?_
    repeat (first | refine Safe.seq ?_ | refine Safe.skip ?_ | with_reducible refine thenQ.n ?_ | with_reducible refine blockQ.n ?_)
    refine ifG h (fun hc1857 h => ?_) (fun hc1857 h => ?_)
    · skip
      refine Safe.condK rfl hc1857 ?_
      repeat (first | refine Safe.seq ?_ | refine Safe.skip ?_ | with_reducible refine thenQ.n ?_ | with_reducible refine blockQ.n ?_)
      refine Safe.region ?_
      refine SafeOps.quiet0 E_good rfl rfl rfl (v := V.int .i64 1) (.fn rfl) ?_
      refine SafeOps.nil ?_
      repeat (first | refine Safe.seq ?_ | refine Safe.skip ?_ | with_reducible refine thenQ.n ?_ | with_reducible refine blockQ.n ?_)
      refine Safe.ret ?_
      repeat (first | with_reducible refine thenQ.r ?_ | with_reducible refine blockQ.r ?_)
      obtain rfl := Option.some.inj h
      exact retQ.gen (vs := [V.int .i64 1]) rfl (.tmp (v := V.int .i64 1) rfl .nil) (.free rfl) (by simp) (.inr rfl)
    · skip
      refine Safe.condN rfl hc1857 ?_
      repeat (first | refine Safe.seq ?_ | refine Safe.skip ?_ | with_reducible refine thenQ.n ?_ | with_reducible refine blockQ.n ?_)
      refine Safe.region ?_
      refine SafeOps.quiet0 E_good rfl rfl rfl (v := V.int .i64 0) (.fn rfl) ?_
      refine SafeOps.nil ?_
      repeat (first | refine Safe.seq ?_ | refine Safe.skip ?_ | with_reducible refine thenQ.n ?_ | with_reducible refine blockQ.n ?_)
      refine Safe.ret ?_
      repeat (first | with_reducible refine thenQ.r ?_ | with_reducible refine blockQ.r ?_)
      obtain rfl := Option.some.inj h
      exact retQ.gen (vs := [V.int .i64 0]) rfl (.tmp (v := V.int .i64 0) rfl .nil) (.free rfl) (by simp) (.inr rfl)

noncomputable def go_lodge_New_s2 (a0_1743 : List Int) (a1_1744 : List Int) : ((List api_Tenant) × Int) → Option (((List api_Tenant) × Int) ⊕ ((List api_Tenant) × Int))
  | (v6_1891, v24_1892) =>
    if (decide (v24_1892 < ((List.replicate (Int.toNat (a0_1743.length : Int)) api_Tenant.zero).length : Int))) = true then
      if 0 ≤ v24_1892 ∧ v24_1892 < (a0_1743.length : Int) then
        if 0 ≤ v24_1892 ∧ v24_1892 < (a1_1744.length : Int) then
          if 0 ≤ v24_1892 ∧ v24_1892 < (v6_1891.length : Int) then
            nextO (st v6_1891 v24_1892 (api_Tenant.mk (gt a0_1743 v24_1892) (gt a1_1744 v24_1892) 0 0 0), IntKind.i64.wrap (v24_1892 + 1))
          else none
        else none
      else none
    else
      inrO (
        (go_lodge_Check v6_1891).bind fun x_1898 =>
        if (x_1898 != 0) = true then
          some ([], x_1898)
        else
          some (v6_1891, 0))

noncomputable def go_lodge_New (a0_1743 : List Int) (a1_1744 : List Int) : Option ((List api_Tenant) × Int) :=
  if (((a0_1743.length : Int) != (a1_1744.length : Int)) || (decide ((a0_1743.length : Int) > 16))) = true then
    some ([], 1)
  else
    if 0 ≤ (a0_1743.length : Int) ∧ (a0_1743.length : Int) ≤ (a0_1743.length : Int) ∧ (a0_1743.length : Int) ≤ 549755813888 then
      whileO (go_lodge_New_s2 a0_1743 a1_1744) (List.replicate (Int.toNat (a0_1743.length : Int)) api_Tenant.zero, 0)
    else none

theorem go_lodge_New_sc (a0_1743 : List Int) (a1_1744 : List Int) (r : (List api_Tenant) × Int) (h : go_lodge_New a0_1743 a1_1744 = some r) : SC Try.prog gl 34 [V.sl 1 (rws (fun n => [V.int .i64 n]) a0_1743), V.sl 1 (rws (fun n => [V.int .i64 n]) a1_1744)] (V.tup [V.own 5 (rws api_Tenant.cells r.1), V.int .i64 r.2]) := by
  rw [go_lodge_New] at h
  refine SC.of E_good Try.func34 rfl (fun _ _ => Try.call34 _ _) rfl ?_
  repeat (first | refine Safe.seq ?_ | refine Safe.skip ?_ | with_reducible refine thenQ.n ?_ | with_reducible refine blockQ.n ?_)
  refine Safe.region ?_
  refine SafeOps.quiet0 E_good rfl rfl rfl (v := V.nils) (.fn rfl) ?_
  refine SafeOps.quiet0 E_good rfl rfl rfl (v := V.int .i64 0) (.fn rfl) ?_
  refine SafeOps.nil ?_
  repeat (first | refine Safe.seq ?_ | refine Safe.skip ?_ | with_reducible refine thenQ.n ?_ | with_reducible refine blockQ.n ?_)
  refine Safe.region ?_
  refine SafeOps.quiet0 E_good rfl rfl rfl (v := V.sl 1 (rws (fun n => [V.int .i64 n]) a0_1743)) (.fn rfl) ?_
  refine SafeOps.quiet0 E_good rfl rfl rfl (v := V.int .i64 (a0_1743.length : Int)) (.fnE rfl lenE) ?_
  refine SafeOps.quiet0 E_good rfl rfl rfl (v := V.sl 1 (rws (fun n => [V.int .i64 n]) a1_1744)) (.fn rfl) ?_
  refine SafeOps.quiet0 E_good rfl rfl rfl (v := V.int .i64 (a1_1744.length : Int)) (.fnE rfl lenE) ?_
  refine SafeOps.quiet0 E_good rfl rfl rfl (v := V.bool ((a0_1743.length : Int) != (a1_1744.length : Int))) (.fn rfl) ?_
  refine SafeOps.quiet0 E_good rfl rfl rfl (v := V.bool ((a0_1743.length : Int) != (a1_1744.length : Int))) (.fn rfl) ?_
  refine SafeOps.bjoin 4 18 (b := (((a0_1743.length : Int) != (a1_1744.length : Int)) || (decide ((a0_1743.length : Int) > 16)))) (b1 := true) (b0 := decide ((a0_1743.length : Int) > 16)) (fun hc1861 K => ?_) (fun hc1861 K => ?_) bj_or ?_
  · skip
    refine SafeOps.skip (congrArg (fun b => some (!b)) hc1861) rfl rfl ?_
    refine SafeOps.skip (congrArg (fun b => some (!b)) hc1861) rfl rfl ?_
    refine SafeOps.skip (congrArg (fun b => some (!b)) hc1861) rfl rfl ?_
    refine SafeOps.quiet0 E_good rfl rfl rfl (v := V.bool true) (.pickK rfl hc1861 rfl) ?_
    exact SafeOps.drop' 4 rfl rfl rfl K
  · skip
    refine SafeOps.quiet0 E_good (congrArg (fun b => some (!b)) hc1861) rfl rfl (v := V.sl 1 (rws (fun n => [V.int .i64 n]) a0_1743)) (.fn rfl) ?_
    refine SafeOps.quiet0 E_good (congrArg (fun b => some (!b)) hc1861) rfl rfl (v := V.int .i64 (a0_1743.length : Int)) (.fnE rfl lenE) ?_
    refine SafeOps.quiet0 E_good (congrArg (fun b => some (!b)) hc1861) rfl rfl (v := V.bool (decide ((a0_1743.length : Int) > 16))) (.fn rfl) ?_
    refine SafeOps.quiet0 E_good rfl rfl rfl (v := V.bool (decide ((a0_1743.length : Int) > 16))) (.pickK rfl hc1861 rfl) ?_
    exact SafeOps.drop' 4 rfl rfl rfl K
  refine SafeOps.nil ?_
  repeat (first | refine Safe.seq ?_ | refine Safe.skip ?_ | with_reducible refine thenQ.n ?_ | with_reducible refine blockQ.n ?_)
  refine ifG h (fun hc1862 h => ?_) (fun hc1862 h => ?_)
  · skip
    refine Safe.condK rfl hc1862 ?_
    repeat (first | refine Safe.seq ?_ | refine Safe.skip ?_ | with_reducible refine thenQ.n ?_ | with_reducible refine blockQ.n ?_)
    refine Safe.region ?_
    refine SafeOps.quiet0 E_good rfl rfl rfl (v := V.nils) (.fn rfl) ?_
    refine SafeOps.quiet0 E_good rfl rfl rfl (v := V.int .i64 1) (.fn rfl) ?_
    refine SafeOps.nil ?_
    repeat (first | refine Safe.seq ?_ | refine Safe.skip ?_ | with_reducible refine thenQ.n ?_ | with_reducible refine blockQ.n ?_)
    refine Safe.ret ?_
    repeat (first | with_reducible refine thenQ.r ?_ | with_reducible refine blockQ.r ?_)
    obtain rfl := Option.some.inj h
    exact retQ.gen (vs := [V.nils, V.int .i64 1]) rfl (.tmp (v := V.nils) rfl (.tmp (v := V.int .i64 1) rfl .nil)) (by exact (.tup (.cons (.nils _) (.cons (.free rfl) .nil)))) (by simp) (.inr rfl)
  · skip
    refine Safe.condN rfl hc1862 ?_
    repeat (first | refine Safe.seq ?_ | refine Safe.skip ?_ | with_reducible refine thenQ.n ?_ | with_reducible refine blockQ.n ?_)
    refine Safe.region ?_
    refine SafeOps.quiet0 E_good rfl rfl rfl (v := V.sl 1 (rws (fun n => [V.int .i64 n]) a0_1743)) (.fn rfl) ?_
    refine SafeOps.quiet0 E_good rfl rfl rfl (v := V.int .i64 (a0_1743.length : Int)) (.fnE rfl lenE) ?_
    refine okG h (fun hb1863 h => ?_)
    refine SafeOps.quiet1 E_good rfl rfl rfl (.makeM (f := api_Tenant.cells) (d := api_Tenant.zero) rfl rfl rfl rfl hb1863 rfl rfl rfl) rfl ?_
    refine SafeOps.quiet0 E_good rfl rfl rfl (v := V.ref [21] 0 (rws api_Tenant.cells (List.replicate (Int.toNat (a0_1743.length : Int)) api_Tenant.zero)).length) (.fn rfl) ?_
    refine SafeOps.nil ?_
    repeat (first | refine Safe.seq ?_ | refine Safe.skip ?_ | with_reducible refine thenQ.n ?_ | with_reducible refine blockQ.n ?_)
    refine Safe.region ?_
    refine SafeOps.quiet0 E_good rfl rfl rfl (v := V.ref [21] 0 (rws api_Tenant.cells (List.replicate (Int.toNat (a0_1743.length : Int)) api_Tenant.zero)).length) (.fn rfl) ?_
    refine SafeOps.quiet0 E_good rfl rfl rfl (v := V.int .i64 ((List.replicate (Int.toNat (a0_1743.length : Int)) api_Tenant.zero).length : Int)) (.fnE rfl lenE) ?_
    refine SafeOps.quiet0 E_good rfl rfl rfl (v := V.int .i64 0) (.fn rfl) ?_
    refine SafeOps.nil ?_
    repeat (first | refine Safe.seq ?_ | refine Safe.skip ?_ | with_reducible refine thenQ.n ?_ | with_reducible refine blockQ.n ?_)
    refine Safe.block ?_
    repeat (first | refine Safe.seq ?_ | refine Safe.skip ?_ | with_reducible refine thenQ.n ?_ | with_reducible refine blockQ.n ?_)
    refine Safe.loopW (fun ((v6_1891, v24_1892) : (List api_Tenant) × Int) => ⟨Try.f34.ntmps, [(0, V.sl 1 (rws (fun n => [V.int .i64 n]) a0_1743)), (1, V.sl 1 (rws (fun n => [V.int .i64 n]) a1_1744)), (6, V.ref [21] 0 (rws api_Tenant.cells v6_1891).length), (23, V.int .i64 ((List.replicate (Int.toNat (a0_1743.length : Int)) api_Tenant.zero).length : Int)), (24, V.int .i64 v24_1892)], [([21], Obj.rows 5 (rws api_Tenant.cells v6_1891) false)], [], []⟩) h (.cov ⟨rfl, rfl, (upT_cons (.refl _) (upT_cons (.refl _) (upT_cons (.refl _) (upT_cons (.refl _) (upT_cons (.refl _) upT_nil))))), (upOb_cons rfl (.refl _) upOb_nil), upOut_nil, rfl⟩) ?_
    rintro ⟨v6_1891, v24_1892⟩ ohr1893 h hr1893
    replace h : go_lodge_New_s2 a0_1743 a1_1744 (v6_1891, v24_1892) = some ohr1893 := h
    rw [go_lodge_New_s2] at h
    repeat (first | refine Safe.seq ?_ | refine Safe.skip ?_ | with_reducible refine thenQ.n ?_ | with_reducible refine blockQ.n ?_)
    refine Safe.region ?_
    refine SafeOps.quiet0 E_good rfl rfl rfl (v := V.bool (decide (v24_1892 < ((List.replicate (Int.toNat (a0_1743.length : Int)) api_Tenant.zero).length : Int)))) (.fn rfl) ?_
    refine SafeOps.nil ?_
    repeat (first | refine Safe.seq ?_ | refine Safe.skip ?_ | with_reducible refine thenQ.n ?_ | with_reducible refine blockQ.n ?_)
    refine ifG h (fun hc1894 h => ?_) (fun hc1894 h => ?_)
    · skip
      refine Safe.condK rfl hc1894 ?_
      repeat (first | refine Safe.seq ?_ | refine Safe.skip ?_ | with_reducible refine thenQ.n ?_ | with_reducible refine blockQ.n ?_)
      refine Safe.block ?_
      repeat (first | refine Safe.seq ?_ | refine Safe.skip ?_ | with_reducible refine thenQ.n ?_ | with_reducible refine blockQ.n ?_)
      refine Safe.region ?_
      refine SafeOps.quiet0 E_good rfl rfl rfl (v := V.int .i64 v24_1892) (.fn rfl) ?_
      refine SafeOps.quiet0 E_good rfl rfl rfl (v := V.int .i64 v24_1892) (.fn rfl) ?_
      refine SafeOps.nil ?_
      repeat (first | refine Safe.seq ?_ | refine Safe.skip ?_ | with_reducible refine thenQ.n ?_ | with_reducible refine blockQ.n ?_)
      refine Safe.regionD (n := 13) [(12, [21])] [] E_good mixed rfl ?_
      refine DAny.take (i := 0) rfl (by kernel_rfl) [[21]] (by kernel_rfl) (by kernel_rfl) (by kernel_rfl) rfl rfl rfl (v := V.ref [21] 0 (rws api_Tenant.cells v6_1891).length) (fun _ hz => (.fn rfl)) ?_
      refine DAny.take (i := 1) rfl (by kernel_rfl) [[21]] (by kernel_rfl) (by kernel_rfl) (by kernel_rfl) rfl rfl rfl (v := V.int .i64 v24_1892) (fun _ hz => (.fn rfl)) ?_
      refine DAny.take (i := 2) rfl (by kernel_rfl) [[21]] (by kernel_rfl) (by kernel_rfl) (by kernel_rfl) rfl rfl rfl (v := V.sl 1 (rws (fun n => [V.int .i64 n]) a0_1743)) (fun _ hz => (.fn rfl)) ?_
      refine DAny.take (i := 3) rfl (by kernel_rfl) [[21]] (by kernel_rfl) (by kernel_rfl) (by kernel_rfl) rfl rfl rfl (v := V.int .i64 v24_1892) (fun _ hz => (.fn rfl)) ?_
      refine okG h (fun hb1895 h => ?_)
      refine DAny.take (i := 4) rfl (by kernel_rfl) [[21]] (by kernel_rfl) (by kernel_rfl) (by kernel_rfl) rfl rfl rfl (v := V.spt 1 (rws (fun n => [V.int .i64 n]) a0_1743) (Int.toNat v24_1892) 0) (fun _ hz => (.idxSlM (f := (fun n => [V.int .i64 n])) rfl rfl rfl rfl rfl hb1895)) ?_
      refine DAny.take (i := 5) rfl (by kernel_rfl) [[21]] (by kernel_rfl) (by kernel_rfl) (by kernel_rfl) rfl rfl rfl (v := V.int .i64 (gt a0_1743 v24_1892)) (fun _ hz => (.load rfl rfl (.sptM (f := (fun n => [V.int .i64 n])) hb1895 rfl) rfl)) ?_
      refine DAny.take (i := 6) rfl (by kernel_rfl) [[21]] (by kernel_rfl) (by kernel_rfl) (by kernel_rfl) rfl rfl rfl (v := V.sl 1 (rws (fun n => [V.int .i64 n]) a1_1744)) (fun _ hz => (.fn rfl)) ?_
      refine DAny.take (i := 7) rfl (by kernel_rfl) [[21]] (by kernel_rfl) (by kernel_rfl) (by kernel_rfl) rfl rfl rfl (v := V.int .i64 v24_1892) (fun _ hz => (.fn rfl)) ?_
      refine okG h (fun hb1896 h => ?_)
      refine DAny.take (i := 8) rfl (by kernel_rfl) [[21]] (by kernel_rfl) (by kernel_rfl) (by kernel_rfl) rfl rfl rfl (v := V.spt 1 (rws (fun n => [V.int .i64 n]) a1_1744) (Int.toNat v24_1892) 0) (fun _ hz => (.idxSlM (f := (fun n => [V.int .i64 n])) rfl rfl rfl rfl rfl hb1896)) ?_
      refine DAny.take (i := 9) rfl (by kernel_rfl) [[21]] (by kernel_rfl) (by kernel_rfl) (by kernel_rfl) rfl rfl rfl (v := V.int .i64 (gt a1_1744 v24_1892)) (fun _ hz => (.load rfl rfl (.sptM (f := (fun n => [V.int .i64 n])) hb1896 rfl) rfl)) ?_
      refine DAny.take (i := 10) rfl (by kernel_rfl) [[21]] (by kernel_rfl) (by kernel_rfl) (by kernel_rfl) rfl rfl rfl (v := V.agg [V.int .i64 (gt a0_1743 v24_1892), V.int .i64 (gt a1_1744 v24_1892), V.int .i64 0, V.int .i64 0, V.int .i64 0]) (fun _ hz => (.fn rfl)) ?_
      refine okG h (fun hb1897 h => ?_)
      refine DAny.take (i := 11) rfl (by kernel_rfl) [] (by kernel_rfl) (by kernel_rfl) (by kernel_rfl) rfl rfl rfl (v := V.ptr [21] (0 + Int.toNat v24_1892) 0) (fun _ hz => (.idxRefM (f := api_Tenant.cells) (xs := v6_1891) rfl rfl rfl (hz _ _ rfl rfl) rfl rfl hb1897)) ?_
      refine DAny.only (i := 12) rfl (by kernel_rfl) (.store (z := Obj.rows 5 (rws api_Tenant.cells (st v6_1891 v24_1892 (api_Tenant.mk (gt a0_1743 v24_1892) (gt a1_1744 v24_1892) 0 0 0))) false) rfl rfl rfl rfl rfl rfl rfl (.rowsM (f := api_Tenant.cells) (xs := v6_1891) (y := (api_Tenant.mk (gt a0_1743 v24_1892) (gt a1_1744 v24_1892) 0 0 0)) hb1897 rfl rfl rfl rfl) rfl ?_)
      refine DAny.nil (by kernel_rfl) ?_
      repeat (first | refine Safe.seq ?_ | refine Safe.skip ?_ | with_reducible refine thenQ.n ?_ | with_reducible refine blockQ.n ?_)
      refine Safe.see 6 (u := V.ref [21] 0 (rws api_Tenant.cells (st v6_1891 v24_1892 (api_Tenant.mk (gt a0_1743 v24_1892) (gt a1_1744 v24_1892) 0 0 0))).length) rfl (.len (by simp [rws, st])) ?_
      refine Safe.see 27 (u := V.ref [21] 0 (rws api_Tenant.cells (st v6_1891 v24_1892 (api_Tenant.mk (gt a0_1743 v24_1892) (gt a1_1744 v24_1892) 0 0 0))).length) rfl (.len (by simp [rws, st])) ?_
      repeat (first | refine Safe.seq ?_ | refine Safe.skip ?_ | with_reducible refine thenQ.n ?_ | with_reducible refine blockQ.n ?_)
      refine Safe.region ?_
      refine SafeOps.quiet0 E_good rfl rfl rfl (v := V.int .i64 (IntKind.i64.wrap (v24_1892 + 1))) (.fn rfl) ?_
      refine SafeOps.quiet0 E_good rfl rfl rfl (v := V.int .i64 (IntKind.i64.wrap (v24_1892 + 1))) (.fn rfl) ?_
      refine SafeOps.nil ?_
      repeat (first | refine Safe.seq ?_ | refine Safe.skip ?_ | with_reducible refine thenQ.n ?_ | with_reducible refine blockQ.n ?_)
      exact ⟨_, next_out h, (.cov ⟨rfl, rfl, (upT_cons (.refl _) (upT_cons (.refl _) (upT_cons (.refl _) (upT_cons (.refl _) (upT_cons (.refl _) upT_nil))))), (upOb_cons rfl (.refl _) upOb_nil), upOut_nil, rfl⟩)⟩
    · skip
      refine Safe.condN rfl hc1894 ?_
      repeat (first | refine Safe.seq ?_ | refine Safe.skip ?_ | with_reducible refine thenQ.n ?_ | with_reducible refine blockQ.n ?_)
      refine Safe.exit ?_
      repeat (first | with_reducible refine thenQ.e ?_ | with_reducible refine blockQ.x rfl ?_ | with_reducible refine blockQ.y rfl ?_)
      replace h := inr_out h hr1893
      repeat (first | refine Safe.seq ?_ | refine Safe.skip ?_ | with_reducible refine thenQ.n ?_ | with_reducible refine blockQ.n ?_)
      refine Safe.region ?_
      refine SafeOps.quiet0 E_good rfl rfl rfl (v := V.ref [21] 0 (rws api_Tenant.cells v6_1891).length) (.fn rfl) ?_
      refine bindG h ?_
      intro x_1898 he1899 h
      refine SafeOps.quiet0 E_good rfl rfl rfl (v := V.int .i64 x_1898) (.callS rfl (.cons (.full rfl rfl) .nil) (go_lodge_Check_sc v6_1891 _ he1899) (.plain rfl) rfl) ?_
      refine SafeOps.quiet0 E_good rfl rfl rfl (v := V.int .i64 x_1898) (.fn rfl) ?_
      refine SafeOps.nil ?_
      repeat (first | refine Safe.seq ?_ | refine Safe.skip ?_ | with_reducible refine thenQ.n ?_ | with_reducible refine blockQ.n ?_)
      refine Safe.region ?_
      refine SafeOps.quiet0 E_good rfl rfl rfl (v := V.int .i64 x_1898) (.fn rfl) ?_
      refine SafeOps.quiet0 E_good rfl rfl rfl (v := V.bool (x_1898 != 0)) (.fn rfl) ?_
      refine SafeOps.nil ?_
      repeat (first | refine Safe.seq ?_ | refine Safe.skip ?_ | with_reducible refine thenQ.n ?_ | with_reducible refine blockQ.n ?_)
      refine ifG h (fun hc1900 h => ?_) (fun hc1900 h => ?_)
      · skip
        refine Safe.condK rfl hc1900 ?_
        repeat (first | refine Safe.seq ?_ | refine Safe.skip ?_ | with_reducible refine thenQ.n ?_ | with_reducible refine blockQ.n ?_)
        refine Safe.region ?_
        refine SafeOps.quiet0 E_good rfl rfl rfl (v := V.int .i64 x_1898) (.fn rfl) ?_
        refine SafeOps.quiet0 E_good rfl rfl rfl (v := V.nils) (.fn rfl) ?_
        refine SafeOps.quiet0 E_good rfl rfl rfl (v := V.int .i64 x_1898) (.fn rfl) ?_
        refine SafeOps.nil ?_
        repeat (first | refine Safe.seq ?_ | refine Safe.skip ?_ | with_reducible refine thenQ.n ?_ | with_reducible refine blockQ.n ?_)
        refine Safe.ret ?_
        repeat (first | with_reducible refine thenQ.r ?_ | with_reducible refine blockQ.r ?_)
        obtain rfl := Option.some.inj h
        exact retQ.gen (vs := [V.nils, V.int .i64 x_1898]) rfl (.tmp (v := V.nils) rfl (.tmp (v := V.int .i64 x_1898) rfl .nil)) (by exact (.tup (.cons (.nils _) (.cons (.free rfl) .nil)))) (by simp) (.inr rfl)
      · skip
        refine Safe.condN rfl hc1900 ?_
        repeat (first | refine Safe.seq ?_ | refine Safe.skip ?_ | with_reducible refine thenQ.n ?_ | with_reducible refine blockQ.n ?_)
        refine Safe.region ?_
        refine SafeOps.quiet0 E_good rfl rfl rfl (v := V.ref [21] 0 (rws api_Tenant.cells v6_1891).length) (.fn rfl) ?_
        refine SafeOps.quiet0 E_good rfl rfl rfl (v := V.ref [21] 0 (rws api_Tenant.cells v6_1891).length) (.fn rfl) ?_
        refine SafeOps.quiet0 E_good rfl rfl rfl (v := V.int .i64 0) (.fn rfl) ?_
        refine SafeOps.nil ?_
        repeat (first | refine Safe.seq ?_ | refine Safe.skip ?_ | with_reducible refine thenQ.n ?_ | with_reducible refine blockQ.n ?_)
        refine Safe.ret ?_
        repeat (first | with_reducible refine thenQ.r ?_ | with_reducible refine blockQ.r ?_)
        obtain rfl := Option.some.inj h
        exact retQ.gen (vs := [V.ref [21] 0 (rws api_Tenant.cells v6_1891).length, V.int .i64 0]) rfl (.tmp (v := V.ref [21] 0 (rws api_Tenant.cells v6_1891).length) rfl (.tmp (v := V.int .i64 0) rfl .nil)) (by exact (.tup (.cons (.own rfl rfl) (.cons (.free rfl) .nil)))) (by simp) (.inr rfl)

@[ext] structure api_Sem where
  Free : Int
  Wait : List Int
  deriving Inhabited
def api_Sem.cells (x : api_Sem) : List V := [V.int .i64 x.Free, V.sl 1 (rws (fun n => [V.int .i64 n]) x.Wait)]
def api_Sem.zero : api_Sem := ⟨0, []⟩

def go_sema_New (a0_1911 : Int) : api_Sem × Int :=
  if ((decide (a0_1911 < 0)) || (decide (a0_1911 > 1000))) = true then
    (api_Sem.zero, 1)
  else
    ((api_Sem.mk a0_1911 []), 0)

theorem go_sema_New_sc (a0_1911 : Int) (r : api_Sem × Int) (h : go_sema_New a0_1911 = r) : SC Try.prog gl 36 [V.int .i64 a0_1911] (V.tup [V.agg [V.int .i64 r.1.Free, V.own 1 (rws (fun n => [V.int .i64 n]) r.1.Wait)], V.int .i64 r.2]) := by
  rw [go_sema_New] at h
  refine SC.of E_good Try.func36 rfl (fun _ _ => Try.call36 _ _) rfl ?_
  repeat (first | refine Safe.seq ?_ | refine Safe.skip ?_ | with_reducible refine thenQ.n ?_ | with_reducible refine blockQ.n ?_)
  refine Safe.region ?_
  refine SafeOps.quiet1 E_good rfl rfl rfl (.alloc rfl rfl) rfl ?_
  refine SafeOps.quiet0 E_good rfl rfl rfl (v := V.int .i64 0) (.fn rfl) ?_
  refine SafeOps.nil ?_
  repeat (first | refine Safe.seq ?_ | refine Safe.skip ?_ | with_reducible refine thenQ.n ?_ | with_reducible refine blockQ.n ?_)
  refine Safe.region ?_
  refine SafeOps.quiet0 E_good rfl rfl rfl (v := V.int .i64 a0_1911) (.fn rfl) ?_
  refine SafeOps.quiet0 E_good rfl rfl rfl (v := V.bool (decide (a0_1911 < 0))) (.fn rfl) ?_
  refine SafeOps.quiet0 E_good rfl rfl rfl (v := V.bool (decide (a0_1911 < 0))) (.fn rfl) ?_
  refine SafeOps.bjoin 3 9 (b := ((decide (a0_1911 < 0)) || (decide (a0_1911 > 1000)))) (b1 := true) (b0 := decide (a0_1911 > 1000)) (fun hc1914 K => ?_) (fun hc1914 K => ?_) bj_or ?_
  · skip
    refine SafeOps.skip (congrArg (fun b => some (!b)) hc1914) rfl rfl ?_
    refine SafeOps.skip (congrArg (fun b => some (!b)) hc1914) rfl rfl ?_
    refine SafeOps.quiet0 E_good rfl rfl rfl (v := V.bool true) (.pickK rfl hc1914 rfl) ?_
    exact SafeOps.drop' 3 rfl rfl rfl K
  · skip
    refine SafeOps.quiet0 E_good (congrArg (fun b => some (!b)) hc1914) rfl rfl (v := V.int .i64 a0_1911) (.fn rfl) ?_
    refine SafeOps.quiet0 E_good (congrArg (fun b => some (!b)) hc1914) rfl rfl (v := V.bool (decide (a0_1911 > 1000))) (.fn rfl) ?_
    refine SafeOps.quiet0 E_good rfl rfl rfl (v := V.bool (decide (a0_1911 > 1000))) (.pickK rfl hc1914 rfl) ?_
    exact SafeOps.drop' 3 rfl rfl rfl K
  refine SafeOps.nil ?_
  repeat (first | refine Safe.seq ?_ | refine Safe.skip ?_ | with_reducible refine thenQ.n ?_ | with_reducible refine blockQ.n ?_)
  refine ifG h (fun hc1915 h => ?_) (fun hc1915 h => ?_)
  · skip
    refine Safe.condK rfl hc1915 ?_
    repeat (first | refine Safe.seq ?_ | refine Safe.skip ?_ | with_reducible refine thenQ.n ?_ | with_reducible refine blockQ.n ?_)
    refine Safe.region ?_
    refine SafeOps.quiet0 E_good rfl rfl rfl (v := V.agg [V.int .i64 0, V.nils]) (.fn rfl) ?_
    refine SafeOps.store (z := Obj.box [V.int .i64 0, V.nils]) E_good rfl rfl rfl rfl rfl rfl rfl (.boxM (c := 2) rfl rfl (Nat.le_of_ble_eq_true rfl) rfl) ?_
    refine SafeOps.quiet0 E_good rfl rfl rfl (v := V.int .i64 1) (.fn rfl) ?_
    refine SafeOps.nil ?_
    repeat (first | refine Safe.seq ?_ | refine Safe.skip ?_ | with_reducible refine thenQ.n ?_ | with_reducible refine blockQ.n ?_)
    refine Safe.ret ?_
    repeat (first | with_reducible refine thenQ.r ?_ | with_reducible refine blockQ.r ?_)
    obtain rfl := h
    exact retQ.gen (vs := [V.agg [V.int .i64 0, V.nils], V.int .i64 1]) rfl (.cell (v := V.agg [V.int .i64 0, V.nils]) rfl rfl (.box rfl rfl) rfl (.tmp (v := V.int .i64 1) rfl .nil)) (by exact (.tup (.cons (.agg (.cons (.free rfl) (.cons (.nils _) .nil))) (.cons (.free rfl) .nil)))) (by simp) (.inr rfl)
  · skip
    refine Safe.condN rfl hc1915 ?_
    repeat (first | refine Safe.seq ?_ | refine Safe.skip ?_ | with_reducible refine thenQ.n ?_ | with_reducible refine blockQ.n ?_)
    refine Safe.region ?_
    refine SafeOps.quiet0 E_good rfl rfl rfl (v := V.int .i64 a0_1911) (.fn rfl) ?_
    refine SafeOps.quiet0 E_good rfl rfl rfl (v := V.agg [V.int .i64 a0_1911, V.nils]) (.fn rfl) ?_
    refine SafeOps.store (z := Obj.box [V.int .i64 a0_1911, V.nils]) E_good rfl rfl rfl rfl rfl rfl rfl (.boxM (c := 2) rfl rfl (Nat.le_of_ble_eq_true rfl) rfl) ?_
    refine SafeOps.quiet0 E_good rfl rfl rfl (v := V.int .i64 0) (.fn rfl) ?_
    refine SafeOps.nil ?_
    repeat (first | refine Safe.seq ?_ | refine Safe.skip ?_ | with_reducible refine thenQ.n ?_ | with_reducible refine blockQ.n ?_)
    refine Safe.ret ?_
    repeat (first | with_reducible refine thenQ.r ?_ | with_reducible refine blockQ.r ?_)
    obtain rfl := h
    exact retQ.gen (vs := [V.agg [V.int .i64 a0_1911, V.nils], V.int .i64 0]) rfl (.cell (v := V.agg [V.int .i64 a0_1911, V.nils]) rfl rfl (.box rfl rfl) rfl (.tmp (v := V.int .i64 0) rfl .nil)) (by exact (.tup (.cons (.agg (.cons (.free rfl) (.cons (.nils _) .nil))) (.cons (.free rfl) .nil)))) (by simp) (.inr rfl)

def go_entry_Config_1 (a0_1910 : Int) : Bool :=
  letO (go_sema_New a0_1910) fun (x_1919, x_1920) =>
  (x_1920 != 0)

theorem go_entry_Config_1_sc (a0_1910 : Int) (r : Bool) (h : go_entry_Config_1 a0_1910 = r) : SC Try.prog gl 35 [V.int .i64 a0_1910] (V.bool r) := by
  rw [go_entry_Config_1] at h
  refine SC.of E_good Try.func35 rfl (fun _ _ => Try.call35 _ _) rfl ?_
  repeat (first | refine Safe.seq ?_ | refine Safe.skip ?_ | with_reducible refine thenQ.n ?_ | with_reducible refine blockQ.n ?_)
  refine Safe.region ?_
  refine SafeOps.quiet0 E_good rfl rfl rfl (v := V.bool false) (.fn rfl) ?_
  refine SafeOps.nil ?_
  repeat (first | refine Safe.seq ?_ | refine Safe.skip ?_ | with_reducible refine thenQ.n ?_ | with_reducible refine blockQ.n ?_)
  refine Safe.region ?_
  refine SafeOps.quiet0 E_good rfl rfl rfl (v := V.int .i64 a0_1910) (.fn rfl) ?_
  refine letG h ?_
  rintro ⟨x_1919, x_1920⟩ he1921 h
  refine SafeOps.quiet E_good rfl rfl rfl (v := V.tup [V.agg [V.int .i64 x_1919.Free, V.ref [7, 0] 0 (rws (fun n => [V.int .i64 n]) x_1919.Wait).length], V.int .i64 x_1920]) (.callP rfl rfl (go_sema_New_sc a0_1910 _ he1921) rfl) rfl ?_
  refine SafeOps.quiet0 E_good rfl rfl rfl (v := V.tup [V.agg [V.int .i64 x_1919.Free, V.ref [7, 0] 0 (rws (fun n => [V.int .i64 n]) x_1919.Wait).length], V.int .i64 x_1920]) (.fn rfl) ?_
  refine SafeOps.quiet0 E_good rfl rfl rfl (v := V.agg [V.int .i64 x_1919.Free, V.ref [7, 0] 0 (rws (fun n => [V.int .i64 n]) x_1919.Wait).length]) (.fn rfl) ?_
  refine SafeOps.quiet0 E_good rfl rfl rfl (v := V.int .i64 x_1920) (.fn rfl) ?_
  refine SafeOps.quiet1 E_good rfl rfl rfl (.alloc rfl rfl) rfl ?_
  refine SafeOps.store (z := Obj.box [V.int .i64 x_1919.Free, V.ref [7, 0] 0 (rws (fun n => [V.int .i64 n]) x_1919.Wait).length]) E_good rfl rfl rfl rfl rfl rfl rfl (.boxM (c := 2) rfl rfl (Nat.le_of_ble_eq_true rfl) rfl) ?_
  refine SafeOps.quiet0 E_good rfl rfl rfl (v := V.int .i64 x_1920) (.fn rfl) ?_
  refine SafeOps.nil ?_
  repeat (first | refine Safe.seq ?_ | refine Safe.skip ?_ | with_reducible refine thenQ.n ?_ | with_reducible refine blockQ.n ?_)
  refine Safe.region ?_
  refine SafeOps.quiet0 E_good rfl rfl rfl (v := V.int .i64 x_1920) (.fn rfl) ?_
  refine SafeOps.quiet0 E_good rfl rfl rfl (v := V.bool (x_1920 != 0)) (.fn rfl) ?_
  refine SafeOps.quiet0 E_good rfl rfl rfl (v := V.bool (x_1920 != 0)) (.fn rfl) ?_
  refine SafeOps.nil ?_
  repeat (first | refine Safe.seq ?_ | refine Safe.skip ?_ | with_reducible refine thenQ.n ?_ | with_reducible refine blockQ.n ?_)
  refine Safe.ret ?_
  repeat (first | with_reducible refine thenQ.r ?_ | with_reducible refine blockQ.r ?_)
  obtain rfl := h
  exact retQ.gen (vs := [V.bool (x_1920 != 0)]) rfl (.tmp (v := V.bool (x_1920 != 0)) rfl .nil) (.free rfl) (by simp) (.inr rfl)

noncomputable def go_slices_IndexFunc_int_int_135_s1 (a0_1906 : List Int) : (Int) → Option ((Int) ⊕ (Int))
  | v8_1939 =>
    if (decide (v8_1939 < (a0_1906.length : Int))) = true then
      if 0 ≤ v8_1939 ∧ v8_1939 < (a0_1906.length : Int) then
        if (go_entry_Config_1 (gt a0_1906 v8_1939)) = true then
          inrO (
            some v8_1939)
        else
          nextO (IntKind.i64.wrap (v8_1939 + 1))
      else none
    else
      inrO (
        some (-1))

noncomputable def go_slices_IndexFunc_int_int_135 (a0_1906 : List Int) : Option Int :=
  whileO (go_slices_IndexFunc_int_int_135_s1 a0_1906) 0

theorem go_slices_IndexFunc_int_int_135_sc (a0_1906 : List Int) (r : Int) (h : go_slices_IndexFunc_int_int_135 a0_1906 = some r) : SC Try.prog gl 54 [V.sl 1 (rws (fun n => [V.int .i64 n]) a0_1906), V.fn 35 []] (V.int .i64 r) := by
  rw [go_slices_IndexFunc_int_int_135] at h
  refine SC.of E_good Try.func54 rfl (fun _ _ => Try.call54 _ _) rfl ?_
  repeat (first | refine Safe.seq ?_ | refine Safe.skip ?_ | with_reducible refine thenQ.n ?_ | with_reducible refine blockQ.n ?_)
  refine Safe.region ?_
  refine SafeOps.quiet0 E_good rfl rfl rfl (v := V.int .i64 0) (.fn rfl) ?_
  refine SafeOps.nil ?_
  repeat (first | refine Safe.seq ?_ | refine Safe.skip ?_ | with_reducible refine thenQ.n ?_ | with_reducible refine blockQ.n ?_)
  refine Safe.region ?_
  refine SafeOps.quiet0 E_good rfl rfl rfl (v := V.sl 1 (rws (fun n => [V.int .i64 n]) a0_1906)) (.fn rfl) ?_
  refine SafeOps.quiet0 E_good rfl rfl rfl (v := V.int .i64 (a0_1906.length : Int)) (.fnE rfl lenE) ?_
  refine SafeOps.quiet0 E_good rfl rfl rfl (v := V.int .i64 0) (.fn rfl) ?_
  refine SafeOps.nil ?_
  repeat (first | refine Safe.seq ?_ | refine Safe.skip ?_ | with_reducible refine thenQ.n ?_ | with_reducible refine blockQ.n ?_)
  refine Safe.block ?_
  repeat (first | refine Safe.seq ?_ | refine Safe.skip ?_ | with_reducible refine thenQ.n ?_ | with_reducible refine blockQ.n ?_)
  refine Safe.loopW (fun (v8_1939 : Int) => ⟨Try.f54.ntmps, [(0, V.sl 1 (rws (fun n => [V.int .i64 n]) a0_1906)), (1, V.fn 35 []), (7, V.int .i64 (a0_1906.length : Int)), (8, V.int .i64 v8_1939)], [], [], []⟩) h (.cov ⟨rfl, rfl, (upT_cons (.refl _) (upT_cons (.refl _) (upT_cons (.refl _) (upT_cons (.refl _) upT_nil)))), upOb_nil, upOut_nil, rfl⟩) ?_
  intro v8_1939 ohr1940 h hr1940
  replace h : go_slices_IndexFunc_int_int_135_s1 a0_1906 v8_1939 = some ohr1940 := h
  rw [go_slices_IndexFunc_int_int_135_s1] at h
  repeat (first | refine Safe.seq ?_ | refine Safe.skip ?_ | with_reducible refine thenQ.n ?_ | with_reducible refine blockQ.n ?_)
  refine Safe.region ?_
  refine SafeOps.quiet0 E_good rfl rfl rfl (v := V.bool (decide (v8_1939 < (a0_1906.length : Int)))) (.fn rfl) ?_
  refine SafeOps.nil ?_
  repeat (first | refine Safe.seq ?_ | refine Safe.skip ?_ | with_reducible refine thenQ.n ?_ | with_reducible refine blockQ.n ?_)
  refine ifG h (fun hc1941 h => ?_) (fun hc1941 h => ?_)
  · skip
    refine Safe.condK rfl hc1941 ?_
    repeat (first | refine Safe.seq ?_ | refine Safe.skip ?_ | with_reducible refine thenQ.n ?_ | with_reducible refine blockQ.n ?_)
    refine Safe.block ?_
    repeat (first | refine Safe.seq ?_ | refine Safe.skip ?_ | with_reducible refine thenQ.n ?_ | with_reducible refine blockQ.n ?_)
    refine Safe.region ?_
    refine SafeOps.quiet0 E_good rfl rfl rfl (v := V.int .i64 v8_1939) (.fn rfl) ?_
    refine SafeOps.quiet0 E_good rfl rfl rfl (v := V.int .i64 v8_1939) (.fn rfl) ?_
    refine SafeOps.nil ?_
    repeat (first | refine Safe.seq ?_ | refine Safe.skip ?_ | with_reducible refine thenQ.n ?_ | with_reducible refine blockQ.n ?_)
    refine Safe.region ?_
    refine SafeOps.quiet0 E_good rfl rfl rfl (v := V.fn 35 []) (.fn rfl) ?_
    refine SafeOps.quiet0 E_good rfl rfl rfl (v := V.sl 1 (rws (fun n => [V.int .i64 n]) a0_1906)) (.fn rfl) ?_
    refine SafeOps.quiet0 E_good rfl rfl rfl (v := V.int .i64 v8_1939) (.fn rfl) ?_
    refine okG h (fun hb1942 h => ?_)
    refine SafeOps.quiet0 E_good rfl rfl rfl (v := V.spt 1 (rws (fun n => [V.int .i64 n]) a0_1906) (Int.toNat v8_1939) 0) (.idxSlM (f := (fun n => [V.int .i64 n])) rfl rfl rfl rfl rfl hb1942) ?_
    refine SafeOps.quiet0 E_good rfl rfl rfl (v := V.int .i64 (gt a0_1906 v8_1939)) (.load rfl rfl (.sptM (f := (fun n => [V.int .i64 n])) hb1942 rfl) rfl) ?_
    refine SafeOps.quiet0 E_good rfl rfl rfl (v := V.bool (go_entry_Config_1 (gt a0_1906 v8_1939))) (.callP rfl rfl (go_entry_Config_1_sc (gt a0_1906 v8_1939) _ rfl) rfl) ?_
    refine SafeOps.nil ?_
    repeat (first | refine Safe.seq ?_ | refine Safe.skip ?_ | with_reducible refine thenQ.n ?_ | with_reducible refine blockQ.n ?_)
    refine ifG h (fun hc1943 h => ?_) (fun hc1943 h => ?_)
    · skip
      refine Safe.condK rfl hc1943 ?_
      repeat (first | refine Safe.seq ?_ | refine Safe.skip ?_ | with_reducible refine thenQ.n ?_ | with_reducible refine blockQ.n ?_)
      refine Safe.region ?_
      refine SafeOps.quiet0 E_good rfl rfl rfl (v := V.int .i64 v8_1939) (.fn rfl) ?_
      refine SafeOps.quiet0 E_good rfl rfl rfl (v := V.int .i64 v8_1939) (.fn rfl) ?_
      refine SafeOps.nil ?_
      repeat (first | refine Safe.seq ?_ | refine Safe.skip ?_ | with_reducible refine thenQ.n ?_ | with_reducible refine blockQ.n ?_)
      refine Safe.ret ?_
      repeat (first | with_reducible refine thenQ.r ?_ | with_reducible refine blockQ.r ?_)
      replace h := inr_out h hr1940
      obtain rfl := Option.some.inj h
      exact retQ.gen (vs := [V.int .i64 v8_1939]) rfl (.tmp (v := V.int .i64 v8_1939) rfl .nil) (.free rfl) (by simp) (.inr rfl)
    · skip
      refine Safe.condN rfl hc1943 ?_
      repeat (first | refine Safe.seq ?_ | refine Safe.skip ?_ | with_reducible refine thenQ.n ?_ | with_reducible refine blockQ.n ?_)
      refine Safe.region ?_
      refine SafeOps.quiet0 E_good rfl rfl rfl (v := V.int .i64 (IntKind.i64.wrap (v8_1939 + 1))) (.fn rfl) ?_
      refine SafeOps.quiet0 E_good rfl rfl rfl (v := V.int .i64 (IntKind.i64.wrap (v8_1939 + 1))) (.fn rfl) ?_
      refine SafeOps.nil ?_
      repeat (first | refine Safe.seq ?_ | refine Safe.skip ?_ | with_reducible refine thenQ.n ?_ | with_reducible refine blockQ.n ?_)
      exact ⟨_, next_out h, (.cov ⟨rfl, rfl, (upT_cons (.refl _) (upT_cons (.refl _) (upT_cons (.refl _) (upT_cons (.refl _) upT_nil)))), upOb_nil, upOut_nil, rfl⟩)⟩
  · skip
    refine Safe.condN rfl hc1941 ?_
    repeat (first | refine Safe.seq ?_ | refine Safe.skip ?_ | with_reducible refine thenQ.n ?_ | with_reducible refine blockQ.n ?_)
    refine Safe.exit ?_
    repeat (first | with_reducible refine thenQ.e ?_ | with_reducible refine blockQ.x rfl ?_ | with_reducible refine blockQ.y rfl ?_)
    replace h := inr_out h hr1940
    repeat (first | refine Safe.seq ?_ | refine Safe.skip ?_ | with_reducible refine thenQ.n ?_ | with_reducible refine blockQ.n ?_)
    refine Safe.region ?_
    refine SafeOps.quiet0 E_good rfl rfl rfl (v := V.int .i64 (-1)) (.fn rfl) ?_
    refine SafeOps.nil ?_
    repeat (first | refine Safe.seq ?_ | refine Safe.skip ?_ | with_reducible refine thenQ.n ?_ | with_reducible refine blockQ.n ?_)
    refine Safe.ret ?_
    repeat (first | with_reducible refine thenQ.r ?_ | with_reducible refine blockQ.r ?_)
    obtain rfl := Option.some.inj h
    exact retQ.gen (vs := [V.int .i64 (-1)]) rfl (.tmp (v := V.int .i64 (-1)) rfl .nil) (.free rfl) (by simp) (.inr rfl)

noncomputable def go_slices_ContainsFunc_int_int_135 (a0_1905 : List Int) : Option Bool :=
  (go_slices_IndexFunc_int_int_135 a0_1905).bind fun x_1946 =>
  some (decide (x_1946 ≥ 0))

theorem go_slices_ContainsFunc_int_int_135_sc (a0_1905 : List Int) (r : Bool) (h : go_slices_ContainsFunc_int_int_135 a0_1905 = some r) : SC Try.prog gl 38 [V.sl 1 (rws (fun n => [V.int .i64 n]) a0_1905), V.fn 35 []] (V.bool r) := by
  rw [go_slices_ContainsFunc_int_int_135] at h
  refine SC.of E_good Try.func38 rfl (fun _ _ => Try.call38 _ _) rfl ?_
  repeat (first | refine Safe.seq ?_ | refine Safe.skip ?_ | with_reducible refine thenQ.n ?_ | with_reducible refine blockQ.n ?_)
  refine Safe.region ?_
  refine SafeOps.quiet0 E_good rfl rfl rfl (v := V.bool false) (.fn rfl) ?_
  refine SafeOps.nil ?_
  repeat (first | refine Safe.seq ?_ | refine Safe.skip ?_ | with_reducible refine thenQ.n ?_ | with_reducible refine blockQ.n ?_)
  refine Safe.region ?_
  refine SafeOps.quiet0 E_good rfl rfl rfl (v := V.sl 1 (rws (fun n => [V.int .i64 n]) a0_1905)) (.fn rfl) ?_
  refine SafeOps.quiet0 E_good rfl rfl rfl (v := V.fn 35 []) (.fn rfl) ?_
  refine bindG h ?_
  intro x_1946 he1947 h
  refine SafeOps.quiet0 E_good rfl rfl rfl (v := V.int .i64 x_1946) (.callP rfl rfl (go_slices_IndexFunc_int_int_135_sc a0_1905 _ he1947) rfl) ?_
  refine SafeOps.quiet0 E_good rfl rfl rfl (v := V.bool (decide (x_1946 ≥ 0))) (.fn rfl) ?_
  refine SafeOps.quiet0 E_good rfl rfl rfl (v := V.bool (decide (x_1946 ≥ 0))) (.fn rfl) ?_
  refine SafeOps.nil ?_
  repeat (first | refine Safe.seq ?_ | refine Safe.skip ?_ | with_reducible refine thenQ.n ?_ | with_reducible refine blockQ.n ?_)
  refine Safe.ret ?_
  repeat (first | with_reducible refine thenQ.r ?_ | with_reducible refine blockQ.r ?_)
  obtain rfl := Option.some.inj h
  exact retQ.gen (vs := [V.bool (decide (x_1946 ≥ 0))]) rfl (.tmp (v := V.bool (decide (x_1946 ≥ 0))) rfl .nil) (.free rfl) (by simp) (.inr rfl)

noncomputable def go_entry_Config_j13 (a0_1154 : api_Config) (v8_2281 : Int) (v8_2300 : Int) (v13_2308 : Bool) : Option ((Int) ⊕ ((Int) ⊕ (Int))) :=
  if v13_2308 = true then
    if (decide (((gt (gt a0_1154.Progs v8_2281) v8_2300).A) ≥ (a0_1154.Sems.length : Int))) = true then
      inrO (
        if (decide (v8_2300 ≥ 0)) = true then
          inrO (
            if (decide (v8_2281 ≥ 0)) = true then
              some 1
            else
              some 0)
        else
          nextO (IntKind.i64.wrap (v8_2281 + 1)))
    else
      nextO (IntKind.i64.wrap (v8_2300 + 1))
  else
    nextO (IntKind.i64.wrap (v8_2300 + 1))

noncomputable def go_entry_Config_s12 (a0_1154 : api_Config) (v8_2281 : Int) : (Int) → Option ((Int) ⊕ ((Int) ⊕ (Int)))
  | v8_2300 =>
    if (decide (v8_2300 < ((gt a0_1154.Progs v8_2281).length : Int))) = true then
      if 0 ≤ v8_2300 ∧ v8_2300 < ((gt a0_1154.Progs v8_2281).length : Int) then
        if (((gt (gt a0_1154.Progs v8_2281) v8_2300).Op) == 5) = true then
          if (decide (((gt (gt a0_1154.Progs v8_2281) v8_2300).A) ≥ a0_1154.Fds)) = true then
            inrO (
              if (decide (v8_2300 ≥ 0)) = true then
                inrO (
                  if (decide (v8_2281 ≥ 0)) = true then
                    some 1
                  else
                    some 0)
              else
                nextO (IntKind.i64.wrap (v8_2281 + 1)))
          else
            nextO (IntKind.i64.wrap (v8_2300 + 1))
        else
          if (((gt (gt a0_1154.Progs v8_2281) v8_2300).Op) == 7) = true then
            go_entry_Config_j13 a0_1154 v8_2281 v8_2300 (((gt (gt a0_1154.Progs v8_2281) v8_2300).Op) == 7)
          else
            go_entry_Config_j13 a0_1154 v8_2281 v8_2300 (((gt (gt a0_1154.Progs v8_2281) v8_2300).Op) == 8)
      else none
    else
      inrO (
        nextO (IntKind.i64.wrap (v8_2281 + 1)))

noncomputable def go_entry_Config_s9 (a0_1154 : api_Config) : (Int) → Option ((Int) ⊕ (Int))
  | v8_2281 =>
    if (decide (v8_2281 < (a0_1154.Progs.length : Int))) = true then
      if 0 ≤ v8_2281 ∧ v8_2281 < (a0_1154.Progs.length : Int) then
        whileO (go_entry_Config_s12 a0_1154 v8_2281) 0
      else none
    else
      inrO (
        some 0)

noncomputable def go_entry_Config (a0_1154 : api_Config) : Option Int :=
  if (((!(((((go_entry_within a0_1154.Workers 1 64) && (go_entry_within a0_1154.Cap 1 1024)) && (go_entry_within a0_1154.Budget 1 100)) && (go_entry_within a0_1154.Tasks 1 256)) && (go_entry_within a0_1154.Fds 0 16))) || (decide ((IntKind.i64.wrap (a0_1154.Workers * (IntKind.i64.wrap (a0_1154.Cap + 2)))) > 65536))) || (decide ((a0_1154.Sems.length : Int) > 8))) = true then
    some 1
  else
    (go_code_CheckAll a0_1154.Progs).bind fun x_2129 =>
    if (x_2129 != 0) = true then
      some 1
    else
      (go_lodge_New a0_1154.Weights a0_1154.Quotas).bind fun (x_2132, x_2133) =>
      if (x_2133 != 0) = true then
        some 1
      else
        (go_slices_ContainsFunc_int_int_135 a0_1154.Sems).bind fun x_2136 =>
        if x_2136 = true then
          some 1
        else
          whileO (go_entry_Config_s9 a0_1154) 0

theorem go_entry_Config_sc (a0_1154 : api_Config) (r : Int) (h : go_entry_Config a0_1154 = some r) : SC Try.prog gl 21 [V.agg [V.int .i64 a0_1154.Workers, V.int .i64 a0_1154.Cap, V.int .i64 a0_1154.Budget, V.sl 1 (rws (fun n => [V.int .i64 n]) a0_1154.Weights), V.sl 1 (rws (fun n => [V.int .i64 n]) a0_1154.Quotas), V.sl 1 (rws (fun l => [V.sl 3 (rws api_Instr.cells l)]) a0_1154.Progs), V.int .i64 a0_1154.Tasks, V.int .i64 a0_1154.Fds, V.sl 1 (rws (fun n => [V.int .i64 n]) a0_1154.Sems)]] (V.int .i64 r) := by
  rw [go_entry_Config] at h
  refine SC.of E_good Try.func21 rfl (fun _ _ => Try.call21 _ _) rfl ?_
  repeat (first | refine Safe.seq ?_ | refine Safe.skip ?_ | with_reducible refine thenQ.n ?_ | with_reducible refine blockQ.n ?_)
  refine Safe.region ?_
  refine SafeOps.quiet1 E_good rfl rfl rfl (.box rfl rfl) rfl ?_
  refine SafeOps.quiet0 E_good rfl rfl rfl (v := V.int .i64 0) (.fn rfl) ?_
  refine SafeOps.nil ?_
  repeat (first | refine Safe.seq ?_ | refine Safe.skip ?_ | with_reducible refine thenQ.n ?_ | with_reducible refine blockQ.n ?_)
  refine Safe.region ?_
  refine SafeOps.quiet0 E_good rfl rfl rfl (v := V.ptr [1] 0 0) (.fn rfl) ?_
  refine SafeOps.quiet0 E_good rfl rfl rfl (v := V.int .i64 a0_1154.Workers) (.load rfl rfl (.box rfl rfl) rfl) ?_
  refine SafeOps.quiet0 E_good rfl rfl rfl (v := V.bool (go_entry_within a0_1154.Workers 1 64)) (.callP rfl rfl (go_entry_within_sc a0_1154.Workers 1 64 _ rfl) rfl) ?_
  refine SafeOps.quiet0 E_good rfl rfl rfl (v := V.bool (go_entry_within a0_1154.Workers 1 64)) (.fn rfl) ?_
  refine SafeOps.bjoin 4 15 (b := ((go_entry_within a0_1154.Workers 1 64) && (go_entry_within a0_1154.Cap 1 1024))) (b1 := go_entry_within a0_1154.Cap 1 1024) (b0 := false) (fun hc2120 K => ?_) (fun hc2120 K => ?_) bj_and ?_
  · skip
    refine SafeOps.quiet0 E_good (congrArg some hc2120) rfl rfl (v := V.ptr [1] 0 1) (.fn rfl) ?_
    refine SafeOps.quiet0 E_good (congrArg some hc2120) rfl rfl (v := V.int .i64 a0_1154.Cap) (.load rfl rfl (.box rfl rfl) rfl) ?_
    refine SafeOps.quiet0 E_good (congrArg some hc2120) rfl rfl (v := V.bool (go_entry_within a0_1154.Cap 1 1024)) (.callP rfl rfl (go_entry_within_sc a0_1154.Cap 1 1024 _ rfl) rfl) ?_
    refine SafeOps.quiet0 E_good rfl rfl rfl (v := V.bool (go_entry_within a0_1154.Cap 1 1024)) (.pickK rfl hc2120 rfl) ?_
    exact SafeOps.drop' 4 rfl rfl rfl K
  · skip
    refine SafeOps.skip (congrArg some hc2120) rfl rfl ?_
    refine SafeOps.skip (congrArg some hc2120) rfl rfl ?_
    refine SafeOps.skip (congrArg some hc2120) rfl rfl ?_
    refine SafeOps.quiet0 E_good rfl rfl rfl (v := V.bool false) (.pickK rfl hc2120 rfl) ?_
    exact SafeOps.drop' 4 rfl rfl rfl K
  refine SafeOps.quiet0 E_good rfl rfl rfl (v := V.bool ((go_entry_within a0_1154.Workers 1 64) && (go_entry_within a0_1154.Cap 1 1024))) (.fn rfl) ?_
  refine SafeOps.bjoin 4 20 (b := (((go_entry_within a0_1154.Workers 1 64) && (go_entry_within a0_1154.Cap 1 1024)) && (go_entry_within a0_1154.Budget 1 100))) (b1 := go_entry_within a0_1154.Budget 1 100) (b0 := false) (fun hc2121 K => ?_) (fun hc2121 K => ?_) bj_and ?_
  · skip
    refine SafeOps.quiet0 E_good (congrArg some hc2121) rfl rfl (v := V.ptr [1] 0 2) (.fn rfl) ?_
    refine SafeOps.quiet0 E_good (congrArg some hc2121) rfl rfl (v := V.int .i64 a0_1154.Budget) (.load rfl rfl (.box rfl rfl) rfl) ?_
    refine SafeOps.quiet0 E_good (congrArg some hc2121) rfl rfl (v := V.bool (go_entry_within a0_1154.Budget 1 100)) (.callP rfl rfl (go_entry_within_sc a0_1154.Budget 1 100 _ rfl) rfl) ?_
    refine SafeOps.quiet0 E_good rfl rfl rfl (v := V.bool (go_entry_within a0_1154.Budget 1 100)) (.pickK rfl hc2121 rfl) ?_
    exact SafeOps.drop' 4 rfl rfl rfl K
  · skip
    refine SafeOps.skip (congrArg some hc2121) rfl rfl ?_
    refine SafeOps.skip (congrArg some hc2121) rfl rfl ?_
    refine SafeOps.skip (congrArg some hc2121) rfl rfl ?_
    refine SafeOps.quiet0 E_good rfl rfl rfl (v := V.bool false) (.pickK rfl hc2121 rfl) ?_
    exact SafeOps.drop' 4 rfl rfl rfl K
  refine SafeOps.quiet0 E_good rfl rfl rfl (v := V.bool (((go_entry_within a0_1154.Workers 1 64) && (go_entry_within a0_1154.Cap 1 1024)) && (go_entry_within a0_1154.Budget 1 100))) (.fn rfl) ?_
  refine SafeOps.bjoin 4 25 (b := ((((go_entry_within a0_1154.Workers 1 64) && (go_entry_within a0_1154.Cap 1 1024)) && (go_entry_within a0_1154.Budget 1 100)) && (go_entry_within a0_1154.Tasks 1 256))) (b1 := go_entry_within a0_1154.Tasks 1 256) (b0 := false) (fun hc2122 K => ?_) (fun hc2122 K => ?_) bj_and ?_
  · skip
    refine SafeOps.quiet0 E_good (congrArg some hc2122) rfl rfl (v := V.ptr [1] 0 6) (.fn rfl) ?_
    refine SafeOps.quiet0 E_good (congrArg some hc2122) rfl rfl (v := V.int .i64 a0_1154.Tasks) (.load rfl rfl (.box rfl rfl) rfl) ?_
    refine SafeOps.quiet0 E_good (congrArg some hc2122) rfl rfl (v := V.bool (go_entry_within a0_1154.Tasks 1 256)) (.callP rfl rfl (go_entry_within_sc a0_1154.Tasks 1 256 _ rfl) rfl) ?_
    refine SafeOps.quiet0 E_good rfl rfl rfl (v := V.bool (go_entry_within a0_1154.Tasks 1 256)) (.pickK rfl hc2122 rfl) ?_
    exact SafeOps.drop' 4 rfl rfl rfl K
  · skip
    refine SafeOps.skip (congrArg some hc2122) rfl rfl ?_
    refine SafeOps.skip (congrArg some hc2122) rfl rfl ?_
    refine SafeOps.skip (congrArg some hc2122) rfl rfl ?_
    refine SafeOps.quiet0 E_good rfl rfl rfl (v := V.bool false) (.pickK rfl hc2122 rfl) ?_
    exact SafeOps.drop' 4 rfl rfl rfl K
  refine SafeOps.quiet0 E_good rfl rfl rfl (v := V.bool ((((go_entry_within a0_1154.Workers 1 64) && (go_entry_within a0_1154.Cap 1 1024)) && (go_entry_within a0_1154.Budget 1 100)) && (go_entry_within a0_1154.Tasks 1 256))) (.fn rfl) ?_
  refine SafeOps.bjoin 4 30 (b := (((((go_entry_within a0_1154.Workers 1 64) && (go_entry_within a0_1154.Cap 1 1024)) && (go_entry_within a0_1154.Budget 1 100)) && (go_entry_within a0_1154.Tasks 1 256)) && (go_entry_within a0_1154.Fds 0 16))) (b1 := go_entry_within a0_1154.Fds 0 16) (b0 := false) (fun hc2123 K => ?_) (fun hc2123 K => ?_) bj_and ?_
  · skip
    refine SafeOps.quiet0 E_good (congrArg some hc2123) rfl rfl (v := V.ptr [1] 0 7) (.fn rfl) ?_
    refine SafeOps.quiet0 E_good (congrArg some hc2123) rfl rfl (v := V.int .i64 a0_1154.Fds) (.load rfl rfl (.box rfl rfl) rfl) ?_
    refine SafeOps.quiet0 E_good (congrArg some hc2123) rfl rfl (v := V.bool (go_entry_within a0_1154.Fds 0 16)) (.callP rfl rfl (go_entry_within_sc a0_1154.Fds 0 16 _ rfl) rfl) ?_
    refine SafeOps.quiet0 E_good rfl rfl rfl (v := V.bool (go_entry_within a0_1154.Fds 0 16)) (.pickK rfl hc2123 rfl) ?_
    exact SafeOps.drop' 4 rfl rfl rfl K
  · skip
    refine SafeOps.skip (congrArg some hc2123) rfl rfl ?_
    refine SafeOps.skip (congrArg some hc2123) rfl rfl ?_
    refine SafeOps.skip (congrArg some hc2123) rfl rfl ?_
    refine SafeOps.quiet0 E_good rfl rfl rfl (v := V.bool false) (.pickK rfl hc2123 rfl) ?_
    exact SafeOps.drop' 4 rfl rfl rfl K
  refine SafeOps.quiet0 E_good rfl rfl rfl (v := V.bool (((((go_entry_within a0_1154.Workers 1 64) && (go_entry_within a0_1154.Cap 1 1024)) && (go_entry_within a0_1154.Budget 1 100)) && (go_entry_within a0_1154.Tasks 1 256)) && (go_entry_within a0_1154.Fds 0 16))) (.fn rfl) ?_
  refine SafeOps.nil ?_
  repeat (first | refine Safe.seq ?_ | refine Safe.skip ?_ | with_reducible refine thenQ.n ?_ | with_reducible refine blockQ.n ?_)
  refine Safe.region ?_
  refine SafeOps.quiet0 E_good rfl rfl rfl (v := V.bool (((((go_entry_within a0_1154.Workers 1 64) && (go_entry_within a0_1154.Cap 1 1024)) && (go_entry_within a0_1154.Budget 1 100)) && (go_entry_within a0_1154.Tasks 1 256)) && (go_entry_within a0_1154.Fds 0 16))) (.fn rfl) ?_
  refine SafeOps.quiet0 E_good rfl rfl rfl (v := V.bool (!(((((go_entry_within a0_1154.Workers 1 64) && (go_entry_within a0_1154.Cap 1 1024)) && (go_entry_within a0_1154.Budget 1 100)) && (go_entry_within a0_1154.Tasks 1 256)) && (go_entry_within a0_1154.Fds 0 16)))) (.fn rfl) ?_
  refine SafeOps.quiet0 E_good rfl rfl rfl (v := V.bool (!(((((go_entry_within a0_1154.Workers 1 64) && (go_entry_within a0_1154.Cap 1 1024)) && (go_entry_within a0_1154.Budget 1 100)) && (go_entry_within a0_1154.Tasks 1 256)) && (go_entry_within a0_1154.Fds 0 16)))) (.fn rfl) ?_
  refine SafeOps.bjoin 8 41 (b := ((!(((((go_entry_within a0_1154.Workers 1 64) && (go_entry_within a0_1154.Cap 1 1024)) && (go_entry_within a0_1154.Budget 1 100)) && (go_entry_within a0_1154.Tasks 1 256)) && (go_entry_within a0_1154.Fds 0 16))) || (decide ((IntKind.i64.wrap (a0_1154.Workers * (IntKind.i64.wrap (a0_1154.Cap + 2)))) > 65536)))) (b1 := true) (b0 := decide ((IntKind.i64.wrap (a0_1154.Workers * (IntKind.i64.wrap (a0_1154.Cap + 2)))) > 65536)) (fun hc2124 K => ?_) (fun hc2124 K => ?_) bj_or ?_
  · skip
    refine SafeOps.skip (congrArg (fun b => some (!b)) hc2124) rfl rfl ?_
    refine SafeOps.skip (congrArg (fun b => some (!b)) hc2124) rfl rfl ?_
    refine SafeOps.skip (congrArg (fun b => some (!b)) hc2124) rfl rfl ?_
    refine SafeOps.skip (congrArg (fun b => some (!b)) hc2124) rfl rfl ?_
    refine SafeOps.skip (congrArg (fun b => some (!b)) hc2124) rfl rfl ?_
    refine SafeOps.skip (congrArg (fun b => some (!b)) hc2124) rfl rfl ?_
    refine SafeOps.skip (congrArg (fun b => some (!b)) hc2124) rfl rfl ?_
    refine SafeOps.quiet0 E_good rfl rfl rfl (v := V.bool true) (.pickK rfl hc2124 rfl) ?_
    exact SafeOps.drop' 8 rfl rfl rfl K
  · skip
    refine SafeOps.quiet0 E_good (congrArg (fun b => some (!b)) hc2124) rfl rfl (v := V.ptr [1] 0 0) (.fn rfl) ?_
    refine SafeOps.quiet0 E_good (congrArg (fun b => some (!b)) hc2124) rfl rfl (v := V.int .i64 a0_1154.Workers) (.load rfl rfl (.box rfl rfl) rfl) ?_
    refine SafeOps.quiet0 E_good (congrArg (fun b => some (!b)) hc2124) rfl rfl (v := V.ptr [1] 0 1) (.fn rfl) ?_
    refine SafeOps.quiet0 E_good (congrArg (fun b => some (!b)) hc2124) rfl rfl (v := V.int .i64 a0_1154.Cap) (.load rfl rfl (.box rfl rfl) rfl) ?_
    refine SafeOps.quiet0 E_good (congrArg (fun b => some (!b)) hc2124) rfl rfl (v := V.int .i64 (IntKind.i64.wrap (a0_1154.Cap + 2))) (.fn rfl) ?_
    refine SafeOps.quiet0 E_good (congrArg (fun b => some (!b)) hc2124) rfl rfl (v := V.int .i64 (IntKind.i64.wrap (a0_1154.Workers * (IntKind.i64.wrap (a0_1154.Cap + 2))))) (.fn rfl) ?_
    refine SafeOps.quiet0 E_good (congrArg (fun b => some (!b)) hc2124) rfl rfl (v := V.bool (decide ((IntKind.i64.wrap (a0_1154.Workers * (IntKind.i64.wrap (a0_1154.Cap + 2)))) > 65536))) (.fn rfl) ?_
    refine SafeOps.quiet0 E_good rfl rfl rfl (v := V.bool (decide ((IntKind.i64.wrap (a0_1154.Workers * (IntKind.i64.wrap (a0_1154.Cap + 2)))) > 65536))) (.pickK rfl hc2124 rfl) ?_
    exact SafeOps.drop' 8 rfl rfl rfl K
  refine SafeOps.quiet0 E_good rfl rfl rfl (v := V.bool ((!(((((go_entry_within a0_1154.Workers 1 64) && (go_entry_within a0_1154.Cap 1 1024)) && (go_entry_within a0_1154.Budget 1 100)) && (go_entry_within a0_1154.Tasks 1 256)) && (go_entry_within a0_1154.Fds 0 16))) || (decide ((IntKind.i64.wrap (a0_1154.Workers * (IntKind.i64.wrap (a0_1154.Cap + 2)))) > 65536)))) (.fn rfl) ?_
  refine SafeOps.bjoin 5 47 (b := (((!(((((go_entry_within a0_1154.Workers 1 64) && (go_entry_within a0_1154.Cap 1 1024)) && (go_entry_within a0_1154.Budget 1 100)) && (go_entry_within a0_1154.Tasks 1 256)) && (go_entry_within a0_1154.Fds 0 16))) || (decide ((IntKind.i64.wrap (a0_1154.Workers * (IntKind.i64.wrap (a0_1154.Cap + 2)))) > 65536))) || (decide ((a0_1154.Sems.length : Int) > 8)))) (b1 := true) (b0 := decide ((a0_1154.Sems.length : Int) > 8)) (fun hc2125 K => ?_) (fun hc2125 K => ?_) bj_or ?_
  · skip
    refine SafeOps.skip (congrArg (fun b => some (!b)) hc2125) rfl rfl ?_
    refine SafeOps.skip (congrArg (fun b => some (!b)) hc2125) rfl rfl ?_
    refine SafeOps.skip (congrArg (fun b => some (!b)) hc2125) rfl rfl ?_
    refine SafeOps.skip (congrArg (fun b => some (!b)) hc2125) rfl rfl ?_
    refine SafeOps.quiet0 E_good rfl rfl rfl (v := V.bool true) (.pickK rfl hc2125 rfl) ?_
    exact SafeOps.drop' 5 rfl rfl rfl K
  · skip
    refine SafeOps.quiet0 E_good (congrArg (fun b => some (!b)) hc2125) rfl rfl (v := V.ptr [1] 0 8) (.fn rfl) ?_
    refine SafeOps.quiet0 E_good (congrArg (fun b => some (!b)) hc2125) rfl rfl (v := V.sl 1 (rws (fun n => [V.int .i64 n]) a0_1154.Sems)) (.load rfl rfl (.box rfl rfl) rfl) ?_
    refine SafeOps.quiet0 E_good (congrArg (fun b => some (!b)) hc2125) rfl rfl (v := V.int .i64 (a0_1154.Sems.length : Int)) (.fnE rfl lenE) ?_
    refine SafeOps.quiet0 E_good (congrArg (fun b => some (!b)) hc2125) rfl rfl (v := V.bool (decide ((a0_1154.Sems.length : Int) > 8))) (.fn rfl) ?_
    refine SafeOps.quiet0 E_good rfl rfl rfl (v := V.bool (decide ((a0_1154.Sems.length : Int) > 8))) (.pickK rfl hc2125 rfl) ?_
    exact SafeOps.drop' 5 rfl rfl rfl K
  refine SafeOps.quiet0 E_good rfl rfl rfl (v := V.bool (((!(((((go_entry_within a0_1154.Workers 1 64) && (go_entry_within a0_1154.Cap 1 1024)) && (go_entry_within a0_1154.Budget 1 100)) && (go_entry_within a0_1154.Tasks 1 256)) && (go_entry_within a0_1154.Fds 0 16))) || (decide ((IntKind.i64.wrap (a0_1154.Workers * (IntKind.i64.wrap (a0_1154.Cap + 2)))) > 65536))) || (decide ((a0_1154.Sems.length : Int) > 8)))) (.fn rfl) ?_
  refine ifG h (fun hc2126 h => ?_) (fun hc2126 h => ?_)
  · skip
    refine SafeOps.skip (congrArg (fun b => some (!b)) hc2126) rfl rfl ?_
    refine SafeOps.skip (congrArg (fun b => some (!b)) hc2126) rfl rfl ?_
    refine SafeOps.skip (congrArg (fun b => some (!b)) hc2126) rfl rfl ?_
    refine SafeOps.skip (congrArg (fun b => some (!b)) hc2126) rfl rfl ?_
    refine SafeOps.quiet0 E_good rfl rfl rfl (v := V.bool true) (.pickK rfl hc2126 rfl) ?_
    refine SafeOps.nil ?_
    repeat (first | refine Safe.seq ?_ | refine Safe.skip ?_ | with_reducible refine thenQ.n ?_ | with_reducible refine blockQ.n ?_)
    refine Safe.condK rfl rfl ?_
    repeat (first | refine Safe.seq ?_ | refine Safe.skip ?_ | with_reducible refine thenQ.n ?_ | with_reducible refine blockQ.n ?_)
    refine Safe.region ?_
    refine SafeOps.quiet0 E_good rfl rfl rfl (v := V.int .i64 1) (.fn rfl) ?_
    refine SafeOps.nil ?_
    repeat (first | refine Safe.seq ?_ | refine Safe.skip ?_ | with_reducible refine thenQ.n ?_ | with_reducible refine blockQ.n ?_)
    refine Safe.ret ?_
    repeat (first | with_reducible refine thenQ.r ?_ | with_reducible refine blockQ.r ?_)
    obtain rfl := Option.some.inj h
    exact retQ.gen (vs := [V.int .i64 1]) rfl (.tmp (v := V.int .i64 1) rfl .nil) (.free rfl) (by simp) (.inr rfl)
  · skip
    refine SafeOps.quiet0 E_good (congrArg (fun b => some (!b)) hc2126) rfl rfl (v := V.ptr [1] 0 5) (.fn rfl) ?_
    refine SafeOps.quiet0 E_good (congrArg (fun b => some (!b)) hc2126) rfl rfl (v := V.sl 1 (rws (fun l => [V.sl 3 (rws api_Instr.cells l)]) a0_1154.Progs)) (.load rfl rfl (.box rfl rfl) rfl) ?_
    refine bindG h ?_
    intro x_2129 he2130 h
    refine SafeOps.quiet0 E_good (congrArg (fun b => some (!b)) hc2126) rfl rfl (v := V.int .i64 x_2129) (.callP rfl rfl (go_code_CheckAll_sc a0_1154.Progs _ he2130) rfl) ?_
    refine SafeOps.quiet0 E_good (congrArg (fun b => some (!b)) hc2126) rfl rfl (v := V.bool (x_2129 != 0)) (.fn rfl) ?_
    refine SafeOps.quiet0 E_good rfl rfl rfl (v := V.bool (x_2129 != 0)) (.pickK rfl hc2126 rfl) ?_
    refine SafeOps.nil ?_
    repeat (first | refine Safe.seq ?_ | refine Safe.skip ?_ | with_reducible refine thenQ.n ?_ | with_reducible refine blockQ.n ?_)
    refine ifG h (fun hc2131 h => ?_) (fun hc2131 h => ?_)
    · skip
      refine Safe.condK rfl hc2131 ?_
      repeat (first | refine Safe.seq ?_ | refine Safe.skip ?_ | with_reducible refine thenQ.n ?_ | with_reducible refine blockQ.n ?_)
      refine Safe.region ?_
      refine SafeOps.quiet0 E_good rfl rfl rfl (v := V.int .i64 1) (.fn rfl) ?_
      refine SafeOps.nil ?_
      repeat (first | refine Safe.seq ?_ | refine Safe.skip ?_ | with_reducible refine thenQ.n ?_ | with_reducible refine blockQ.n ?_)
      refine Safe.ret ?_
      repeat (first | with_reducible refine thenQ.r ?_ | with_reducible refine blockQ.r ?_)
      obtain rfl := Option.some.inj h
      exact retQ.gen (vs := [V.int .i64 1]) rfl (.tmp (v := V.int .i64 1) rfl .nil) (.free rfl) (by simp) (.inr rfl)
    · skip
      refine Safe.condN rfl hc2131 ?_
      repeat (first | refine Safe.seq ?_ | refine Safe.skip ?_ | with_reducible refine thenQ.n ?_ | with_reducible refine blockQ.n ?_)
      refine Safe.region ?_
      refine SafeOps.quiet0 E_good rfl rfl rfl (v := V.ptr [1] 0 3) (.fn rfl) ?_
      refine SafeOps.quiet0 E_good rfl rfl rfl (v := V.sl 1 (rws (fun n => [V.int .i64 n]) a0_1154.Weights)) (.load rfl rfl (.box rfl rfl) rfl) ?_
      refine SafeOps.quiet0 E_good rfl rfl rfl (v := V.ptr [1] 0 4) (.fn rfl) ?_
      refine SafeOps.quiet0 E_good rfl rfl rfl (v := V.sl 1 (rws (fun n => [V.int .i64 n]) a0_1154.Quotas)) (.load rfl rfl (.box rfl rfl) rfl) ?_
      refine bindG h ?_
      rintro ⟨x_2132, x_2133⟩ he2134 h
      refine SafeOps.quiet E_good rfl rfl rfl (v := V.tup [V.ref [59, 0] 0 (rws api_Tenant.cells x_2132).length, V.int .i64 x_2133]) (.callP rfl rfl (go_lodge_New_sc a0_1154.Weights a0_1154.Quotas _ he2134) rfl) rfl ?_
      refine SafeOps.quiet0 E_good rfl rfl rfl (v := V.tup [V.ref [59, 0] 0 (rws api_Tenant.cells x_2132).length, V.int .i64 x_2133]) (.fn rfl) ?_
      refine SafeOps.quiet0 E_good rfl rfl rfl (v := V.ref [59, 0] 0 (rws api_Tenant.cells x_2132).length) (.fn rfl) ?_
      refine SafeOps.quiet0 E_good rfl rfl rfl (v := V.int .i64 x_2133) (.fn rfl) ?_
      refine SafeOps.quiet0 E_good rfl rfl rfl (v := V.ref [59, 0] 0 (rws api_Tenant.cells x_2132).length) (.fn rfl) ?_
      refine SafeOps.quiet0 E_good rfl rfl rfl (v := V.int .i64 x_2133) (.fn rfl) ?_
      refine SafeOps.nil ?_
      repeat (first | refine Safe.seq ?_ | refine Safe.skip ?_ | with_reducible refine thenQ.n ?_ | with_reducible refine blockQ.n ?_)
      refine Safe.region ?_
      refine SafeOps.quiet0 E_good rfl rfl rfl (v := V.int .i64 x_2133) (.fn rfl) ?_
      refine SafeOps.quiet0 E_good rfl rfl rfl (v := V.bool (x_2133 != 0)) (.fn rfl) ?_
      refine SafeOps.nil ?_
      repeat (first | refine Safe.seq ?_ | refine Safe.skip ?_ | with_reducible refine thenQ.n ?_ | with_reducible refine blockQ.n ?_)
      refine ifG h (fun hc2135 h => ?_) (fun hc2135 h => ?_)
      · skip
        refine Safe.condK rfl hc2135 ?_
        repeat (first | refine Safe.seq ?_ | refine Safe.skip ?_ | with_reducible refine thenQ.n ?_ | with_reducible refine blockQ.n ?_)
        refine Safe.region ?_
        refine SafeOps.quiet0 E_good rfl rfl rfl (v := V.int .i64 1) (.fn rfl) ?_
        refine SafeOps.nil ?_
        repeat (first | refine Safe.seq ?_ | refine Safe.skip ?_ | with_reducible refine thenQ.n ?_ | with_reducible refine blockQ.n ?_)
        refine Safe.ret ?_
        repeat (first | with_reducible refine thenQ.r ?_ | with_reducible refine blockQ.r ?_)
        obtain rfl := Option.some.inj h
        exact retQ.gen (vs := [V.int .i64 1]) rfl (.tmp (v := V.int .i64 1) rfl .nil) (.free rfl) (by simp) (.inr rfl)
      · skip
        refine Safe.condN rfl hc2135 ?_
        repeat (first | refine Safe.seq ?_ | refine Safe.skip ?_ | with_reducible refine thenQ.n ?_ | with_reducible refine blockQ.n ?_)
        refine Safe.region ?_
        refine SafeOps.quiet0 E_good rfl rfl rfl (v := V.fn 35 []) (.fn rfl) ?_
        refine SafeOps.nil ?_
        repeat (first | refine Safe.seq ?_ | refine Safe.skip ?_ | with_reducible refine thenQ.n ?_ | with_reducible refine blockQ.n ?_)
        refine Safe.region ?_
        refine SafeOps.quiet0 E_good rfl rfl rfl (v := V.fn 37 [V.ptr [1] 0 0]) (.fn rfl) ?_
        refine SafeOps.quiet1 E_good rfl rfl rfl (.alloc rfl rfl) rfl ?_
        refine SafeOps.store (z := Obj.box [V.fn 37 [V.ptr [1] 0 0]]) E_good rfl rfl rfl rfl rfl rfl rfl (.boxM (c := 1) rfl rfl (Nat.le_of_ble_eq_true rfl) rfl) ?_
        refine SafeOps.nil ?_
        repeat (first | refine Safe.seq ?_ | refine Safe.skip ?_ | with_reducible refine thenQ.n ?_ | with_reducible refine blockQ.n ?_)
        refine Safe.region ?_
        refine SafeOps.quiet0 E_good rfl rfl rfl (v := V.ptr [1] 0 8) (.fn rfl) ?_
        refine SafeOps.quiet0 E_good rfl rfl rfl (v := V.sl 1 (rws (fun n => [V.int .i64 n]) a0_1154.Sems)) (.load rfl rfl (.box rfl rfl) rfl) ?_
        refine SafeOps.quiet0 E_good rfl rfl rfl (v := V.fn 35 []) (.fn rfl) ?_
        refine bindG h ?_
        intro x_2136 he2137 h
        refine SafeOps.quiet0 E_good rfl rfl rfl (v := V.bool x_2136) (.callP rfl rfl (go_slices_ContainsFunc_int_int_135_sc a0_1154.Sems _ he2137) rfl) ?_
        refine SafeOps.quiet0 E_good rfl rfl rfl (v := V.bool x_2136) (.fn rfl) ?_
        refine ifG h (fun hc2138 h => ?_) (fun hc2138 h => ?_)
        · skip
          refine SafeOps.skip (congrArg (fun b => some (!b)) hc2138) rfl rfl ?_
          refine SafeOps.skip (congrArg (fun b => some (!b)) hc2138) rfl rfl ?_
          refine SafeOps.skip (congrArg (fun b => some (!b)) hc2138) rfl rfl ?_
          refine SafeOps.skip (congrArg (fun b => some (!b)) hc2138) rfl rfl ?_
          refine SafeOps.quiet0 E_good rfl rfl rfl (v := V.bool true) (.pickK rfl hc2138 rfl) ?_
          refine SafeOps.nil ?_
          repeat (first | refine Safe.seq ?_ | refine Safe.skip ?_ | with_reducible refine thenQ.n ?_ | with_reducible refine blockQ.n ?_)
          refine Safe.condK rfl rfl ?_
          repeat (first | refine Safe.seq ?_ | refine Safe.skip ?_ | with_reducible refine thenQ.n ?_ | with_reducible refine blockQ.n ?_)
          refine Safe.region ?_
          refine SafeOps.quiet0 E_good rfl rfl rfl (v := V.int .i64 1) (.fn rfl) ?_
          refine SafeOps.nil ?_
          repeat (first | refine Safe.seq ?_ | refine Safe.skip ?_ | with_reducible refine thenQ.n ?_ | with_reducible refine blockQ.n ?_)
          refine Safe.ret ?_
          repeat (first | with_reducible refine thenQ.r ?_ | with_reducible refine blockQ.r ?_)
          obtain rfl := Option.some.inj h
          exact retQ.gen (vs := [V.int .i64 1]) rfl (.tmp (v := V.int .i64 1) rfl .nil) (.free rfl) (by simp) (.inr rfl)
        · skip
          refine SafeOps.quiet0 E_good (congrArg (fun b => some (!b)) hc2138) rfl rfl (v := V.ptr [1] 0 5) (.fn rfl) ?_
          refine SafeOps.quiet0 E_good (congrArg (fun b => some (!b)) hc2138) rfl rfl (v := V.sl 1 (rws (fun l => [V.sl 3 (rws api_Instr.cells l)]) a0_1154.Progs)) (.load rfl rfl (.box rfl rfl) rfl) ?_
          refine SafeOps.quiet0 E_good (congrArg (fun b => some (!b)) hc2138) rfl rfl (v := V.fn 40 [V.ptr [7] 0 0]) (.fn rfl) ?_
          refine SafeOps.inline E_good (congrArg (fun b => some (!b)) hc2138) rfl rfl rfl rfl Try.func39 rfl (fun _ _ => Try.call39 _ _) rfl ?_
          repeat (first | refine Safe.seq ?_ | refine Safe.skip ?_ | with_reducible refine thenQ.n ?_ | with_reducible refine blockQ.n ?_)
          refine Safe.region ?_
          refine SafeOps.quiet0 E_good rfl rfl rfl (v := V.bool false) (.fn rfl) ?_
          refine SafeOps.nil ?_
          repeat (first | refine Safe.seq ?_ | refine Safe.skip ?_ | with_reducible refine thenQ.n ?_ | with_reducible refine blockQ.n ?_)
          refine Safe.region ?_
          refine SafeOps.quiet0 E_good rfl rfl rfl (v := V.sl 1 (rws (fun l => [V.sl 3 (rws api_Instr.cells l)]) a0_1154.Progs)) (.fn rfl) ?_
          refine SafeOps.quiet0 E_good rfl rfl rfl (v := V.fn 40 [V.ptr [7] 0 0]) (.fn rfl) ?_
          refine SafeOps.inline E_good rfl rfl rfl rfl rfl Try.func55 rfl (fun _ _ => Try.call55 _ _) rfl ?_
          repeat (first | refine Safe.seq ?_ | refine Safe.skip ?_ | with_reducible refine thenQ.n ?_ | with_reducible refine blockQ.n ?_)
          refine Safe.region ?_
          refine SafeOps.quiet0 E_good rfl rfl rfl (v := V.int .i64 0) (.fn rfl) ?_
          refine SafeOps.nil ?_
          repeat (first | refine Safe.seq ?_ | refine Safe.skip ?_ | with_reducible refine thenQ.n ?_ | with_reducible refine blockQ.n ?_)
          refine Safe.region ?_
          refine SafeOps.quiet0 E_good rfl rfl rfl (v := V.sl 1 (rws (fun l => [V.sl 3 (rws api_Instr.cells l)]) a0_1154.Progs)) (.fn rfl) ?_
          refine SafeOps.quiet0 E_good rfl rfl rfl (v := V.int .i64 (a0_1154.Progs.length : Int)) (.fnE rfl lenE) ?_
          refine SafeOps.quiet0 E_good rfl rfl rfl (v := V.int .i64 0) (.fn rfl) ?_
          refine SafeOps.nil ?_
          repeat (first | refine Safe.seq ?_ | refine Safe.skip ?_ | with_reducible refine thenQ.n ?_ | with_reducible refine blockQ.n ?_)
          refine Safe.block ?_
          repeat (first | refine Safe.seq ?_ | refine Safe.skip ?_ | with_reducible refine thenQ.n ?_ | with_reducible refine blockQ.n ?_)
          refine Safe.loopW (fun (v8_2281 : Int) => ⟨Try.f55.ntmps, [(0, V.sl 1 (rws (fun l => [V.sl 3 (rws api_Instr.cells l)]) a0_1154.Progs)), (1, V.fn 40 [V.ptr [7] 0 0]), (7, V.int .i64 (a0_1154.Progs.length : Int)), (8, V.int .i64 v8_2281)], [([1], Obj.box [V.int .i64 a0_1154.Workers, V.int .i64 a0_1154.Cap, V.int .i64 a0_1154.Budget, V.sl 1 (rws (fun n => [V.int .i64 n]) a0_1154.Weights), V.sl 1 (rws (fun n => [V.int .i64 n]) a0_1154.Quotas), V.sl 1 (rws (fun l => [V.sl 3 (rws api_Instr.cells l)]) a0_1154.Progs), V.int .i64 a0_1154.Tasks, V.int .i64 a0_1154.Fds, V.sl 1 (rws (fun n => [V.int .i64 n]) a0_1154.Sems)]), ([7], Obj.box [V.fn 37 [V.ptr [1] 0 0]])], [(Try.f39.ntmps, []), (Try.f21.ntmps, [(69, V.bool x_2136)])], [73, 7]⟩) h (.cov ⟨rfl, rfl, (upT_cons (.refl _) (upT_cons (.refl _) (upT_cons (.refl _) (upT_cons (.refl _) upT_nil)))), (upOb_cons rfl (.refl _) (upOb_cons rfl (.refl _) upOb_nil)), (upOut_cons rfl upT_nil (upOut_cons rfl (upT_cons (.refl _) upT_nil) upOut_nil)), rfl⟩) ?_
          intro v8_2281 ohr2282 h hr2282
          replace h : go_entry_Config_s9 a0_1154 v8_2281 = some ohr2282 := h
          rw [go_entry_Config_s9] at h
          repeat (first | refine Safe.seq ?_ | refine Safe.skip ?_ | with_reducible refine thenQ.n ?_ | with_reducible refine blockQ.n ?_)
          refine Safe.region ?_
          refine SafeOps.quiet0 E_good rfl rfl rfl (v := V.bool (decide (v8_2281 < (a0_1154.Progs.length : Int)))) (.fn rfl) ?_
          refine SafeOps.nil ?_
          repeat (first | refine Safe.seq ?_ | refine Safe.skip ?_ | with_reducible refine thenQ.n ?_ | with_reducible refine blockQ.n ?_)
          refine ifG h (fun hc2283 h => ?_) (fun hc2283 h => ?_)
          · skip
            refine Safe.condK rfl hc2283 ?_
            repeat (first | refine Safe.seq ?_ | refine Safe.skip ?_ | with_reducible refine thenQ.n ?_ | with_reducible refine blockQ.n ?_)
            refine Safe.block ?_
            repeat (first | refine Safe.seq ?_ | refine Safe.skip ?_ | with_reducible refine thenQ.n ?_ | with_reducible refine blockQ.n ?_)
            refine Safe.region ?_
            refine SafeOps.quiet0 E_good rfl rfl rfl (v := V.int .i64 v8_2281) (.fn rfl) ?_
            refine SafeOps.quiet0 E_good rfl rfl rfl (v := V.int .i64 v8_2281) (.fn rfl) ?_
            refine SafeOps.nil ?_
            repeat (first | refine Safe.seq ?_ | refine Safe.skip ?_ | with_reducible refine thenQ.n ?_ | with_reducible refine blockQ.n ?_)
            refine Safe.region ?_
            refine SafeOps.quiet0 E_good rfl rfl rfl (v := V.fn 40 [V.ptr [7] 0 0]) (.fn rfl) ?_
            refine SafeOps.quiet0 E_good rfl rfl rfl (v := V.sl 1 (rws (fun l => [V.sl 3 (rws api_Instr.cells l)]) a0_1154.Progs)) (.fn rfl) ?_
            refine SafeOps.quiet0 E_good rfl rfl rfl (v := V.int .i64 v8_2281) (.fn rfl) ?_
            refine okG h (fun hb2284 h => ?_)
            refine SafeOps.quiet0 E_good rfl rfl rfl (v := V.spt 1 (rws (fun l => [V.sl 3 (rws api_Instr.cells l)]) a0_1154.Progs) (Int.toNat v8_2281) 0) (.idxSlM (f := (fun l => [V.sl 3 (rws api_Instr.cells l)])) rfl rfl rfl rfl rfl hb2284) ?_
            refine SafeOps.quiet0 E_good rfl rfl rfl (v := V.sl 3 (rws api_Instr.cells (gt a0_1154.Progs v8_2281))) (.load rfl rfl (.sptM (f := (fun l => [V.sl 3 (rws api_Instr.cells l)])) hb2284 rfl) rfl) ?_
            refine SafeOps.inline E_good rfl rfl rfl rfl rfl Try.func40 rfl (fun _ _ => Try.call40 _ _) rfl ?_
            repeat (first | refine Safe.seq ?_ | refine Safe.skip ?_ | with_reducible refine thenQ.n ?_ | with_reducible refine blockQ.n ?_)
            refine Safe.region ?_
            refine SafeOps.quiet0 E_good rfl rfl rfl (v := V.bool false) (.fn rfl) ?_
            refine SafeOps.nil ?_
            repeat (first | refine Safe.seq ?_ | refine Safe.skip ?_ | with_reducible refine thenQ.n ?_ | with_reducible refine blockQ.n ?_)
            refine Safe.region ?_
            refine SafeOps.quiet0 E_good rfl rfl rfl (v := V.sl 3 (rws api_Instr.cells (gt a0_1154.Progs v8_2281))) (.fn rfl) ?_
            refine SafeOps.quiet0 E_good rfl rfl rfl (v := V.fn 37 [V.ptr [1] 0 0]) (.load rfl rfl (.box rfl rfl) rfl) ?_
            refine SafeOps.inline E_good rfl rfl rfl rfl rfl Try.func41 rfl (fun _ _ => Try.call41 _ _) rfl ?_
            repeat (first | refine Safe.seq ?_ | refine Safe.skip ?_ | with_reducible refine thenQ.n ?_ | with_reducible refine blockQ.n ?_)
            refine Safe.region ?_
            refine SafeOps.quiet0 E_good rfl rfl rfl (v := V.bool false) (.fn rfl) ?_
            refine SafeOps.nil ?_
            repeat (first | refine Safe.seq ?_ | refine Safe.skip ?_ | with_reducible refine thenQ.n ?_ | with_reducible refine blockQ.n ?_)
            refine Safe.region ?_
            refine SafeOps.quiet0 E_good rfl rfl rfl (v := V.sl 3 (rws api_Instr.cells (gt a0_1154.Progs v8_2281))) (.fn rfl) ?_
            refine SafeOps.quiet0 E_good rfl rfl rfl (v := V.fn 37 [V.ptr [1] 0 0]) (.fn rfl) ?_
            refine SafeOps.inline E_good rfl rfl rfl rfl rfl Try.func56 rfl (fun _ _ => Try.call56 _ _) rfl ?_
            repeat (first | refine Safe.seq ?_ | refine Safe.skip ?_ | with_reducible refine thenQ.n ?_ | with_reducible refine blockQ.n ?_)
            refine Safe.region ?_
            refine SafeOps.quiet0 E_good rfl rfl rfl (v := V.int .i64 0) (.fn rfl) ?_
            refine SafeOps.nil ?_
            repeat (first | refine Safe.seq ?_ | refine Safe.skip ?_ | with_reducible refine thenQ.n ?_ | with_reducible refine blockQ.n ?_)
            refine Safe.region ?_
            refine SafeOps.quiet0 E_good rfl rfl rfl (v := V.sl 3 (rws api_Instr.cells (gt a0_1154.Progs v8_2281))) (.fn rfl) ?_
            refine SafeOps.quiet0 E_good rfl rfl rfl (v := V.int .i64 ((gt a0_1154.Progs v8_2281).length : Int)) (.fnE rfl lenE) ?_
            refine SafeOps.quiet0 E_good rfl rfl rfl (v := V.int .i64 0) (.fn rfl) ?_
            refine SafeOps.nil ?_
            repeat (first | refine Safe.seq ?_ | refine Safe.skip ?_ | with_reducible refine thenQ.n ?_ | with_reducible refine blockQ.n ?_)
            refine Safe.block ?_
            repeat (first | refine Safe.seq ?_ | refine Safe.skip ?_ | with_reducible refine thenQ.n ?_ | with_reducible refine blockQ.n ?_)
            refine Safe.loopW (fun (v8_2300 : Int) => ⟨Try.f56.ntmps, [(0, V.sl 3 (rws api_Instr.cells (gt a0_1154.Progs v8_2281))), (1, V.fn 37 [V.ptr [1] 0 0]), (7, V.int .i64 ((gt a0_1154.Progs v8_2281).length : Int)), (8, V.int .i64 v8_2300)], [([1], Obj.box [V.int .i64 a0_1154.Workers, V.int .i64 a0_1154.Cap, V.int .i64 a0_1154.Budget, V.sl 1 (rws (fun n => [V.int .i64 n]) a0_1154.Weights), V.sl 1 (rws (fun n => [V.int .i64 n]) a0_1154.Quotas), V.sl 1 (rws (fun l => [V.sl 3 (rws api_Instr.cells l)]) a0_1154.Progs), V.int .i64 a0_1154.Tasks, V.int .i64 a0_1154.Fds, V.sl 1 (rws (fun n => [V.int .i64 n]) a0_1154.Sems)]), ([7], Obj.box [V.fn 37 [V.ptr [1] 0 0]])], [(Try.f41.ntmps, []), (Try.f40.ntmps, []), (Try.f55.ntmps, [(0, V.sl 1 (rws (fun l => [V.sl 3 (rws api_Instr.cells l)]) a0_1154.Progs)), (1, V.fn 40 [V.ptr [7] 0 0]), (5, V.int .i64 v8_2281), (7, V.int .i64 (a0_1154.Progs.length : Int)), (8, V.int .i64 v8_2281)]), (Try.f39.ntmps, []), (Try.f21.ntmps, [(69, V.bool x_2136)])], [73, 7, 16, 6, 7]⟩) h (.cov ⟨rfl, rfl, (upT_cons (.refl _) (upT_cons (.refl _) (upT_cons (.refl _) (upT_cons (.refl _) upT_nil)))), (upOb_cons rfl (.refl _) (upOb_cons rfl (.refl _) upOb_nil)), (upOut_cons rfl upT_nil (upOut_cons rfl upT_nil (upOut_cons rfl (upT_cons (.refl _) (upT_cons (.refl _) (upT_cons (.refl _) (upT_cons (.refl _) (upT_cons (.refl _) upT_nil))))) (upOut_cons rfl upT_nil (upOut_cons rfl (upT_cons (.refl _) upT_nil) upOut_nil))))), rfl⟩) ?_
            intro v8_2300 ohr2301 h hr2301
            replace h : go_entry_Config_s12 a0_1154 v8_2281 v8_2300 = some ohr2301 := h
            rw [go_entry_Config_s12] at h
            repeat (first | refine Safe.seq ?_ | refine Safe.skip ?_ | with_reducible refine thenQ.n ?_ | with_reducible refine blockQ.n ?_)
            refine Safe.region ?_
            refine SafeOps.quiet0 E_good rfl rfl rfl (v := V.bool (decide (v8_2300 < ((gt a0_1154.Progs v8_2281).length : Int)))) (.fn rfl) ?_
            refine SafeOps.nil ?_
            repeat (first | refine Safe.seq ?_ | refine Safe.skip ?_ | with_reducible refine thenQ.n ?_ | with_reducible refine blockQ.n ?_)
            refine ifG h (fun hc2302 h => ?_) (fun hc2302 h => ?_)
            · skip
              refine Safe.condK rfl hc2302 ?_
              repeat (first | refine Safe.seq ?_ | refine Safe.skip ?_ | with_reducible refine thenQ.n ?_ | with_reducible refine blockQ.n ?_)
              refine Safe.block ?_
              repeat (first | refine Safe.seq ?_ | refine Safe.skip ?_ | with_reducible refine thenQ.n ?_ | with_reducible refine blockQ.n ?_)
              refine Safe.region ?_
              refine SafeOps.quiet0 E_good rfl rfl rfl (v := V.int .i64 v8_2300) (.fn rfl) ?_
              refine SafeOps.quiet0 E_good rfl rfl rfl (v := V.int .i64 v8_2300) (.fn rfl) ?_
              refine SafeOps.nil ?_
              repeat (first | refine Safe.seq ?_ | refine Safe.skip ?_ | with_reducible refine thenQ.n ?_ | with_reducible refine blockQ.n ?_)
              refine Safe.region ?_
              refine SafeOps.quiet0 E_good rfl rfl rfl (v := V.fn 37 [V.ptr [1] 0 0]) (.fn rfl) ?_
              refine SafeOps.quiet0 E_good rfl rfl rfl (v := V.sl 3 (rws api_Instr.cells (gt a0_1154.Progs v8_2281))) (.fn rfl) ?_
              refine SafeOps.quiet0 E_good rfl rfl rfl (v := V.int .i64 v8_2300) (.fn rfl) ?_
              refine okG h (fun hb2303 h => ?_)
              refine SafeOps.quiet0 E_good rfl rfl rfl (v := V.spt 3 (rws api_Instr.cells (gt a0_1154.Progs v8_2281)) (Int.toNat v8_2300) 0) (.idxSlM (f := api_Instr.cells) rfl rfl rfl rfl rfl hb2303) ?_
              refine SafeOps.quiet0 E_good rfl rfl rfl (v := V.agg [V.int .i64 ((gt (gt a0_1154.Progs v8_2281) v8_2300).Op), V.int .i64 ((gt (gt a0_1154.Progs v8_2281) v8_2300).A), V.int .i64 ((gt (gt a0_1154.Progs v8_2281) v8_2300).B)]) (.load rfl rfl (.sptM (f := api_Instr.cells) hb2303 rfl) rfl) ?_
              refine SafeOps.inline E_good rfl rfl rfl rfl rfl Try.func37 rfl (fun _ _ => Try.call37 _ _) rfl ?_
              repeat (first | refine Safe.seq ?_ | refine Safe.skip ?_ | with_reducible refine thenQ.n ?_ | with_reducible refine blockQ.n ?_)
              refine Safe.region ?_
              refine SafeOps.quiet1 E_good rfl rfl rfl (.box rfl rfl) rfl ?_
              refine SafeOps.quiet0 E_good rfl rfl rfl (v := V.bool false) (.fn rfl) ?_
              refine SafeOps.nil ?_
              repeat (first | refine Safe.seq ?_ | refine Safe.skip ?_ | with_reducible refine thenQ.n ?_ | with_reducible refine blockQ.n ?_)
              refine Safe.region ?_
              refine SafeOps.quiet0 E_good rfl rfl rfl (v := V.ptr [73, 7, 16, 6, 7, 16, 2] 0 0) (.fn rfl) ?_
              refine SafeOps.quiet0 E_good rfl rfl rfl (v := V.int .i64 ((gt (gt a0_1154.Progs v8_2281) v8_2300).Op)) (.load rfl rfl (.box rfl rfl) rfl) ?_
              refine SafeOps.nil ?_
              repeat (first | refine Safe.seq ?_ | refine Safe.skip ?_ | with_reducible refine thenQ.n ?_ | with_reducible refine blockQ.n ?_)
              refine Safe.block ?_
              repeat (first | refine Safe.seq ?_ | refine Safe.skip ?_ | with_reducible refine thenQ.n ?_ | with_reducible refine blockQ.n ?_)
              refine Safe.region ?_
              refine SafeOps.quiet0 E_good rfl rfl rfl (v := V.bool (((gt (gt a0_1154.Progs v8_2281) v8_2300).Op) == 5)) (.fn rfl) ?_
              refine SafeOps.quiet0 E_good rfl rfl rfl (v := V.bool (((gt (gt a0_1154.Progs v8_2281) v8_2300).Op) == 5)) (.fn rfl) ?_
              refine SafeOps.nil ?_
              repeat (first | refine Safe.seq ?_ | refine Safe.skip ?_ | with_reducible refine thenQ.n ?_ | with_reducible refine blockQ.n ?_)
              refine ifG h (fun hc2304 h => ?_) (fun hc2304 h => ?_)
              · skip
                refine Safe.condK rfl hc2304 ?_
                repeat (first | refine Safe.seq ?_ | refine Safe.skip ?_ | with_reducible refine thenQ.n ?_ | with_reducible refine blockQ.n ?_)
                refine Safe.region ?_
                refine SafeOps.quiet0 E_good rfl rfl rfl (v := V.ptr [73, 7, 16, 6, 7, 16, 2] 0 1) (.fn rfl) ?_
                refine SafeOps.quiet0 E_good rfl rfl rfl (v := V.int .i64 ((gt (gt a0_1154.Progs v8_2281) v8_2300).A)) (.load rfl rfl (.box rfl rfl) rfl) ?_
                refine SafeOps.quiet0 E_good rfl rfl rfl (v := V.ptr [1] 0 7) (.fn rfl) ?_
                refine SafeOps.quiet0 E_good rfl rfl rfl (v := V.int .i64 a0_1154.Fds) (.load rfl rfl (.box rfl rfl) rfl) ?_
                refine SafeOps.quiet0 E_good rfl rfl rfl (v := V.bool (decide (((gt (gt a0_1154.Progs v8_2281) v8_2300).A) ≥ a0_1154.Fds))) (.fn rfl) ?_
                refine SafeOps.quiet0 E_good rfl rfl rfl (v := V.bool (decide (((gt (gt a0_1154.Progs v8_2281) v8_2300).A) ≥ a0_1154.Fds))) (.fn rfl) ?_
                refine SafeOps.nil ?_
                repeat (first | refine Safe.seq ?_ | refine Safe.skip ?_ | with_reducible refine thenQ.n ?_ | with_reducible refine blockQ.n ?_)
                refine Safe.ret ?_
                repeat (first | with_reducible refine thenQ.r ?_ | with_reducible refine blockQ.r ?_)
                refine inQ.gen (vs := [V.bool (decide (((gt (gt a0_1154.Progs v8_2281) v8_2300).A) ≥ a0_1154.Fds))]) (v := V.bool (decide (((gt (gt a0_1154.Progs v8_2281) v8_2300).A) ≥ a0_1154.Fds))) (.inr rfl) rfl (.tmp (v := V.bool (decide (((gt (gt a0_1154.Progs v8_2281) v8_2300).A) ≥ a0_1154.Fds))) rfl .nil) rfl ?_
                refine SafeOps.nil ?_
                repeat (first | refine Safe.seq ?_ | refine Safe.skip ?_ | with_reducible refine thenQ.n ?_ | with_reducible refine blockQ.n ?_)
                refine ifG h (fun hc2305 h => ?_) (fun hc2305 h => ?_)
                · skip
                  refine Safe.condK rfl hc2305 ?_
                  repeat (first | refine Safe.seq ?_ | refine Safe.skip ?_ | with_reducible refine thenQ.n ?_ | with_reducible refine blockQ.n ?_)
                  refine Safe.region ?_
                  refine SafeOps.quiet0 E_good rfl rfl rfl (v := V.int .i64 v8_2300) (.fn rfl) ?_
                  refine SafeOps.quiet0 E_good rfl rfl rfl (v := V.int .i64 v8_2300) (.fn rfl) ?_
                  refine SafeOps.nil ?_
                  repeat (first | refine Safe.seq ?_ | refine Safe.skip ?_ | with_reducible refine thenQ.n ?_ | with_reducible refine blockQ.n ?_)
                  refine Safe.ret ?_
                  repeat (first | with_reducible refine thenQ.r ?_ | with_reducible refine blockQ.r ?_)
                  refine inQ.gen (vs := [V.int .i64 v8_2300]) (v := V.int .i64 v8_2300) (.inr rfl) rfl (.tmp (v := V.int .i64 v8_2300) rfl .nil) rfl ?_
                  replace h := inr_out h hr2301
                  refine SafeOps.quiet0 E_good rfl rfl rfl (v := V.bool (decide (v8_2300 ≥ 0))) (.fn rfl) ?_
                  refine SafeOps.quiet0 E_good rfl rfl rfl (v := V.bool (decide (v8_2300 ≥ 0))) (.fn rfl) ?_
                  refine SafeOps.nil ?_
                  repeat (first | refine Safe.seq ?_ | refine Safe.skip ?_ | with_reducible refine thenQ.n ?_ | with_reducible refine blockQ.n ?_)
                  refine Safe.ret ?_
                  repeat (first | with_reducible refine thenQ.r ?_ | with_reducible refine blockQ.r ?_)
                  refine inQ.gen (vs := [V.bool (decide (v8_2300 ≥ 0))]) (v := V.bool (decide (v8_2300 ≥ 0))) (.inr rfl) rfl (.tmp (v := V.bool (decide (v8_2300 ≥ 0))) rfl .nil) rfl ?_
                  refine SafeOps.quiet0 E_good rfl rfl rfl (v := V.bool (decide (v8_2300 ≥ 0))) (.fn rfl) ?_
                  refine SafeOps.nil ?_
                  repeat (first | refine Safe.seq ?_ | refine Safe.skip ?_ | with_reducible refine thenQ.n ?_ | with_reducible refine blockQ.n ?_)
                  refine Safe.ret ?_
                  repeat (first | with_reducible refine thenQ.r ?_ | with_reducible refine blockQ.r ?_)
                  refine inQ.gen (vs := [V.bool (decide (v8_2300 ≥ 0))]) (v := V.bool (decide (v8_2300 ≥ 0))) (.inr rfl) rfl (.tmp (v := V.bool (decide (v8_2300 ≥ 0))) rfl .nil) rfl ?_
                  refine SafeOps.nil ?_
                  repeat (first | refine Safe.seq ?_ | refine Safe.skip ?_ | with_reducible refine thenQ.n ?_ | with_reducible refine blockQ.n ?_)
                  refine ifG h (fun hc2306 h => ?_) (fun hc2306 h => ?_)
                  · skip
                    refine Safe.condK rfl hc2306 ?_
                    repeat (first | refine Safe.seq ?_ | refine Safe.skip ?_ | with_reducible refine thenQ.n ?_ | with_reducible refine blockQ.n ?_)
                    refine Safe.region ?_
                    refine SafeOps.quiet0 E_good rfl rfl rfl (v := V.int .i64 v8_2281) (.fn rfl) ?_
                    refine SafeOps.quiet0 E_good rfl rfl rfl (v := V.int .i64 v8_2281) (.fn rfl) ?_
                    refine SafeOps.nil ?_
                    repeat (first | refine Safe.seq ?_ | refine Safe.skip ?_ | with_reducible refine thenQ.n ?_ | with_reducible refine blockQ.n ?_)
                    refine Safe.ret ?_
                    repeat (first | with_reducible refine thenQ.r ?_ | with_reducible refine blockQ.r ?_)
                    refine inQ.gen (vs := [V.int .i64 v8_2281]) (v := V.int .i64 v8_2281) (.inr rfl) rfl (.tmp (v := V.int .i64 v8_2281) rfl .nil) rfl ?_
                    replace h := inr_out h hr2282
                    refine SafeOps.quiet0 E_good rfl rfl rfl (v := V.bool (decide (v8_2281 ≥ 0))) (.fn rfl) ?_
                    refine SafeOps.quiet0 E_good rfl rfl rfl (v := V.bool (decide (v8_2281 ≥ 0))) (.fn rfl) ?_
                    refine SafeOps.nil ?_
                    repeat (first | refine Safe.seq ?_ | refine Safe.skip ?_ | with_reducible refine thenQ.n ?_ | with_reducible refine blockQ.n ?_)
                    refine Safe.ret ?_
                    repeat (first | with_reducible refine thenQ.r ?_ | with_reducible refine blockQ.r ?_)
                    refine inQ.gen (vs := [V.bool (decide (v8_2281 ≥ 0))]) (v := V.bool (decide (v8_2281 ≥ 0))) (.inr rfl) rfl (.tmp (v := V.bool (decide (v8_2281 ≥ 0))) rfl .nil) rfl ?_
                    refine SafeOps.quiet0 E_good rfl rfl rfl (v := V.bool (decide (v8_2281 ≥ 0))) (.pickK rfl hc2138 rfl) ?_
                    refine SafeOps.nil ?_
                    repeat (first | refine Safe.seq ?_ | refine Safe.skip ?_ | with_reducible refine thenQ.n ?_ | with_reducible refine blockQ.n ?_)
                    refine ifG h (fun hc2307 h => ?_) (fun hc2307 h => ?_)
                    · skip
                      refine Safe.condK rfl hc2307 ?_
                      repeat (first | refine Safe.seq ?_ | refine Safe.skip ?_ | with_reducible refine thenQ.n ?_ | with_reducible refine blockQ.n ?_)
                      refine Safe.region ?_
                      refine SafeOps.quiet0 E_good rfl rfl rfl (v := V.int .i64 1) (.fn rfl) ?_
                      refine SafeOps.nil ?_
                      repeat (first | refine Safe.seq ?_ | refine Safe.skip ?_ | with_reducible refine thenQ.n ?_ | with_reducible refine blockQ.n ?_)
                      refine Safe.ret ?_
                      repeat (first | with_reducible refine thenQ.r ?_ | with_reducible refine blockQ.r ?_)
                      obtain rfl := Option.some.inj h
                      exact retQ.gen (vs := [V.int .i64 1]) rfl (.tmp (v := V.int .i64 1) rfl .nil) (.free rfl) (by simp) (.inr rfl)
                    · skip
                      refine Safe.condN rfl hc2307 ?_
                      repeat (first | refine Safe.seq ?_ | refine Safe.skip ?_ | with_reducible refine thenQ.n ?_ | with_reducible refine blockQ.n ?_)
                      refine Safe.region ?_
                      refine SafeOps.quiet0 E_good rfl rfl rfl (v := V.int .i64 0) (.fn rfl) ?_
                      refine SafeOps.nil ?_
                      repeat (first | refine Safe.seq ?_ | refine Safe.skip ?_ | with_reducible refine thenQ.n ?_ | with_reducible refine blockQ.n ?_)
                      refine Safe.ret ?_
                      repeat (first | with_reducible refine thenQ.r ?_ | with_reducible refine blockQ.r ?_)
                      obtain rfl := Option.some.inj h
                      exact retQ.gen (vs := [V.int .i64 0]) rfl (.tmp (v := V.int .i64 0) rfl .nil) (.free rfl) (by simp) (.inr rfl)
                  · skip
                    refine Safe.condN rfl hc2306 ?_
                    repeat (first | refine Safe.seq ?_ | refine Safe.skip ?_ | with_reducible refine thenQ.n ?_ | with_reducible refine blockQ.n ?_)
                    refine Safe.region ?_
                    refine SafeOps.quiet0 E_good rfl rfl rfl (v := V.int .i64 (IntKind.i64.wrap (v8_2281 + 1))) (.fn rfl) ?_
                    refine SafeOps.quiet0 E_good rfl rfl rfl (v := V.int .i64 (IntKind.i64.wrap (v8_2281 + 1))) (.fn rfl) ?_
                    refine SafeOps.nil ?_
                    repeat (first | refine Safe.seq ?_ | refine Safe.skip ?_ | with_reducible refine thenQ.n ?_ | with_reducible refine blockQ.n ?_)
                    exact ⟨_, next_out h, (.cov ⟨rfl, rfl, (upT_cons (.refl _) (upT_cons (.refl _) (upT_cons (.refl _) (upT_cons (.refl _) upT_nil)))), (upOb_cons rfl (.refl _) (upOb_cons rfl (.refl _) upOb_nil)), (upOut_cons rfl upT_nil (upOut_cons rfl (upT_cons (.refl _) upT_nil) upOut_nil)), rfl⟩)⟩
                · skip
                  refine Safe.condN rfl hc2305 ?_
                  repeat (first | refine Safe.seq ?_ | refine Safe.skip ?_ | with_reducible refine thenQ.n ?_ | with_reducible refine blockQ.n ?_)
                  refine Safe.region ?_
                  refine SafeOps.quiet0 E_good rfl rfl rfl (v := V.int .i64 (IntKind.i64.wrap (v8_2300 + 1))) (.fn rfl) ?_
                  refine SafeOps.quiet0 E_good rfl rfl rfl (v := V.int .i64 (IntKind.i64.wrap (v8_2300 + 1))) (.fn rfl) ?_
                  refine SafeOps.nil ?_
                  repeat (first | refine Safe.seq ?_ | refine Safe.skip ?_ | with_reducible refine thenQ.n ?_ | with_reducible refine blockQ.n ?_)
                  exact ⟨_, next_out h, (.cov ⟨rfl, rfl, (upT_cons (.refl _) (upT_cons (.refl _) (upT_cons (.refl _) (upT_cons (.refl _) upT_nil)))), (upOb_cons rfl (.refl _) (upOb_cons rfl (.refl _) upOb_nil)), (upOut_cons rfl upT_nil (upOut_cons rfl upT_nil (upOut_cons rfl (upT_cons (.refl _) (upT_cons (.refl _) (upT_cons (.refl _) (upT_cons (.refl _) (upT_cons (.refl _) upT_nil))))) (upOut_cons rfl upT_nil (upOut_cons rfl (upT_cons (.refl _) upT_nil) upOut_nil))))), rfl⟩)⟩
              · skip
                refine Safe.condN rfl hc2304 ?_
                repeat (first | refine Safe.seq ?_ | refine Safe.skip ?_ | with_reducible refine thenQ.n ?_ | with_reducible refine blockQ.n ?_)
                refine Safe.region ?_
                refine SafeOps.quiet0 E_good rfl rfl rfl (v := V.bool (((gt (gt a0_1154.Progs v8_2281) v8_2300).Op) == 7)) (.fn rfl) ?_
                refine SafeOps.quiet0 E_good rfl rfl rfl (v := V.bool (((gt (gt a0_1154.Progs v8_2281) v8_2300).Op) == 7)) (.fn rfl) ?_
                refine SafeOps.nil ?_
                repeat (first | refine Safe.seq ?_ | refine Safe.skip ?_ | with_reducible refine thenQ.n ?_ | with_reducible refine blockQ.n ?_)
                refine Safe.joinT (fun (v13_2308 : Bool) => go_entry_Config_j13 a0_1154 v8_2281 v8_2300 v13_2308 = some ohr2301) (fun (v13_2308 : Bool) => ⟨Try.f37.ntmps, [(1, V.ptr [1] 0 0), (2, V.ptr [73, 7, 16, 6, 7, 16, 2] 0 0), (13, V.bool v13_2308)], [([1], Obj.box [V.int .i64 a0_1154.Workers, V.int .i64 a0_1154.Cap, V.int .i64 a0_1154.Budget, V.sl 1 (rws (fun n => [V.int .i64 n]) a0_1154.Weights), V.sl 1 (rws (fun n => [V.int .i64 n]) a0_1154.Quotas), V.sl 1 (rws (fun l => [V.sl 3 (rws api_Instr.cells l)]) a0_1154.Progs), V.int .i64 a0_1154.Tasks, V.int .i64 a0_1154.Fds, V.sl 1 (rws (fun n => [V.int .i64 n]) a0_1154.Sems)]), ([7], Obj.box [V.fn 37 [V.ptr [1] 0 0]]), ([73, 7, 16, 6, 7, 16, 2], Obj.box [V.int .i64 ((gt (gt a0_1154.Progs v8_2281) v8_2300).Op), V.int .i64 ((gt (gt a0_1154.Progs v8_2281) v8_2300).A), V.int .i64 ((gt (gt a0_1154.Progs v8_2281) v8_2300).B)])], [(Try.f56.ntmps, [(0, V.sl 3 (rws api_Instr.cells (gt a0_1154.Progs v8_2281))), (1, V.fn 37 [V.ptr [1] 0 0]), (5, V.int .i64 v8_2300), (7, V.int .i64 ((gt a0_1154.Progs v8_2281).length : Int)), (8, V.int .i64 v8_2300)]), (Try.f41.ntmps, []), (Try.f40.ntmps, []), (Try.f55.ntmps, [(0, V.sl 1 (rws (fun l => [V.sl 3 (rws api_Instr.cells l)]) a0_1154.Progs)), (1, V.fn 40 [V.ptr [7] 0 0]), (5, V.int .i64 v8_2281), (7, V.int .i64 (a0_1154.Progs.length : Int)), (8, V.int .i64 v8_2281)]), (Try.f39.ntmps, []), (Try.f21.ntmps, [(69, V.bool x_2136)])], [73, 7, 16, 6, 7, 16]⟩) ?_ (fun HJ2309 => ?_)
                · intro v13_2308 h
                  replace h : go_entry_Config_j13 a0_1154 v8_2281 v8_2300 v13_2308 = some ohr2301 := h
                  rw [go_entry_Config_j13] at h
                  repeat (first | refine Safe.seq ?_ | refine Safe.skip ?_ | with_reducible refine thenQ.n ?_ | with_reducible refine blockQ.n ?_)
                  refine ifG h (fun hc2310 h => ?_) (fun hc2310 h => ?_)
                  · skip
                    refine Safe.condK rfl hc2310 ?_
                    repeat (first | refine Safe.seq ?_ | refine Safe.skip ?_ | with_reducible refine thenQ.n ?_ | with_reducible refine blockQ.n ?_)
                    refine Safe.region ?_
                    refine SafeOps.quiet0 E_good rfl rfl rfl (v := V.ptr [73, 7, 16, 6, 7, 16, 2] 0 1) (.fn rfl) ?_
                    refine SafeOps.quiet0 E_good rfl rfl rfl (v := V.int .i64 ((gt (gt a0_1154.Progs v8_2281) v8_2300).A)) (.load rfl rfl (.box rfl rfl) rfl) ?_
                    refine SafeOps.quiet0 E_good rfl rfl rfl (v := V.ptr [1] 0 8) (.fn rfl) ?_
                    refine SafeOps.quiet0 E_good rfl rfl rfl (v := V.sl 1 (rws (fun n => [V.int .i64 n]) a0_1154.Sems)) (.load rfl rfl (.box rfl rfl) rfl) ?_
                    refine SafeOps.quiet0 E_good rfl rfl rfl (v := V.int .i64 (a0_1154.Sems.length : Int)) (.fnE rfl lenE) ?_
                    refine SafeOps.quiet0 E_good rfl rfl rfl (v := V.bool (decide (((gt (gt a0_1154.Progs v8_2281) v8_2300).A) ≥ (a0_1154.Sems.length : Int)))) (.fn rfl) ?_
                    refine SafeOps.quiet0 E_good rfl rfl rfl (v := V.bool (decide (((gt (gt a0_1154.Progs v8_2281) v8_2300).A) ≥ (a0_1154.Sems.length : Int)))) (.fn rfl) ?_
                    refine SafeOps.nil ?_
                    repeat (first | refine Safe.seq ?_ | refine Safe.skip ?_ | with_reducible refine thenQ.n ?_ | with_reducible refine blockQ.n ?_)
                    refine Safe.ret ?_
                    repeat (first | with_reducible refine thenQ.r ?_ | with_reducible refine blockQ.r ?_)
                    refine inQ.gen (vs := [V.bool (decide (((gt (gt a0_1154.Progs v8_2281) v8_2300).A) ≥ (a0_1154.Sems.length : Int)))]) (v := V.bool (decide (((gt (gt a0_1154.Progs v8_2281) v8_2300).A) ≥ (a0_1154.Sems.length : Int)))) (.inr rfl) rfl (.tmp (v := V.bool (decide (((gt (gt a0_1154.Progs v8_2281) v8_2300).A) ≥ (a0_1154.Sems.length : Int)))) rfl .nil) rfl ?_
                    refine SafeOps.nil ?_
                    repeat (first | refine Safe.seq ?_ | refine Safe.skip ?_ | with_reducible refine thenQ.n ?_ | with_reducible refine blockQ.n ?_)
                    refine ifG h (fun hc2311 h => ?_) (fun hc2311 h => ?_)
                    · skip
                      refine Safe.condK rfl hc2311 ?_
                      repeat (first | refine Safe.seq ?_ | refine Safe.skip ?_ | with_reducible refine thenQ.n ?_ | with_reducible refine blockQ.n ?_)
                      refine Safe.region ?_
                      refine SafeOps.quiet0 E_good rfl rfl rfl (v := V.int .i64 v8_2300) (.fn rfl) ?_
                      refine SafeOps.quiet0 E_good rfl rfl rfl (v := V.int .i64 v8_2300) (.fn rfl) ?_
                      refine SafeOps.nil ?_
                      repeat (first | refine Safe.seq ?_ | refine Safe.skip ?_ | with_reducible refine thenQ.n ?_ | with_reducible refine blockQ.n ?_)
                      refine Safe.ret ?_
                      repeat (first | with_reducible refine thenQ.r ?_ | with_reducible refine blockQ.r ?_)
                      refine inQ.gen (vs := [V.int .i64 v8_2300]) (v := V.int .i64 v8_2300) (.inr rfl) rfl (.tmp (v := V.int .i64 v8_2300) rfl .nil) rfl ?_
                      replace h := inr_out h hr2301
                      refine SafeOps.quiet0 E_good rfl rfl rfl (v := V.bool (decide (v8_2300 ≥ 0))) (.fn rfl) ?_
                      refine SafeOps.quiet0 E_good rfl rfl rfl (v := V.bool (decide (v8_2300 ≥ 0))) (.fn rfl) ?_
                      refine SafeOps.nil ?_
                      repeat (first | refine Safe.seq ?_ | refine Safe.skip ?_ | with_reducible refine thenQ.n ?_ | with_reducible refine blockQ.n ?_)
                      refine Safe.ret ?_
                      repeat (first | with_reducible refine thenQ.r ?_ | with_reducible refine blockQ.r ?_)
                      refine inQ.gen (vs := [V.bool (decide (v8_2300 ≥ 0))]) (v := V.bool (decide (v8_2300 ≥ 0))) (.inr rfl) rfl (.tmp (v := V.bool (decide (v8_2300 ≥ 0))) rfl .nil) rfl ?_
                      refine SafeOps.quiet0 E_good rfl rfl rfl (v := V.bool (decide (v8_2300 ≥ 0))) (.fn rfl) ?_
                      refine SafeOps.nil ?_
                      repeat (first | refine Safe.seq ?_ | refine Safe.skip ?_ | with_reducible refine thenQ.n ?_ | with_reducible refine blockQ.n ?_)
                      refine Safe.ret ?_
                      repeat (first | with_reducible refine thenQ.r ?_ | with_reducible refine blockQ.r ?_)
                      refine inQ.gen (vs := [V.bool (decide (v8_2300 ≥ 0))]) (v := V.bool (decide (v8_2300 ≥ 0))) (.inr rfl) rfl (.tmp (v := V.bool (decide (v8_2300 ≥ 0))) rfl .nil) rfl ?_
                      refine SafeOps.nil ?_
                      repeat (first | refine Safe.seq ?_ | refine Safe.skip ?_ | with_reducible refine thenQ.n ?_ | with_reducible refine blockQ.n ?_)
                      refine ifG h (fun hc2312 h => ?_) (fun hc2312 h => ?_)
                      · skip
                        refine Safe.condK rfl hc2312 ?_
                        repeat (first | refine Safe.seq ?_ | refine Safe.skip ?_ | with_reducible refine thenQ.n ?_ | with_reducible refine blockQ.n ?_)
                        refine Safe.region ?_
                        refine SafeOps.quiet0 E_good rfl rfl rfl (v := V.int .i64 v8_2281) (.fn rfl) ?_
                        refine SafeOps.quiet0 E_good rfl rfl rfl (v := V.int .i64 v8_2281) (.fn rfl) ?_
                        refine SafeOps.nil ?_
                        repeat (first | refine Safe.seq ?_ | refine Safe.skip ?_ | with_reducible refine thenQ.n ?_ | with_reducible refine blockQ.n ?_)
                        refine Safe.ret ?_
                        repeat (first | with_reducible refine thenQ.r ?_ | with_reducible refine blockQ.r ?_)
                        refine inQ.gen (vs := [V.int .i64 v8_2281]) (v := V.int .i64 v8_2281) (.inr rfl) rfl (.tmp (v := V.int .i64 v8_2281) rfl .nil) rfl ?_
                        replace h := inr_out h hr2282
                        refine SafeOps.quiet0 E_good rfl rfl rfl (v := V.bool (decide (v8_2281 ≥ 0))) (.fn rfl) ?_
                        refine SafeOps.quiet0 E_good rfl rfl rfl (v := V.bool (decide (v8_2281 ≥ 0))) (.fn rfl) ?_
                        refine SafeOps.nil ?_
                        repeat (first | refine Safe.seq ?_ | refine Safe.skip ?_ | with_reducible refine thenQ.n ?_ | with_reducible refine blockQ.n ?_)
                        refine Safe.ret ?_
                        repeat (first | with_reducible refine thenQ.r ?_ | with_reducible refine blockQ.r ?_)
                        refine inQ.gen (vs := [V.bool (decide (v8_2281 ≥ 0))]) (v := V.bool (decide (v8_2281 ≥ 0))) (.inr rfl) rfl (.tmp (v := V.bool (decide (v8_2281 ≥ 0))) rfl .nil) rfl ?_
                        refine SafeOps.quiet0 E_good rfl rfl rfl (v := V.bool (decide (v8_2281 ≥ 0))) (.pickK rfl hc2138 rfl) ?_
                        refine SafeOps.nil ?_
                        repeat (first | refine Safe.seq ?_ | refine Safe.skip ?_ | with_reducible refine thenQ.n ?_ | with_reducible refine blockQ.n ?_)
                        refine ifG h (fun hc2313 h => ?_) (fun hc2313 h => ?_)
                        · skip
                          refine Safe.condK rfl hc2313 ?_
                          repeat (first | refine Safe.seq ?_ | refine Safe.skip ?_ | with_reducible refine thenQ.n ?_ | with_reducible refine blockQ.n ?_)
                          refine Safe.region ?_
                          refine SafeOps.quiet0 E_good rfl rfl rfl (v := V.int .i64 1) (.fn rfl) ?_
                          refine SafeOps.nil ?_
                          repeat (first | refine Safe.seq ?_ | refine Safe.skip ?_ | with_reducible refine thenQ.n ?_ | with_reducible refine blockQ.n ?_)
                          refine Safe.ret ?_
                          repeat (first | with_reducible refine thenQ.r ?_ | with_reducible refine blockQ.r ?_)
                          obtain rfl := Option.some.inj h
                          exact retQ.gen (vs := [V.int .i64 1]) rfl (.tmp (v := V.int .i64 1) rfl .nil) (.free rfl) (by simp) (.inr rfl)
                        · skip
                          refine Safe.condN rfl hc2313 ?_
                          repeat (first | refine Safe.seq ?_ | refine Safe.skip ?_ | with_reducible refine thenQ.n ?_ | with_reducible refine blockQ.n ?_)
                          refine Safe.region ?_
                          refine SafeOps.quiet0 E_good rfl rfl rfl (v := V.int .i64 0) (.fn rfl) ?_
                          refine SafeOps.nil ?_
                          repeat (first | refine Safe.seq ?_ | refine Safe.skip ?_ | with_reducible refine thenQ.n ?_ | with_reducible refine blockQ.n ?_)
                          refine Safe.ret ?_
                          repeat (first | with_reducible refine thenQ.r ?_ | with_reducible refine blockQ.r ?_)
                          obtain rfl := Option.some.inj h
                          exact retQ.gen (vs := [V.int .i64 0]) rfl (.tmp (v := V.int .i64 0) rfl .nil) (.free rfl) (by simp) (.inr rfl)
                      · skip
                        refine Safe.condN rfl hc2312 ?_
                        repeat (first | refine Safe.seq ?_ | refine Safe.skip ?_ | with_reducible refine thenQ.n ?_ | with_reducible refine blockQ.n ?_)
                        refine Safe.region ?_
                        refine SafeOps.quiet0 E_good rfl rfl rfl (v := V.int .i64 (IntKind.i64.wrap (v8_2281 + 1))) (.fn rfl) ?_
                        refine SafeOps.quiet0 E_good rfl rfl rfl (v := V.int .i64 (IntKind.i64.wrap (v8_2281 + 1))) (.fn rfl) ?_
                        refine SafeOps.nil ?_
                        repeat (first | refine Safe.seq ?_ | refine Safe.skip ?_ | with_reducible refine thenQ.n ?_ | with_reducible refine blockQ.n ?_)
                        exact ⟨_, next_out h, (.cov ⟨rfl, rfl, (upT_cons (.refl _) (upT_cons (.refl _) (upT_cons (.refl _) (upT_cons (.refl _) upT_nil)))), (upOb_cons rfl (.refl _) (upOb_cons rfl (.refl _) upOb_nil)), (upOut_cons rfl upT_nil (upOut_cons rfl (upT_cons (.refl _) upT_nil) upOut_nil)), rfl⟩)⟩
                    · skip
                      refine Safe.condN rfl hc2311 ?_
                      repeat (first | refine Safe.seq ?_ | refine Safe.skip ?_ | with_reducible refine thenQ.n ?_ | with_reducible refine blockQ.n ?_)
                      refine Safe.region ?_
                      refine SafeOps.quiet0 E_good rfl rfl rfl (v := V.int .i64 (IntKind.i64.wrap (v8_2300 + 1))) (.fn rfl) ?_
                      refine SafeOps.quiet0 E_good rfl rfl rfl (v := V.int .i64 (IntKind.i64.wrap (v8_2300 + 1))) (.fn rfl) ?_
                      refine SafeOps.nil ?_
                      repeat (first | refine Safe.seq ?_ | refine Safe.skip ?_ | with_reducible refine thenQ.n ?_ | with_reducible refine blockQ.n ?_)
                      exact ⟨_, next_out h, (.cov ⟨rfl, rfl, (upT_cons (.refl _) (upT_cons (.refl _) (upT_cons (.refl _) (upT_cons (.refl _) upT_nil)))), (upOb_cons rfl (.refl _) (upOb_cons rfl (.refl _) upOb_nil)), (upOut_cons rfl upT_nil (upOut_cons rfl upT_nil (upOut_cons rfl (upT_cons (.refl _) (upT_cons (.refl _) (upT_cons (.refl _) (upT_cons (.refl _) (upT_cons (.refl _) upT_nil))))) (upOut_cons rfl upT_nil (upOut_cons rfl (upT_cons (.refl _) upT_nil) upOut_nil))))), rfl⟩)⟩
                  · skip
                    refine Safe.condN rfl hc2310 ?_
                    repeat (first | refine Safe.seq ?_ | refine Safe.skip ?_ | with_reducible refine thenQ.n ?_ | with_reducible refine blockQ.n ?_)
                    refine Safe.region ?_
                    refine SafeOps.quiet0 E_good rfl rfl rfl (v := V.bool false) (.fn rfl) ?_
                    refine SafeOps.nil ?_
                    repeat (first | refine Safe.seq ?_ | refine Safe.skip ?_ | with_reducible refine thenQ.n ?_ | with_reducible refine blockQ.n ?_)
                    refine Safe.ret ?_
                    repeat (first | with_reducible refine thenQ.r ?_ | with_reducible refine blockQ.r ?_)
                    refine inQ.gen (vs := [V.bool false]) (v := V.bool false) (.inr rfl) rfl (.tmp (v := V.bool false) rfl .nil) rfl ?_
                    refine SafeOps.nil ?_
                    repeat (first | refine Safe.seq ?_ | refine Safe.skip ?_ | with_reducible refine thenQ.n ?_ | with_reducible refine blockQ.n ?_)
                    refine Safe.condN rfl rfl ?_
                    repeat (first | refine Safe.seq ?_ | refine Safe.skip ?_ | with_reducible refine thenQ.n ?_ | with_reducible refine blockQ.n ?_)
                    refine Safe.region ?_
                    refine SafeOps.quiet0 E_good rfl rfl rfl (v := V.int .i64 (IntKind.i64.wrap (v8_2300 + 1))) (.fn rfl) ?_
                    refine SafeOps.quiet0 E_good rfl rfl rfl (v := V.int .i64 (IntKind.i64.wrap (v8_2300 + 1))) (.fn rfl) ?_
                    refine SafeOps.nil ?_
                    repeat (first | refine Safe.seq ?_ | refine Safe.skip ?_ | with_reducible refine thenQ.n ?_ | with_reducible refine blockQ.n ?_)
                    exact ⟨_, next_out h, (.cov ⟨rfl, rfl, (upT_cons (.refl _) (upT_cons (.refl _) (upT_cons (.refl _) (upT_cons (.refl _) upT_nil)))), (upOb_cons rfl (.refl _) (upOb_cons rfl (.refl _) upOb_nil)), (upOut_cons rfl upT_nil (upOut_cons rfl upT_nil (upOut_cons rfl (upT_cons (.refl _) (upT_cons (.refl _) (upT_cons (.refl _) (upT_cons (.refl _) (upT_cons (.refl _) upT_nil))))) (upOut_cons rfl upT_nil (upOut_cons rfl (upT_cons (.refl _) upT_nil) upOut_nil))))), rfl⟩)⟩
                · skip
                  refine ifG h (fun hc2314 h => ?_) (fun hc2314 h => ?_)
                  · skip
                    refine Safe.condK rfl hc2314 ?_
                    repeat (first | refine Safe.skip ?_ | with_reducible refine thenQ.n ?_ | with_reducible refine blockQ.n ?_)
                    exact Safe.got (HJ2309 ((((gt (gt a0_1154.Progs v8_2281) v8_2300).Op) == 7)) h) (.cov ⟨rfl, rfl, (upT_cons (.refl _) (upT_cons (.refl _) (upT_cons (.refl _) upT_nil))), (upOb_cons rfl (.refl _) (upOb_cons rfl (.refl _) (upOb_cons rfl (.refl _) upOb_nil))), (upOut_cons rfl (upT_cons (.refl _) (upT_cons (.refl _) (upT_cons (.refl _) (upT_cons (.refl _) (upT_cons (.refl _) upT_nil))))) (upOut_cons rfl upT_nil (upOut_cons rfl upT_nil (upOut_cons rfl (upT_cons (.refl _) (upT_cons (.refl _) (upT_cons (.refl _) (upT_cons (.refl _) (upT_cons (.refl _) upT_nil))))) (upOut_cons rfl upT_nil (upOut_cons rfl (upT_cons (.refl _) upT_nil) upOut_nil)))))), rfl⟩)
                  · skip
                    refine Safe.condN rfl hc2314 ?_
                    repeat (first | refine Safe.seq ?_ | refine Safe.skip ?_ | with_reducible refine thenQ.n ?_ | with_reducible refine blockQ.n ?_)
                    refine Safe.region ?_
                    refine SafeOps.quiet0 E_good rfl rfl rfl (v := V.bool (((gt (gt a0_1154.Progs v8_2281) v8_2300).Op) == 8)) (.fn rfl) ?_
                    refine SafeOps.quiet0 E_good rfl rfl rfl (v := V.bool (((gt (gt a0_1154.Progs v8_2281) v8_2300).Op) == 8)) (.fn rfl) ?_
                    refine SafeOps.nil ?_
                    repeat (first | refine Safe.skip ?_ | with_reducible refine thenQ.n ?_ | with_reducible refine blockQ.n ?_)
                    exact Safe.got (HJ2309 ((((gt (gt a0_1154.Progs v8_2281) v8_2300).Op) == 8)) h) (.cov ⟨rfl, rfl, (upT_cons (.refl _) (upT_cons (.refl _) (upT_cons (.refl _) upT_nil))), (upOb_cons rfl (.refl _) (upOb_cons rfl (.refl _) (upOb_cons rfl (.refl _) upOb_nil))), (upOut_cons rfl (upT_cons (.refl _) (upT_cons (.refl _) (upT_cons (.refl _) (upT_cons (.refl _) (upT_cons (.refl _) upT_nil))))) (upOut_cons rfl upT_nil (upOut_cons rfl upT_nil (upOut_cons rfl (upT_cons (.refl _) (upT_cons (.refl _) (upT_cons (.refl _) (upT_cons (.refl _) (upT_cons (.refl _) upT_nil))))) (upOut_cons rfl upT_nil (upOut_cons rfl (upT_cons (.refl _) upT_nil) upOut_nil)))))), rfl⟩)
            · skip
              refine Safe.condN rfl hc2302 ?_
              repeat (first | refine Safe.seq ?_ | refine Safe.skip ?_ | with_reducible refine thenQ.n ?_ | with_reducible refine blockQ.n ?_)
              refine Safe.exit ?_
              repeat (first | with_reducible refine thenQ.e ?_ | with_reducible refine blockQ.x rfl ?_ | with_reducible refine blockQ.y rfl ?_)
              replace h := inr_out h hr2301
              repeat (first | refine Safe.seq ?_ | refine Safe.skip ?_ | with_reducible refine thenQ.n ?_ | with_reducible refine blockQ.n ?_)
              refine Safe.region ?_
              refine SafeOps.quiet0 E_good rfl rfl rfl (v := V.int .i64 (-1)) (.fn rfl) ?_
              refine SafeOps.nil ?_
              repeat (first | refine Safe.seq ?_ | refine Safe.skip ?_ | with_reducible refine thenQ.n ?_ | with_reducible refine blockQ.n ?_)
              refine Safe.ret ?_
              repeat (first | with_reducible refine thenQ.r ?_ | with_reducible refine blockQ.r ?_)
              refine inQ.gen (vs := [V.int .i64 (-1)]) (v := V.int .i64 (-1)) (.inr rfl) rfl (.tmp (v := V.int .i64 (-1)) rfl .nil) rfl ?_
              refine SafeOps.quiet0 E_good rfl rfl rfl (v := V.bool false) (.fn rfl) ?_
              refine SafeOps.quiet0 E_good rfl rfl rfl (v := V.bool false) (.fn rfl) ?_
              refine SafeOps.nil ?_
              repeat (first | refine Safe.seq ?_ | refine Safe.skip ?_ | with_reducible refine thenQ.n ?_ | with_reducible refine blockQ.n ?_)
              refine Safe.ret ?_
              repeat (first | with_reducible refine thenQ.r ?_ | with_reducible refine blockQ.r ?_)
              refine inQ.gen (vs := [V.bool false]) (v := V.bool false) (.inr rfl) rfl (.tmp (v := V.bool false) rfl .nil) rfl ?_
              refine SafeOps.quiet0 E_good rfl rfl rfl (v := V.bool false) (.fn rfl) ?_
              refine SafeOps.nil ?_
              repeat (first | refine Safe.seq ?_ | refine Safe.skip ?_ | with_reducible refine thenQ.n ?_ | with_reducible refine blockQ.n ?_)
              refine Safe.ret ?_
              repeat (first | with_reducible refine thenQ.r ?_ | with_reducible refine blockQ.r ?_)
              refine inQ.gen (vs := [V.bool false]) (v := V.bool false) (.inr rfl) rfl (.tmp (v := V.bool false) rfl .nil) rfl ?_
              refine SafeOps.nil ?_
              repeat (first | refine Safe.seq ?_ | refine Safe.skip ?_ | with_reducible refine thenQ.n ?_ | with_reducible refine blockQ.n ?_)
              refine Safe.condN rfl rfl ?_
              repeat (first | refine Safe.seq ?_ | refine Safe.skip ?_ | with_reducible refine thenQ.n ?_ | with_reducible refine blockQ.n ?_)
              refine Safe.region ?_
              refine SafeOps.quiet0 E_good rfl rfl rfl (v := V.int .i64 (IntKind.i64.wrap (v8_2281 + 1))) (.fn rfl) ?_
              refine SafeOps.quiet0 E_good rfl rfl rfl (v := V.int .i64 (IntKind.i64.wrap (v8_2281 + 1))) (.fn rfl) ?_
              refine SafeOps.nil ?_
              repeat (first | refine Safe.seq ?_ | refine Safe.skip ?_ | with_reducible refine thenQ.n ?_ | with_reducible refine blockQ.n ?_)
              exact ⟨_, next_out h, (.cov ⟨rfl, rfl, (upT_cons (.refl _) (upT_cons (.refl _) (upT_cons (.refl _) (upT_cons (.refl _) upT_nil)))), (upOb_cons rfl (.refl _) (upOb_cons rfl (.refl _) upOb_nil)), (upOut_cons rfl upT_nil (upOut_cons rfl (upT_cons (.refl _) upT_nil) upOut_nil)), rfl⟩)⟩
          · skip
            refine Safe.condN rfl hc2283 ?_
            repeat (first | refine Safe.seq ?_ | refine Safe.skip ?_ | with_reducible refine thenQ.n ?_ | with_reducible refine blockQ.n ?_)
            refine Safe.exit ?_
            repeat (first | with_reducible refine thenQ.e ?_ | with_reducible refine blockQ.x rfl ?_ | with_reducible refine blockQ.y rfl ?_)
            replace h := inr_out h hr2282
            repeat (first | refine Safe.seq ?_ | refine Safe.skip ?_ | with_reducible refine thenQ.n ?_ | with_reducible refine blockQ.n ?_)
            refine Safe.region ?_
            refine SafeOps.quiet0 E_good rfl rfl rfl (v := V.int .i64 (-1)) (.fn rfl) ?_
            refine SafeOps.nil ?_
            repeat (first | refine Safe.seq ?_ | refine Safe.skip ?_ | with_reducible refine thenQ.n ?_ | with_reducible refine blockQ.n ?_)
            refine Safe.ret ?_
            repeat (first | with_reducible refine thenQ.r ?_ | with_reducible refine blockQ.r ?_)
            refine inQ.gen (vs := [V.int .i64 (-1)]) (v := V.int .i64 (-1)) (.inr rfl) rfl (.tmp (v := V.int .i64 (-1)) rfl .nil) rfl ?_
            refine SafeOps.quiet0 E_good rfl rfl rfl (v := V.bool false) (.fn rfl) ?_
            refine SafeOps.quiet0 E_good rfl rfl rfl (v := V.bool false) (.fn rfl) ?_
            refine SafeOps.nil ?_
            repeat (first | refine Safe.seq ?_ | refine Safe.skip ?_ | with_reducible refine thenQ.n ?_ | with_reducible refine blockQ.n ?_)
            refine Safe.ret ?_
            repeat (first | with_reducible refine thenQ.r ?_ | with_reducible refine blockQ.r ?_)
            refine inQ.gen (vs := [V.bool false]) (v := V.bool false) (.inr rfl) rfl (.tmp (v := V.bool false) rfl .nil) rfl ?_
            refine SafeOps.quiet0 E_good rfl rfl rfl (v := V.bool false) (.pickK rfl hc2138 rfl) ?_
            refine SafeOps.nil ?_
            repeat (first | refine Safe.seq ?_ | refine Safe.skip ?_ | with_reducible refine thenQ.n ?_ | with_reducible refine blockQ.n ?_)
            refine Safe.condN rfl rfl ?_
            repeat (first | refine Safe.seq ?_ | refine Safe.skip ?_ | with_reducible refine thenQ.n ?_ | with_reducible refine blockQ.n ?_)
            refine Safe.region ?_
            refine SafeOps.quiet0 E_good rfl rfl rfl (v := V.int .i64 0) (.fn rfl) ?_
            refine SafeOps.nil ?_
            repeat (first | refine Safe.seq ?_ | refine Safe.skip ?_ | with_reducible refine thenQ.n ?_ | with_reducible refine blockQ.n ?_)
            refine Safe.ret ?_
            repeat (first | with_reducible refine thenQ.r ?_ | with_reducible refine blockQ.r ?_)
            obtain rfl := Option.some.inj h
            exact retQ.gen (vs := [V.int .i64 0]) rfl (.tmp (v := V.int .i64 0) rfl .nil) (.free rfl) (by simp) (.inr rfl)

def go_ravelref19_in (a0_2318 : Int) (a1_2319 : Int) (a2_2320 : Int) : Bool :=
  ((decide (a0_2318 ≥ a1_2319)) && (decide (a0_2318 ≤ a2_2320)))

theorem go_ravelref19_in_sc (a0_2318 : Int) (a1_2319 : Int) (a2_2320 : Int) (r : Bool) (h : go_ravelref19_in a0_2318 a1_2319 a2_2320 = r) : SC Try.prog gl 31 [V.int .i64 a0_2318, V.int .i64 a1_2319, V.int .i64 a2_2320] (V.bool r) := by
  rw [go_ravelref19_in] at h
  refine SC.of E_good Try.func31 rfl (fun _ _ => Try.call31 _ _) rfl ?_
  repeat (first | refine Safe.seq ?_ | refine Safe.skip ?_ | with_reducible refine thenQ.n ?_ | with_reducible refine blockQ.n ?_)
  refine Safe.region ?_
  refine SafeOps.quiet0 E_good rfl rfl rfl (v := V.bool false) (.fn rfl) ?_
  refine SafeOps.nil ?_
  repeat (first | refine Safe.seq ?_ | refine Safe.skip ?_ | with_reducible refine thenQ.n ?_ | with_reducible refine blockQ.n ?_)
  refine Safe.region ?_
  refine SafeOps.quiet0 E_good rfl rfl rfl (v := V.int .i64 a0_2318) (.fn rfl) ?_
  refine SafeOps.quiet0 E_good rfl rfl rfl (v := V.int .i64 a1_2319) (.fn rfl) ?_
  refine SafeOps.quiet0 E_good rfl rfl rfl (v := V.bool (decide (a0_2318 ≥ a1_2319))) (.fn rfl) ?_
  refine SafeOps.quiet0 E_good rfl rfl rfl (v := V.bool (decide (a0_2318 ≥ a1_2319))) (.fn rfl) ?_
  refine SafeOps.bjoin 4 14 (b := ((decide (a0_2318 ≥ a1_2319)) && (decide (a0_2318 ≤ a2_2320)))) (b1 := decide (a0_2318 ≤ a2_2320)) (b0 := false) (fun hc2322 K => ?_) (fun hc2322 K => ?_) bj_and ?_
  · skip
    refine SafeOps.quiet0 E_good (congrArg some hc2322) rfl rfl (v := V.int .i64 a0_2318) (.fn rfl) ?_
    refine SafeOps.quiet0 E_good (congrArg some hc2322) rfl rfl (v := V.int .i64 a2_2320) (.fn rfl) ?_
    refine SafeOps.quiet0 E_good (congrArg some hc2322) rfl rfl (v := V.bool (decide (a0_2318 ≤ a2_2320))) (.fn rfl) ?_
    refine SafeOps.quiet0 E_good rfl rfl rfl (v := V.bool (decide (a0_2318 ≤ a2_2320))) (.pickK rfl hc2322 rfl) ?_
    exact SafeOps.drop' 4 rfl rfl rfl K
  · skip
    refine SafeOps.skip (congrArg some hc2322) rfl rfl ?_
    refine SafeOps.skip (congrArg some hc2322) rfl rfl ?_
    refine SafeOps.skip (congrArg some hc2322) rfl rfl ?_
    refine SafeOps.quiet0 E_good rfl rfl rfl (v := V.bool false) (.pickK rfl hc2322 rfl) ?_
    exact SafeOps.drop' 4 rfl rfl rfl K
  refine SafeOps.quiet0 E_good rfl rfl rfl (v := V.bool ((decide (a0_2318 ≥ a1_2319)) && (decide (a0_2318 ≤ a2_2320)))) (.fn rfl) ?_
  refine SafeOps.nil ?_
  repeat (first | refine Safe.seq ?_ | refine Safe.skip ?_ | with_reducible refine thenQ.n ?_ | with_reducible refine blockQ.n ?_)
  refine Safe.ret ?_
  repeat (first | with_reducible refine thenQ.r ?_ | with_reducible refine blockQ.r ?_)
  obtain rfl := h
  exact retQ.gen (vs := [V.bool ((decide (a0_2318 ≥ a1_2319)) && (decide (a0_2318 ≤ a2_2320)))]) rfl (.tmp (v := V.bool ((decide (a0_2318 ≥ a1_2319)) && (decide (a0_2318 ≤ a2_2320)))) rfl .nil) (.free rfl) (by simp) (.inr rfl)

def go_ravelref14_in (a0_2379 : Int) (a1_2380 : Int) (a2_2381 : Int) : Bool :=
  ((decide (a0_2379 ≥ a1_2380)) && (decide (a0_2379 ≤ a2_2381)))

theorem go_ravelref14_in_sc (a0_2379 : Int) (a1_2380 : Int) (a2_2381 : Int) (r : Bool) (h : go_ravelref14_in a0_2379 a1_2380 a2_2381 = r) : SC Try.prog gl 65 [V.int .i64 a0_2379, V.int .i64 a1_2380, V.int .i64 a2_2381] (V.bool r) := by
  rw [go_ravelref14_in] at h
  refine SC.of E_good Try.func65 rfl (fun _ _ => Try.call65 _ _) rfl ?_
  repeat (first | refine Safe.seq ?_ | refine Safe.skip ?_ | with_reducible refine thenQ.n ?_ | with_reducible refine blockQ.n ?_)
  refine Safe.region ?_
  refine SafeOps.quiet0 E_good rfl rfl rfl (v := V.bool false) (.fn rfl) ?_
  refine SafeOps.nil ?_
  repeat (first | refine Safe.seq ?_ | refine Safe.skip ?_ | with_reducible refine thenQ.n ?_ | with_reducible refine blockQ.n ?_)
  refine Safe.region ?_
  refine SafeOps.quiet0 E_good rfl rfl rfl (v := V.int .i64 a0_2379) (.fn rfl) ?_
  refine SafeOps.quiet0 E_good rfl rfl rfl (v := V.int .i64 a1_2380) (.fn rfl) ?_
  refine SafeOps.quiet0 E_good rfl rfl rfl (v := V.bool (decide (a0_2379 ≥ a1_2380))) (.fn rfl) ?_
  refine SafeOps.quiet0 E_good rfl rfl rfl (v := V.bool (decide (a0_2379 ≥ a1_2380))) (.fn rfl) ?_
  refine SafeOps.bjoin 4 14 (b := ((decide (a0_2379 ≥ a1_2380)) && (decide (a0_2379 ≤ a2_2381)))) (b1 := decide (a0_2379 ≤ a2_2381)) (b0 := false) (fun hc2383 K => ?_) (fun hc2383 K => ?_) bj_and ?_
  · skip
    refine SafeOps.quiet0 E_good (congrArg some hc2383) rfl rfl (v := V.int .i64 a0_2379) (.fn rfl) ?_
    refine SafeOps.quiet0 E_good (congrArg some hc2383) rfl rfl (v := V.int .i64 a2_2381) (.fn rfl) ?_
    refine SafeOps.quiet0 E_good (congrArg some hc2383) rfl rfl (v := V.bool (decide (a0_2379 ≤ a2_2381))) (.fn rfl) ?_
    refine SafeOps.quiet0 E_good rfl rfl rfl (v := V.bool (decide (a0_2379 ≤ a2_2381))) (.pickK rfl hc2383 rfl) ?_
    exact SafeOps.drop' 4 rfl rfl rfl K
  · skip
    refine SafeOps.skip (congrArg some hc2383) rfl rfl ?_
    refine SafeOps.skip (congrArg some hc2383) rfl rfl ?_
    refine SafeOps.skip (congrArg some hc2383) rfl rfl ?_
    refine SafeOps.quiet0 E_good rfl rfl rfl (v := V.bool false) (.pickK rfl hc2383 rfl) ?_
    exact SafeOps.drop' 4 rfl rfl rfl K
  refine SafeOps.quiet0 E_good rfl rfl rfl (v := V.bool ((decide (a0_2379 ≥ a1_2380)) && (decide (a0_2379 ≤ a2_2381)))) (.fn rfl) ?_
  refine SafeOps.nil ?_
  repeat (first | refine Safe.seq ?_ | refine Safe.skip ?_ | with_reducible refine thenQ.n ?_ | with_reducible refine blockQ.n ?_)
  refine Safe.ret ?_
  repeat (first | with_reducible refine thenQ.r ?_ | with_reducible refine blockQ.r ?_)
  obtain rfl := h
  exact retQ.gen (vs := [V.bool ((decide (a0_2379 ≥ a1_2380)) && (decide (a0_2379 ≤ a2_2381)))]) rfl (.tmp (v := V.bool ((decide (a0_2379 ≥ a1_2380)) && (decide (a0_2379 ≤ a2_2381)))) rfl .nil) (.free rfl) (by simp) (.inr rfl)
end Go.Proofs.Ythhpnmfcmgdghaa
