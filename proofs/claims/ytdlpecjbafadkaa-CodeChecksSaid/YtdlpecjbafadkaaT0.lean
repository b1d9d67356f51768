/- Helper lemmas for the claim's theorem: an abstract machine over the model, proved sound; no condition beyond each lemma's own. -/
import Derived.Test.YtdlpecjbafadkaaSEnv
set_option linter.unusedVariables false
set_option linter.unusedSimpArgs false
set_option linter.unnecessarySimpa false
set_option linter.unusedSectionVars false
namespace Go.Proofs.Ytdlpecjbafadkaa
open Go Go.AM
set_option maxRecDepth 100000
set_option maxHeartbeats 1000000
set_option linter.unusedVariables false
set_option linter.unusedSimpArgs false
variable {gl : List (Nat × List V)}
@[ext] structure api_Instr where
  Op : Int
  A : Int
  B : Int
  deriving Inhabited
def api_Instr.cells (x : api_Instr) : List V := [V.int .i64 x.Op, V.int .i64 x.A, V.int .i64 x.B]
def api_Instr.zero : api_Instr := ⟨0, 0, 0⟩
def api_Instr.beq (x y : api_Instr) : Bool := ((x.Op == y.Op) && ((x.A == y.A) && ((x.B == y.B) && true)))

def go_code_within (a0_25 : Int) (a1_26 : Int) : Bool :=
  ((decide (a0_25 ≥ 0)) && (decide (a0_25 < a1_26)))

theorem go_code_within_sc (a0_25 : Int) (a1_26 : Int) (r : Bool) (h : go_code_within a0_25 a1_26 = r) : SC Try.prog gl 26 [V.int .i64 a0_25, V.int .i64 a1_26] (V.bool r) := by
  rw [go_code_within] at h
  refine SC.of E_good Try.func26 rfl (fun _ _ => Try.call26 _ _) rfl ?_
  repeat (first | refine Safe.seq ?_ | refine Safe.skip ?_ | with_reducible refine thenQ.n ?_ | with_reducible refine blockQ.n ?_)
  refine Safe.region ?_
  refine SafeOps.quiet0 E_good rfl rfl rfl (v := V.bool false) (.fn rfl) ?_
  refine SafeOps.nil ?_
  repeat (first | refine Safe.seq ?_ | refine Safe.skip ?_ | with_reducible refine thenQ.n ?_ | with_reducible refine blockQ.n ?_)
  refine Safe.region ?_
  refine SafeOps.quiet0 E_good rfl rfl rfl (v := V.int .i64 a0_25) (.fn rfl) ?_
  refine SafeOps.quiet0 E_good rfl rfl rfl (v := V.bool (decide (a0_25 ≥ 0))) (.fn rfl) ?_
  refine SafeOps.quiet0 E_good rfl rfl rfl (v := V.bool (decide (a0_25 ≥ 0))) (.fn rfl) ?_
  refine SafeOps.bjoin 4 11 (b := ((decide (a0_25 ≥ 0)) && (decide (a0_25 < a1_26)))) (b1 := decide (a0_25 < a1_26)) (b0 := false) (fun hc28 K => ?_) (fun hc28 K => ?_) bj_and ?_
  · skip
    refine SafeOps.quiet0 E_good (congrArg some hc28) rfl rfl (v := V.int .i64 a0_25) (.fn rfl) ?_
    refine SafeOps.quiet0 E_good (congrArg some hc28) rfl rfl (v := V.int .i64 a1_26) (.fn rfl) ?_
    refine SafeOps.quiet0 E_good (congrArg some hc28) rfl rfl (v := V.bool (decide (a0_25 < a1_26))) (.fn rfl) ?_
    refine SafeOps.quiet0 E_good rfl rfl rfl (v := V.bool (decide (a0_25 < a1_26))) (.pickK rfl hc28 rfl) ?_
    exact SafeOps.drop' 4 rfl rfl rfl K
  · skip
    refine SafeOps.skip (congrArg some hc28) rfl rfl ?_
    refine SafeOps.skip (congrArg some hc28) rfl rfl ?_
    refine SafeOps.skip (congrArg some hc28) rfl rfl ?_
    refine SafeOps.quiet0 E_good rfl rfl rfl (v := V.bool false) (.pickK rfl hc28 rfl) ?_
    exact SafeOps.drop' 4 rfl rfl rfl K
  refine SafeOps.quiet0 E_good rfl rfl rfl (v := V.bool ((decide (a0_25 ≥ 0)) && (decide (a0_25 < a1_26)))) (.fn rfl) ?_
  refine SafeOps.nil ?_
  repeat (first | refine Safe.seq ?_ | refine Safe.skip ?_ | with_reducible refine thenQ.n ?_ | with_reducible refine blockQ.n ?_)
  refine Safe.ret ?_
  repeat (first | with_reducible refine thenQ.r ?_ | with_reducible refine blockQ.r ?_)
  obtain rfl := h
  exact retQ.gen (vs := [V.bool ((decide (a0_25 ≥ 0)) && (decide (a0_25 < a1_26)))]) rfl (.tmp (v := V.bool ((decide (a0_25 ≥ 0)) && (decide (a0_25 < a1_26)))) rfl .nil) (.free rfl) (by simp) (.inr rfl)

def go_code_odd_j2 (v3_46 : Bool) (v4_47 : Bool) : Bool :=
  ((!v3_46) || (!v4_47))

def go_code_odd_j4 (a0_23 : api_Instr) (v46_58 : Bool) : Bool :=
  if v46_58 = true then
    go_code_odd_j2 (go_code_within a0_23.A 8) (a0_23.B == 0)
  else
    true

def go_code_odd_j3 (a0_23 : api_Instr) (v27_52 : Bool) : Bool :=
  if v27_52 = true then
    go_code_odd_j2 (a0_23.A == 0) (a0_23.B == 0)
  else
    if (a0_23.Op == 4) = true then
      go_code_odd_j2 (go_code_within (IntKind.i64.wrap (a0_23.A - 1)) 1000) (a0_23.B == 0)
    else
      if (a0_23.Op == 5) = true then
        go_code_odd_j2 (go_code_within a0_23.A 16) (a0_23.B == 0)
      else
        if (a0_23.Op == 6) = true then
          go_code_odd_j2 (go_code_within a0_23.A 4) (a0_23.B == 0)
        else
          if (a0_23.Op == 7) = true then
            go_code_odd_j4 a0_23 (a0_23.Op == 7)
          else
            go_code_odd_j4 a0_23 (a0_23.Op == 8)

def go_code_odd (a0_23 : api_Instr) : Bool :=
  if (a0_23.Op == 1) = true then
    go_code_odd_j2 (go_code_within (IntKind.i64.wrap (a0_23.A - 1)) 100) (a0_23.B == 0)
  else
    if (a0_23.Op == 2) = true then
      go_code_odd_j2 (go_code_within a0_23.A 16) (go_code_within a0_23.B 4)
    else
      if (a0_23.Op == 3) = true then
        go_code_odd_j3 a0_23 (a0_23.Op == 3)
      else
        go_code_odd_j3 a0_23 (a0_23.Op == 9)

theorem go_code_odd_sc (a0_23 : api_Instr) (r : Bool) (h : go_code_odd a0_23 = r) : SC Try.prog gl 31 [V.agg [V.int .i64 a0_23.Op, V.int .i64 a0_23.A, V.int .i64 a0_23.B]] (V.bool r) := by
  rw [go_code_odd] at h
  refine SC.of E_good Try.func31 rfl (fun _ _ => Try.call31 _ _) rfl ?_
  repeat (first | refine Safe.seq ?_ | refine Safe.skip ?_ | with_reducible refine thenQ.n ?_ | with_reducible refine blockQ.n ?_)
  refine Safe.region ?_
  refine SafeOps.quiet1 E_good rfl rfl rfl (.box rfl rfl) rfl ?_
  refine SafeOps.quiet0 E_good rfl rfl rfl (v := V.bool false) (.fn rfl) ?_
  refine SafeOps.nil ?_
  repeat (first | refine Safe.seq ?_ | refine Safe.skip ?_ | with_reducible refine thenQ.n ?_ | with_reducible refine blockQ.n ?_)
  refine Safe.regionD (n := 8) [] [] E_good mixed rfl ?_
  refine DAny.take (i := 0) rfl (by kernel_rfl) [] (by kernel_rfl) (by kernel_rfl) (by kernel_rfl) rfl rfl rfl (v := V.ptr [1] 0 1) (fun _ hz => (.fn rfl)) ?_
  refine DAny.take (i := 1) rfl (by kernel_rfl) [] (by kernel_rfl) (by kernel_rfl) (by kernel_rfl) rfl rfl rfl (v := V.int .i64 a0_23.A) (fun _ hz => (.load rfl rfl (.box (hz _ _ rfl rfl) rfl) rfl)) ?_
  refine DAny.take (i := 2) rfl (by kernel_rfl) [] (by kernel_rfl) (by kernel_rfl) (by kernel_rfl) rfl rfl rfl (v := V.bool (a0_23.A == 0)) (fun _ hz => (.fn rfl)) ?_
  refine DAny.take (i := 3) rfl (by kernel_rfl) [] (by kernel_rfl) (by kernel_rfl) (by kernel_rfl) rfl rfl rfl (v := V.ptr [1] 0 2) (fun _ hz => (.fn rfl)) ?_
  refine DAny.take (i := 4) rfl (by kernel_rfl) [] (by kernel_rfl) (by kernel_rfl) (by kernel_rfl) rfl rfl rfl (v := V.int .i64 a0_23.B) (fun _ hz => (.load rfl rfl (.box (hz _ _ rfl rfl) rfl) rfl)) ?_
  refine DAny.take (i := 5) rfl (by kernel_rfl) [] (by kernel_rfl) (by kernel_rfl) (by kernel_rfl) rfl rfl rfl (v := V.bool (a0_23.B == 0)) (fun _ hz => (.fn rfl)) ?_
  refine DAny.take (i := 6) rfl (by kernel_rfl) [] (by kernel_rfl) (by kernel_rfl) (by kernel_rfl) rfl rfl rfl (v := V.bool (a0_23.A == 0)) (fun _ hz => (.fn rfl)) ?_
  refine DAny.take (i := 7) rfl (by kernel_rfl) [] (by kernel_rfl) (by kernel_rfl) (by kernel_rfl) rfl rfl rfl (v := V.bool (a0_23.B == 0)) (fun _ hz => (.fn rfl)) ?_
  refine DAny.nil (by kernel_rfl) ?_
  repeat (first | refine Safe.seq ?_ | refine Safe.skip ?_ | with_reducible refine thenQ.n ?_ | with_reducible refine blockQ.n ?_)
  refine Safe.region ?_
  refine SafeOps.quiet0 E_good rfl rfl rfl (v := V.ptr [1] 0 0) (.fn rfl) ?_
  refine SafeOps.quiet0 E_good rfl rfl rfl (v := V.int .i64 a0_23.Op) (.load rfl rfl (.box rfl rfl) rfl) ?_
  refine SafeOps.nil ?_
  repeat (first | refine Safe.seq ?_ | refine Safe.skip ?_ | with_reducible refine thenQ.n ?_ | with_reducible refine blockQ.n ?_)
  refine Safe.joinT (fun ((v3_46, v4_47) : Bool × Bool) => go_code_odd_j2 v3_46 v4_47 = r) (fun ((v3_46, v4_47) : Bool × Bool) => ⟨Try.f31.ntmps, [(3, V.bool v3_46), (4, V.bool v4_47)], [], [], []⟩) ?_ (fun HJ48 => ?_)
  · rintro ⟨v3_46, v4_47⟩ h
    replace h : go_code_odd_j2 v3_46 v4_47 = r := h
    rw [go_code_odd_j2] at h
    repeat (first | refine Safe.seq ?_ | refine Safe.skip ?_ | with_reducible refine thenQ.n ?_ | with_reducible refine blockQ.n ?_)
    refine Safe.region ?_
    refine SafeOps.quiet0 E_good rfl rfl rfl (v := V.bool v3_46) (.fn rfl) ?_
    refine SafeOps.quiet0 E_good rfl rfl rfl (v := V.bool (!v3_46)) (.fn rfl) ?_
    refine SafeOps.quiet0 E_good rfl rfl rfl (v := V.bool (!v3_46)) (.fn rfl) ?_
    refine SafeOps.bjoin 3 57 (b := ((!v3_46) || (!v4_47))) (b1 := true) (b0 := (!v4_47)) (fun hc49 K => ?_) (fun hc49 K => ?_) bj_or ?_
    · skip
      refine SafeOps.skip (congrArg (fun b => some (!b)) hc49) rfl rfl ?_
      refine SafeOps.skip (congrArg (fun b => some (!b)) hc49) rfl rfl ?_
      refine SafeOps.quiet0 E_good rfl rfl rfl (v := V.bool true) (.pickK rfl hc49 rfl) ?_
      exact SafeOps.drop' 3 rfl rfl rfl K
    · skip
      refine SafeOps.quiet0 E_good (congrArg (fun b => some (!b)) hc49) rfl rfl (v := V.bool v4_47) (.fn rfl) ?_
      refine SafeOps.quiet0 E_good (congrArg (fun b => some (!b)) hc49) rfl rfl (v := V.bool (!v4_47)) (.fn rfl) ?_
      refine SafeOps.quiet0 E_good rfl rfl rfl (v := V.bool (!v4_47)) (.pickK rfl hc49 rfl) ?_
      exact SafeOps.drop' 3 rfl rfl rfl K
    refine SafeOps.quiet0 E_good rfl rfl rfl (v := V.bool ((!v3_46) || (!v4_47))) (.fn rfl) ?_
    refine SafeOps.nil ?_
    repeat (first | refine Safe.seq ?_ | refine Safe.skip ?_ | with_reducible refine thenQ.n ?_ | with_reducible refine blockQ.n ?_)
    refine Safe.ret ?_
    repeat (first | with_reducible refine thenQ.r ?_ | with_reducible refine blockQ.r ?_)
    obtain rfl := h
    exact retQ.gen (vs := [V.bool ((!v3_46) || (!v4_47))]) rfl (.tmp (v := V.bool ((!v3_46) || (!v4_47))) rfl .nil) (.free rfl) (by simp) (.inr rfl)
  · skip
    refine Safe.block ?_
    repeat (first | refine Safe.seq ?_ | refine Safe.skip ?_ | with_reducible refine thenQ.n ?_ | with_reducible refine blockQ.n ?_)
    refine Safe.region ?_
    refine SafeOps.quiet0 E_good rfl rfl rfl (v := V.bool (a0_23.Op == 1)) (.fn rfl) ?_
    refine SafeOps.quiet0 E_good rfl rfl rfl (v := V.bool (a0_23.Op == 1)) (.fn rfl) ?_
    refine SafeOps.nil ?_
    repeat (first | refine Safe.seq ?_ | refine Safe.skip ?_ | with_reducible refine thenQ.n ?_ | with_reducible refine blockQ.n ?_)
    refine ifG h (fun hc50 h => ?_) (fun hc50 h => ?_)
    · skip
      refine Safe.condK rfl hc50 ?_
      repeat (first | refine Safe.seq ?_ | refine Safe.skip ?_ | with_reducible refine thenQ.n ?_ | with_reducible refine blockQ.n ?_)
      refine Safe.region ?_
      refine SafeOps.quiet0 E_good rfl rfl rfl (v := V.ptr [1] 0 1) (.fn rfl) ?_
      refine SafeOps.quiet0 E_good rfl rfl rfl (v := V.int .i64 a0_23.A) (.load rfl rfl (.box rfl rfl) rfl) ?_
      refine SafeOps.quiet0 E_good rfl rfl rfl (v := V.int .i64 (IntKind.i64.wrap (a0_23.A - 1))) (.fn rfl) ?_
      refine SafeOps.quiet0 E_good rfl rfl rfl (v := V.bool (go_code_within (IntKind.i64.wrap (a0_23.A - 1)) 100)) (.callP rfl rfl (go_code_within_sc (IntKind.i64.wrap (a0_23.A - 1)) 100 _ rfl) rfl) ?_
      refine SafeOps.quiet0 E_good rfl rfl rfl (v := V.bool (go_code_within (IntKind.i64.wrap (a0_23.A - 1)) 100)) (.fn rfl) ?_
      refine SafeOps.nil ?_
      repeat (first | refine Safe.skip ?_ | with_reducible refine thenQ.n ?_ | with_reducible refine blockQ.n ?_)
      exact Safe.got (HJ48 (go_code_within (IntKind.i64.wrap (a0_23.A - 1)) 100, (a0_23.B == 0)) h) (.cov ⟨rfl, rfl, (upT_cons (.refl _) (upT_cons (.refl _) upT_nil)), upOb_nil, upOut_nil, rfl⟩)
    · skip
      refine Safe.condN rfl hc50 ?_
      repeat (first | refine Safe.seq ?_ | refine Safe.skip ?_ | with_reducible refine thenQ.n ?_ | with_reducible refine blockQ.n ?_)
      refine Safe.region ?_
      refine SafeOps.quiet0 E_good rfl rfl rfl (v := V.bool (a0_23.Op == 2)) (.fn rfl) ?_
      refine SafeOps.quiet0 E_good rfl rfl rfl (v := V.bool (a0_23.Op == 2)) (.fn rfl) ?_
      refine SafeOps.nil ?_
      repeat (first | refine Safe.seq ?_ | refine Safe.skip ?_ | with_reducible refine thenQ.n ?_ | with_reducible refine blockQ.n ?_)
      refine ifG h (fun hc51 h => ?_) (fun hc51 h => ?_)
      · skip
        refine Safe.condK rfl hc51 ?_
        repeat (first | refine Safe.seq ?_ | refine Safe.skip ?_ | with_reducible refine thenQ.n ?_ | with_reducible refine blockQ.n ?_)
        refine Safe.regionD (n := 8) [] [] E_good mixed rfl ?_
        refine DAny.take (i := 0) rfl (by kernel_rfl) [] (by kernel_rfl) (by kernel_rfl) (by kernel_rfl) rfl rfl rfl (v := V.ptr [1] 0 1) (fun _ hz => (.fn rfl)) ?_
        refine DAny.take (i := 1) rfl (by kernel_rfl) [] (by kernel_rfl) (by kernel_rfl) (by kernel_rfl) rfl rfl rfl (v := V.int .i64 a0_23.A) (fun _ hz => (.load rfl rfl (.box (hz _ _ rfl rfl) rfl) rfl)) ?_
        refine DAny.take (i := 2) rfl (by kernel_rfl) [] (by kernel_rfl) (by kernel_rfl) (by kernel_rfl) rfl rfl rfl (v := V.bool (go_code_within a0_23.A 16)) (fun _ hz => (.callP rfl rfl (go_code_within_sc a0_23.A 16 _ rfl) rfl)) ?_
        refine DAny.take (i := 3) rfl (by kernel_rfl) [] (by kernel_rfl) (by kernel_rfl) (by kernel_rfl) rfl rfl rfl (v := V.ptr [1] 0 2) (fun _ hz => (.fn rfl)) ?_
        refine DAny.take (i := 4) rfl (by kernel_rfl) [] (by kernel_rfl) (by kernel_rfl) (by kernel_rfl) rfl rfl rfl (v := V.int .i64 a0_23.B) (fun _ hz => (.load rfl rfl (.box (hz _ _ rfl rfl) rfl) rfl)) ?_
        refine DAny.take (i := 5) rfl (by kernel_rfl) [] (by kernel_rfl) (by kernel_rfl) (by kernel_rfl) rfl rfl rfl (v := V.bool (go_code_within a0_23.B 4)) (fun _ hz => (.callP rfl rfl (go_code_within_sc a0_23.B 4 _ rfl) rfl)) ?_
        refine DAny.take (i := 6) rfl (by kernel_rfl) [] (by kernel_rfl) (by kernel_rfl) (by kernel_rfl) rfl rfl rfl (v := V.bool (go_code_within a0_23.A 16)) (fun _ hz => (.fn rfl)) ?_
        refine DAny.take (i := 7) rfl (by kernel_rfl) [] (by kernel_rfl) (by kernel_rfl) (by kernel_rfl) rfl rfl rfl (v := V.bool (go_code_within a0_23.B 4)) (fun _ hz => (.fn rfl)) ?_
        refine DAny.nil (by kernel_rfl) ?_
        repeat (first | refine Safe.skip ?_ | with_reducible refine thenQ.n ?_ | with_reducible refine blockQ.n ?_)
        exact Safe.got (HJ48 (go_code_within a0_23.A 16, go_code_within a0_23.B 4) h) (.cov ⟨rfl, rfl, (upT_cons (.refl _) (upT_cons (.refl _) upT_nil)), upOb_nil, upOut_nil, rfl⟩)
      · skip
        refine Safe.condN rfl hc51 ?_
        repeat (first | refine Safe.seq ?_ | refine Safe.skip ?_ | with_reducible refine thenQ.n ?_ | with_reducible refine blockQ.n ?_)
        refine Safe.region ?_
        refine SafeOps.quiet0 E_good rfl rfl rfl (v := V.bool (a0_23.Op == 3)) (.fn rfl) ?_
        refine SafeOps.quiet0 E_good rfl rfl rfl (v := V.bool (a0_23.Op == 3)) (.fn rfl) ?_
        refine SafeOps.nil ?_
        repeat (first | refine Safe.seq ?_ | refine Safe.skip ?_ | with_reducible refine thenQ.n ?_ | with_reducible refine blockQ.n ?_)
        refine Safe.joinT (fun (v27_52 : Bool) => go_code_odd_j3 a0_23 v27_52 = r) (fun (v27_52 : Bool) => ⟨Try.f31.ntmps, [(1, V.ptr [1] 0 0), (3, V.bool (a0_23.A == 0)), (4, V.bool (a0_23.B == 0)), (12, V.int .i64 a0_23.Op), (27, V.bool v27_52)], [([1], Obj.box [V.int .i64 a0_23.Op, V.int .i64 a0_23.A, V.int .i64 a0_23.B])], [], []⟩) ?_ (fun HJ53 => ?_)
        · intro v27_52 h
          replace h : go_code_odd_j3 a0_23 v27_52 = r := h
          rw [go_code_odd_j3] at h
          repeat (first | refine Safe.seq ?_ | refine Safe.skip ?_ | with_reducible refine thenQ.n ?_ | with_reducible refine blockQ.n ?_)
          refine ifG h (fun hc54 h => ?_) (fun hc54 h => ?_)
          · skip
            refine Safe.condK rfl hc54 ?_
            repeat (first | refine Safe.skip ?_ | with_reducible refine thenQ.n ?_ | with_reducible refine blockQ.n ?_)
            exact Safe.got (HJ48 ((a0_23.A == 0), (a0_23.B == 0)) h) (.cov ⟨rfl, rfl, (upT_cons (.refl _) (upT_cons (.refl _) upT_nil)), upOb_nil, upOut_nil, rfl⟩)
          · skip
            refine Safe.condN rfl hc54 ?_
            repeat (first | refine Safe.seq ?_ | refine Safe.skip ?_ | with_reducible refine thenQ.n ?_ | with_reducible refine blockQ.n ?_)
            refine Safe.region ?_
            refine SafeOps.quiet0 E_good rfl rfl rfl (v := V.bool (a0_23.Op == 4)) (.fn rfl) ?_
            refine SafeOps.quiet0 E_good rfl rfl rfl (v := V.bool (a0_23.Op == 4)) (.fn rfl) ?_
            refine SafeOps.nil ?_
            repeat (first | refine Safe.seq ?_ | refine Safe.skip ?_ | with_reducible refine thenQ.n ?_ | with_reducible refine blockQ.n ?_)
            refine ifG h (fun hc55 h => ?_) (fun hc55 h => ?_)
            · skip
              refine Safe.condK rfl hc55 ?_
              repeat (first | refine Safe.seq ?_ | refine Safe.skip ?_ | with_reducible refine thenQ.n ?_ | with_reducible refine blockQ.n ?_)
              refine Safe.region ?_
              refine SafeOps.quiet0 E_good rfl rfl rfl (v := V.ptr [1] 0 1) (.fn rfl) ?_
              refine SafeOps.quiet0 E_good rfl rfl rfl (v := V.int .i64 a0_23.A) (.load rfl rfl (.box rfl rfl) rfl) ?_
              refine SafeOps.quiet0 E_good rfl rfl rfl (v := V.int .i64 (IntKind.i64.wrap (a0_23.A - 1))) (.fn rfl) ?_
              refine SafeOps.quiet0 E_good rfl rfl rfl (v := V.bool (go_code_within (IntKind.i64.wrap (a0_23.A - 1)) 1000)) (.callP rfl rfl (go_code_within_sc (IntKind.i64.wrap (a0_23.A - 1)) 1000 _ rfl) rfl) ?_
              refine SafeOps.quiet0 E_good rfl rfl rfl (v := V.bool (go_code_within (IntKind.i64.wrap (a0_23.A - 1)) 1000)) (.fn rfl) ?_
              refine SafeOps.nil ?_
              repeat (first | refine Safe.skip ?_ | with_reducible refine thenQ.n ?_ | with_reducible refine blockQ.n ?_)
              exact Safe.got (HJ48 (go_code_within (IntKind.i64.wrap (a0_23.A - 1)) 1000, (a0_23.B == 0)) h) (.cov ⟨rfl, rfl, (upT_cons (.refl _) (upT_cons (.refl _) upT_nil)), upOb_nil, upOut_nil, rfl⟩)
            · skip
              refine Safe.condN rfl hc55 ?_
              repeat (first | refine Safe.seq ?_ | refine Safe.skip ?_ | with_reducible refine thenQ.n ?_ | with_reducible refine blockQ.n ?_)
              refine Safe.region ?_
              refine SafeOps.quiet0 E_good rfl rfl rfl (v := V.bool (a0_23.Op == 5)) (.fn rfl) ?_
              refine SafeOps.quiet0 E_good rfl rfl rfl (v := V.bool (a0_23.Op == 5)) (.fn rfl) ?_
              refine SafeOps.nil ?_
              repeat (first | refine Safe.seq ?_ | refine Safe.skip ?_ | with_reducible refine thenQ.n ?_ | with_reducible refine blockQ.n ?_)
              refine ifG h (fun hc56 h => ?_) (fun hc56 h => ?_)
              · skip
                refine Safe.condK rfl hc56 ?_
                repeat (first | refine Safe.seq ?_ | refine Safe.skip ?_ | with_reducible refine thenQ.n ?_ | with_reducible refine blockQ.n ?_)
                refine Safe.region ?_
                refine SafeOps.quiet0 E_good rfl rfl rfl (v := V.ptr [1] 0 1) (.fn rfl) ?_
                refine SafeOps.quiet0 E_good rfl rfl rfl (v := V.int .i64 a0_23.A) (.load rfl rfl (.box rfl rfl) rfl) ?_
                refine SafeOps.quiet0 E_good rfl rfl rfl (v := V.bool (go_code_within a0_23.A 16)) (.callP rfl rfl (go_code_within_sc a0_23.A 16 _ rfl) rfl) ?_
                refine SafeOps.quiet0 E_good rfl rfl rfl (v := V.bool (go_code_within a0_23.A 16)) (.fn rfl) ?_
                refine SafeOps.nil ?_
                repeat (first | refine Safe.skip ?_ | with_reducible refine thenQ.n ?_ | with_reducible refine blockQ.n ?_)
                exact Safe.got (HJ48 (go_code_within a0_23.A 16, (a0_23.B == 0)) h) (.cov ⟨rfl, rfl, (upT_cons (.refl _) (upT_cons (.refl _) upT_nil)), upOb_nil, upOut_nil, rfl⟩)
              · skip
                refine Safe.condN rfl hc56 ?_
                repeat (first | refine Safe.seq ?_ | refine Safe.skip ?_ | with_reducible refine thenQ.n ?_ | with_reducible refine blockQ.n ?_)
                refine Safe.region ?_
                refine SafeOps.quiet0 E_good rfl rfl rfl (v := V.bool (a0_23.Op == 6)) (.fn rfl) ?_
                refine SafeOps.quiet0 E_good rfl rfl rfl (v := V.bool (a0_23.Op == 6)) (.fn rfl) ?_
                refine SafeOps.nil ?_
                repeat (first | refine Safe.seq ?_ | refine Safe.skip ?_ | with_reducible refine thenQ.n ?_ | with_reducible refine blockQ.n ?_)
                refine ifG h (fun hc57 h => ?_) (fun hc57 h => ?_)
                · skip
                  refine Safe.condK rfl hc57 ?_
                  repeat (first | refine Safe.seq ?_ | refine Safe.skip ?_ | with_reducible refine thenQ.n ?_ | with_reducible refine blockQ.n ?_)
                  refine Safe.region ?_
                  refine SafeOps.quiet0 E_good rfl rfl rfl (v := V.ptr [1] 0 1) (.fn rfl) ?_
                  refine SafeOps.quiet0 E_good rfl rfl rfl (v := V.int .i64 a0_23.A) (.load rfl rfl (.box rfl rfl) rfl) ?_
                  refine SafeOps.quiet0 E_good rfl rfl rfl (v := V.bool (go_code_within a0_23.A 4)) (.callP rfl rfl (go_code_within_sc a0_23.A 4 _ rfl) rfl) ?_
                  refine SafeOps.quiet0 E_good rfl rfl rfl (v := V.bool (go_code_within a0_23.A 4)) (.fn rfl) ?_
                  refine SafeOps.nil ?_
                  repeat (first | refine Safe.skip ?_ | with_reducible refine thenQ.n ?_ | with_reducible refine blockQ.n ?_)
                  exact Safe.got (HJ48 (go_code_within a0_23.A 4, (a0_23.B == 0)) h) (.cov ⟨rfl, rfl, (upT_cons (.refl _) (upT_cons (.refl _) upT_nil)), upOb_nil, upOut_nil, rfl⟩)
                · skip
                  refine Safe.condN rfl hc57 ?_
                  repeat (first | refine Safe.seq ?_ | refine Safe.skip ?_ | with_reducible refine thenQ.n ?_ | with_reducible refine blockQ.n ?_)
                  refine Safe.region ?_
                  refine SafeOps.quiet0 E_good rfl rfl rfl (v := V.bool (a0_23.Op == 7)) (.fn rfl) ?_
                  refine SafeOps.quiet0 E_good rfl rfl rfl (v := V.bool (a0_23.Op == 7)) (.fn rfl) ?_
                  refine SafeOps.nil ?_
                  repeat (first | refine Safe.seq ?_ | refine Safe.skip ?_ | with_reducible refine thenQ.n ?_ | with_reducible refine blockQ.n ?_)
                  refine Safe.joinT (fun (v46_58 : Bool) => go_code_odd_j4 a0_23 v46_58 = r) (fun (v46_58 : Bool) => ⟨Try.f31.ntmps, [(1, V.ptr [1] 0 0), (4, V.bool (a0_23.B == 0)), (46, V.bool v46_58)], [([1], Obj.box [V.int .i64 a0_23.Op, V.int .i64 a0_23.A, V.int .i64 a0_23.B])], [], []⟩) ?_ (fun HJ59 => ?_)
                  · intro v46_58 h
                    replace h : go_code_odd_j4 a0_23 v46_58 = r := h
                    rw [go_code_odd_j4] at h
                    repeat (first | refine Safe.seq ?_ | refine Safe.skip ?_ | with_reducible refine thenQ.n ?_ | with_reducible refine blockQ.n ?_)
                    refine ifG h (fun hc60 h => ?_) (fun hc60 h => ?_)
                    · skip
                      refine Safe.condK rfl hc60 ?_
                      repeat (first | refine Safe.seq ?_ | refine Safe.skip ?_ | with_reducible refine thenQ.n ?_ | with_reducible refine blockQ.n ?_)
                      refine Safe.region ?_
                      refine SafeOps.quiet0 E_good rfl rfl rfl (v := V.ptr [1] 0 1) (.fn rfl) ?_
                      refine SafeOps.quiet0 E_good rfl rfl rfl (v := V.int .i64 a0_23.A) (.load rfl rfl (.box rfl rfl) rfl) ?_
                      refine SafeOps.quiet0 E_good rfl rfl rfl (v := V.bool (go_code_within a0_23.A 8)) (.callP rfl rfl (go_code_within_sc a0_23.A 8 _ rfl) rfl) ?_
                      refine SafeOps.quiet0 E_good rfl rfl rfl (v := V.bool (go_code_within a0_23.A 8)) (.fn rfl) ?_
                      refine SafeOps.nil ?_
                      repeat (first | refine Safe.skip ?_ | with_reducible refine thenQ.n ?_ | with_reducible refine blockQ.n ?_)
                      exact Safe.got (HJ48 (go_code_within a0_23.A 8, (a0_23.B == 0)) h) (.cov ⟨rfl, rfl, (upT_cons (.refl _) (upT_cons (.refl _) upT_nil)), upOb_nil, upOut_nil, rfl⟩)
                    · skip
                      refine Safe.condN rfl hc60 ?_
                      repeat (first | refine Safe.seq ?_ | refine Safe.skip ?_ | with_reducible refine thenQ.n ?_ | with_reducible refine blockQ.n ?_)
                      refine Safe.region ?_
                      refine SafeOps.quiet0 E_good rfl rfl rfl (v := V.bool true) (.fn rfl) ?_
                      refine SafeOps.nil ?_
                      repeat (first | refine Safe.seq ?_ | refine Safe.skip ?_ | with_reducible refine thenQ.n ?_ | with_reducible refine blockQ.n ?_)
                      refine Safe.ret ?_
                      repeat (first | with_reducible refine thenQ.r ?_ | with_reducible refine blockQ.r ?_)
                      obtain rfl := h
                      exact retQ.gen (vs := [V.bool true]) rfl (.tmp (v := V.bool true) rfl .nil) (.free rfl) (by simp) (.inr rfl)
                  · skip
                    refine ifG h (fun hc61 h => ?_) (fun hc61 h => ?_)
                    · skip
                      refine Safe.condK rfl hc61 ?_
                      repeat (first | refine Safe.skip ?_ | with_reducible refine thenQ.n ?_ | with_reducible refine blockQ.n ?_)
                      exact Safe.got (HJ59 ((a0_23.Op == 7)) h) (.cov ⟨rfl, rfl, (upT_cons (.refl _) (upT_cons (.refl _) (upT_cons (.refl _) upT_nil))), (upOb_cons rfl (.refl _) upOb_nil), upOut_nil, rfl⟩)
                    · skip
                      refine Safe.condN rfl hc61 ?_
                      repeat (first | refine Safe.seq ?_ | refine Safe.skip ?_ | with_reducible refine thenQ.n ?_ | with_reducible refine blockQ.n ?_)
                      refine Safe.region ?_
                      refine SafeOps.quiet0 E_good rfl rfl rfl (v := V.bool (a0_23.Op == 8)) (.fn rfl) ?_
                      refine SafeOps.quiet0 E_good rfl rfl rfl (v := V.bool (a0_23.Op == 8)) (.fn rfl) ?_
                      refine SafeOps.nil ?_
                      repeat (first | refine Safe.skip ?_ | with_reducible refine thenQ.n ?_ | with_reducible refine blockQ.n ?_)
                      exact Safe.got (HJ59 ((a0_23.Op == 8)) h) (.cov ⟨rfl, rfl, (upT_cons (.refl _) (upT_cons (.refl _) (upT_cons (.refl _) upT_nil))), (upOb_cons rfl (.refl _) upOb_nil), upOut_nil, rfl⟩)
        · skip
          refine ifG h (fun hc62 h => ?_) (fun hc62 h => ?_)
          · skip
            refine Safe.condK rfl hc62 ?_
            repeat (first | refine Safe.skip ?_ | with_reducible refine thenQ.n ?_ | with_reducible refine blockQ.n ?_)
            exact Safe.got (HJ53 ((a0_23.Op == 3)) h) (.cov ⟨rfl, rfl, (upT_cons (.refl _) (upT_cons (.refl _) (upT_cons (.refl _) (upT_cons (.refl _) (upT_cons (.refl _) upT_nil))))), (upOb_cons rfl (.refl _) upOb_nil), upOut_nil, rfl⟩)
          · skip
            refine Safe.condN rfl hc62 ?_
            repeat (first | refine Safe.seq ?_ | refine Safe.skip ?_ | with_reducible refine thenQ.n ?_ | with_reducible refine blockQ.n ?_)
            refine Safe.region ?_
            refine SafeOps.quiet0 E_good rfl rfl rfl (v := V.bool (a0_23.Op == 9)) (.fn rfl) ?_
            refine SafeOps.quiet0 E_good rfl rfl rfl (v := V.bool (a0_23.Op == 9)) (.fn rfl) ?_
            refine SafeOps.nil ?_
            repeat (first | refine Safe.skip ?_ | with_reducible refine thenQ.n ?_ | with_reducible refine blockQ.n ?_)
            exact Safe.got (HJ53 ((a0_23.Op == 9)) h) (.cov ⟨rfl, rfl, (upT_cons (.refl _) (upT_cons (.refl _) (upT_cons (.refl _) (upT_cons (.refl _) (upT_cons (.refl _) upT_nil))))), (upOb_cons rfl (.refl _) upOb_nil), upOut_nil, rfl⟩)

noncomputable def go_slices_IndexFunc_api_Instr_api_Instr_odd31_s1 (a0_19 : List api_Instr) : (Int) → Option ((Int) ⊕ (Int))
  | v8_80 =>
    if (decide (v8_80 < (a0_19.length : Int))) = true then
      if 0 ≤ v8_80 ∧ v8_80 < (a0_19.length : Int) then
        if (go_code_odd (gt a0_19 v8_80)) = true then
          inrO (
            some v8_80)
        else
          nextO (IntKind.i64.wrap (v8_80 + 1))
      else none
    else
      inrO (
        some (-1))

noncomputable def go_slices_IndexFunc_api_Instr_api_Instr_odd31 (a0_19 : List api_Instr) : Option Int :=
  whileO (go_slices_IndexFunc_api_Instr_api_Instr_odd31_s1 a0_19) 0

theorem go_slices_IndexFunc_api_Instr_api_Instr_odd31_sc (a0_19 : List api_Instr) (r : Int) (h : go_slices_IndexFunc_api_Instr_api_Instr_odd31 a0_19 = some r) : SC Try.prog gl 39 [V.sl 3 (rws api_Instr.cells a0_19), V.fn 31 []] (V.int .i64 r) := by
  rw [go_slices_IndexFunc_api_Instr_api_Instr_odd31] at h
  refine SC.of E_good Try.func39 rfl (fun _ _ => Try.call39 _ _) rfl ?_
  repeat (first | refine Safe.seq ?_ | refine Safe.skip ?_ | with_reducible refine thenQ.n ?_ | with_reducible refine blockQ.n ?_)
  refine Safe.region ?_
  refine SafeOps.quiet0 E_good rfl rfl rfl (v := V.int .i64 0) (.fn rfl) ?_
  refine SafeOps.nil ?_
  repeat (first | refine Safe.seq ?_ | refine Safe.skip ?_ | with_reducible refine thenQ.n ?_ | with_reducible refine blockQ.n ?_)
  refine Safe.region ?_
  refine SafeOps.quiet0 E_good rfl rfl rfl (v := V.sl 3 (rws api_Instr.cells a0_19)) (.fn rfl) ?_
  refine SafeOps.quiet0 E_good rfl rfl rfl (v := V.int .i64 (a0_19.length : Int)) (.fnE rfl lenE) ?_
  refine SafeOps.quiet0 E_good rfl rfl rfl (v := V.int .i64 0) (.fn rfl) ?_
  refine SafeOps.nil ?_
  repeat (first | refine Safe.seq ?_ | refine Safe.skip ?_ | with_reducible refine thenQ.n ?_ | with_reducible refine blockQ.n ?_)
  refine Safe.block ?_
  repeat (first | refine Safe.seq ?_ | refine Safe.skip ?_ | with_reducible refine thenQ.n ?_ | with_reducible refine blockQ.n ?_)
  refine Safe.loopW (fun (v8_80 : Int) => ⟨Try.f39.ntmps, [(0, V.sl 3 (rws api_Instr.cells a0_19)), (1, V.fn 31 []), (7, V.int .i64 (a0_19.length : Int)), (8, V.int .i64 v8_80)], [], [], []⟩) h (.cov ⟨rfl, rfl, (upT_cons (.refl _) (upT_cons (.refl _) (upT_cons (.refl _) (upT_cons (.refl _) upT_nil)))), upOb_nil, upOut_nil, rfl⟩) ?_
  intro v8_80 ohr81 h hr81
  replace h : go_slices_IndexFunc_api_Instr_api_Instr_odd31_s1 a0_19 v8_80 = some ohr81 := h
  rw [go_slices_IndexFunc_api_Instr_api_Instr_odd31_s1] at h
  repeat (first | refine Safe.seq ?_ | refine Safe.skip ?_ | with_reducible refine thenQ.n ?_ | with_reducible refine blockQ.n ?_)
  refine Safe.region ?_
  refine SafeOps.quiet0 E_good rfl rfl rfl (v := V.bool (decide (v8_80 < (a0_19.length : Int)))) (.fn rfl) ?_
  refine SafeOps.nil ?_
  repeat (first | refine Safe.seq ?_ | refine Safe.skip ?_ | with_reducible refine thenQ.n ?_ | with_reducible refine blockQ.n ?_)
  refine ifG h (fun hc82 h => ?_) (fun hc82 h => ?_)
  · skip
    refine Safe.condK rfl hc82 ?_
    repeat (first | refine Safe.seq ?_ | refine Safe.skip ?_ | with_reducible refine thenQ.n ?_ | with_reducible refine blockQ.n ?_)
    refine Safe.block ?_
    repeat (first | refine Safe.seq ?_ | refine Safe.skip ?_ | with_reducible refine thenQ.n ?_ | with_reducible refine blockQ.n ?_)
    refine Safe.region ?_
    refine SafeOps.quiet0 E_good rfl rfl rfl (v := V.int .i64 v8_80) (.fn rfl) ?_
    refine SafeOps.quiet0 E_good rfl rfl rfl (v := V.int .i64 v8_80) (.fn rfl) ?_
    refine SafeOps.nil ?_
    repeat (first | refine Safe.seq ?_ | refine Safe.skip ?_ | with_reducible refine thenQ.n ?_ | with_reducible refine blockQ.n ?_)
    refine Safe.region ?_
    refine SafeOps.quiet0 E_good rfl rfl rfl (v := V.fn 31 []) (.fn rfl) ?_
    refine SafeOps.quiet0 E_good rfl rfl rfl (v := V.sl 3 (rws api_Instr.cells a0_19)) (.fn rfl) ?_
    refine SafeOps.quiet0 E_good rfl rfl rfl (v := V.int .i64 v8_80) (.fn rfl) ?_
    refine okG h (fun hb83 h => ?_)
    refine SafeOps.quiet0 E_good rfl rfl rfl (v := V.spt 3 (rws api_Instr.cells a0_19) (Int.toNat v8_80) 0) (.idxSlM (f := api_Instr.cells) rfl rfl rfl rfl rfl hb83) ?_
    refine SafeOps.quiet0 E_good rfl rfl rfl (v := V.agg [V.int .i64 ((gt a0_19 v8_80).Op), V.int .i64 ((gt a0_19 v8_80).A), V.int .i64 ((gt a0_19 v8_80).B)]) (.load rfl rfl (.sptM (f := api_Instr.cells) hb83 rfl) rfl) ?_
    refine SafeOps.quiet0 E_good rfl rfl rfl (v := V.bool (go_code_odd (gt a0_19 v8_80))) (.callP rfl rfl (go_code_odd_sc (gt a0_19 v8_80) _ rfl) rfl) ?_
    refine SafeOps.nil ?_
    repeat (first | refine Safe.seq ?_ | refine Safe.skip ?_ | with_reducible refine thenQ.n ?_ | with_reducible refine blockQ.n ?_)
    refine ifG h (fun hc84 h => ?_) (fun hc84 h => ?_)
    · skip
      refine Safe.condK rfl hc84 ?_
      repeat (first | refine Safe.seq ?_ | refine Safe.skip ?_ | with_reducible refine thenQ.n ?_ | with_reducible refine blockQ.n ?_)
      refine Safe.region ?_
      refine SafeOps.quiet0 E_good rfl rfl rfl (v := V.int .i64 v8_80) (.fn rfl) ?_
      refine SafeOps.quiet0 E_good rfl rfl rfl (v := V.int .i64 v8_80) (.fn rfl) ?_
      refine SafeOps.nil ?_
      repeat (first | refine Safe.seq ?_ | refine Safe.skip ?_ | with_reducible refine thenQ.n ?_ | with_reducible refine blockQ.n ?_)
      refine Safe.ret ?_
      repeat (first | with_reducible refine thenQ.r ?_ | with_reducible refine blockQ.r ?_)
      replace h := inr_out h hr81
      obtain rfl := Option.some.inj h
      exact retQ.gen (vs := [V.int .i64 v8_80]) rfl (.tmp (v := V.int .i64 v8_80) rfl .nil) (.free rfl) (by simp) (.inr rfl)
    · skip
      refine Safe.condN rfl hc84 ?_
      repeat (first | refine Safe.seq ?_ | refine Safe.skip ?_ | with_reducible refine thenQ.n ?_ | with_reducible refine blockQ.n ?_)
      refine Safe.region ?_
      refine SafeOps.quiet0 E_good rfl rfl rfl (v := V.int .i64 (IntKind.i64.wrap (v8_80 + 1))) (.fn rfl) ?_
      refine SafeOps.quiet0 E_good rfl rfl rfl (v := V.int .i64 (IntKind.i64.wrap (v8_80 + 1))) (.fn rfl) ?_
      refine SafeOps.nil ?_
      repeat (first | refine Safe.seq ?_ | refine Safe.skip ?_ | with_reducible refine thenQ.n ?_ | with_reducible refine blockQ.n ?_)
      exact ⟨_, next_out h, (.cov ⟨rfl, rfl, (upT_cons (.refl _) (upT_cons (.refl _) (upT_cons (.refl _) (upT_cons (.refl _) upT_nil)))), upOb_nil, upOut_nil, rfl⟩)⟩
  · skip
    refine Safe.condN rfl hc82 ?_
    repeat (first | refine Safe.seq ?_ | refine Safe.skip ?_ | with_reducible refine thenQ.n ?_ | with_reducible refine blockQ.n ?_)
    refine Safe.exit ?_
    repeat (first | with_reducible refine thenQ.e ?_ | with_reducible refine blockQ.x rfl ?_ | with_reducible refine blockQ.y rfl ?_)
    replace h := inr_out h hr81
    repeat (first | refine Safe.seq ?_ | refine Safe.skip ?_ | with_reducible refine thenQ.n ?_ | with_reducible refine blockQ.n ?_)
    refine Safe.region ?_
    refine SafeOps.quiet0 E_good rfl rfl rfl (v := V.int .i64 (-1)) (.fn rfl) ?_
    refine SafeOps.nil ?_
    repeat (first | refine Safe.seq ?_ | refine Safe.skip ?_ | with_reducible refine thenQ.n ?_ | with_reducible refine blockQ.n ?_)
    refine Safe.ret ?_
    repeat (first | with_reducible refine thenQ.r ?_ | with_reducible refine blockQ.r ?_)
    obtain rfl := Option.some.inj h
    exact retQ.gen (vs := [V.int .i64 (-1)]) rfl (.tmp (v := V.int .i64 (-1)) rfl .nil) (.free rfl) (by simp) (.inr rfl)

noncomputable def go_slices_ContainsFunc_api_Instr_api_Instr_odd31 (a0_18 : List api_Instr) : Option Bool :=
  (go_slices_IndexFunc_api_Instr_api_Instr_odd31 a0_18).bind fun x_87 =>
  some (decide (x_87 ≥ 0))

theorem go_slices_ContainsFunc_api_Instr_api_Instr_odd31_sc (a0_18 : List api_Instr) (r : Bool) (h : go_slices_ContainsFunc_api_Instr_api_Instr_odd31 a0_18 = some r) : SC Try.prog gl 30 [V.sl 3 (rws api_Instr.cells a0_18), V.fn 31 []] (V.bool r) := by
  rw [go_slices_ContainsFunc_api_Instr_api_Instr_odd31] at h
  refine SC.of E_good Try.func30 rfl (fun _ _ => Try.call30 _ _) rfl ?_
  repeat (first | refine Safe.seq ?_ | refine Safe.skip ?_ | with_reducible refine thenQ.n ?_ | with_reducible refine blockQ.n ?_)
  refine Safe.region ?_
  refine SafeOps.quiet0 E_good rfl rfl rfl (v := V.bool false) (.fn rfl) ?_
  refine SafeOps.nil ?_
  repeat (first | refine Safe.seq ?_ | refine Safe.skip ?_ | with_reducible refine thenQ.n ?_ | with_reducible refine blockQ.n ?_)
  refine Safe.region ?_
  refine SafeOps.quiet0 E_good rfl rfl rfl (v := V.sl 3 (rws api_Instr.cells a0_18)) (.fn rfl) ?_
  refine SafeOps.quiet0 E_good rfl rfl rfl (v := V.fn 31 []) (.fn rfl) ?_
  refine bindG h ?_
  intro x_87 he88 h
  refine SafeOps.quiet0 E_good rfl rfl rfl (v := V.int .i64 x_87) (.callP rfl rfl (go_slices_IndexFunc_api_Instr_api_Instr_odd31_sc a0_18 _ he88) rfl) ?_
  refine SafeOps.quiet0 E_good rfl rfl rfl (v := V.bool (decide (x_87 ≥ 0))) (.fn rfl) ?_
  refine SafeOps.quiet0 E_good rfl rfl rfl (v := V.bool (decide (x_87 ≥ 0))) (.fn rfl) ?_
  refine SafeOps.nil ?_
  repeat (first | refine Safe.seq ?_ | refine Safe.skip ?_ | with_reducible refine thenQ.n ?_ | with_reducible refine blockQ.n ?_)
  refine Safe.ret ?_
  repeat (first | with_reducible refine thenQ.r ?_ | with_reducible refine blockQ.r ?_)
  obtain rfl := Option.some.inj h
  exact retQ.gen (vs := [V.bool (decide (x_87 ≥ 0))]) rfl (.tmp (v := V.bool (decide (x_87 ≥ 0))) rfl .nil) (.free rfl) (by simp) (.inr rfl)

noncomputable def go_code_Check (a0_15 : List api_Instr) : Option Int :=
  if ((decide ((a0_15.length : Int) < 1)) || (decide ((a0_15.length : Int) > 32))) = true then
    some 1
  else
    (go_slices_ContainsFunc_api_Instr_api_Instr_odd31 a0_15).bind fun x_103 =>
    if x_103 = true then
      some 1
    else
      some 0

theorem go_code_Check_sc (a0_15 : List api_Instr) (r : Int) (h : go_code_Check a0_15 = some r) : SC Try.prog gl 15 [V.sl 3 (rws api_Instr.cells a0_15)] (V.int .i64 r) := by
  rw [go_code_Check] at h
  refine SC.of E_good Try.func15 rfl (fun _ _ => Try.call15 _ _) rfl ?_
  repeat (first | refine Safe.seq ?_ | refine Safe.skip ?_ | with_reducible refine thenQ.n ?_ | with_reducible refine blockQ.n ?_)
  refine Safe.region ?_
  refine SafeOps.quiet0 E_good rfl rfl rfl (v := V.int .i64 0) (.fn rfl) ?_
  refine SafeOps.nil ?_
  repeat (first | refine Safe.seq ?_ | refine Safe.skip ?_ | with_reducible refine thenQ.n ?_ | with_reducible refine blockQ.n ?_)
  refine Safe.region ?_
  refine SafeOps.quiet0 E_good rfl rfl rfl (v := V.sl 3 (rws api_Instr.cells a0_15)) (.fn rfl) ?_
  refine SafeOps.quiet0 E_good rfl rfl rfl (v := V.int .i64 (a0_15.length : Int)) (.fnE rfl lenE) ?_
  refine SafeOps.quiet0 E_good rfl rfl rfl (v := V.bool (decide ((a0_15.length : Int) < 1))) (.fn rfl) ?_
  refine SafeOps.quiet0 E_good rfl rfl rfl (v := V.bool (decide ((a0_15.length : Int) < 1))) (.fn rfl) ?_
  refine SafeOps.bjoin 4 10 (b := ((decide ((a0_15.length : Int) < 1)) || (decide ((a0_15.length : Int) > 32)))) (b1 := true) (b0 := decide ((a0_15.length : Int) > 32)) (fun hc99 K => ?_) (fun hc99 K => ?_) bj_or ?_
  · skip
    refine SafeOps.skip (congrArg (fun b => some (!b)) hc99) rfl rfl ?_
    refine SafeOps.skip (congrArg (fun b => some (!b)) hc99) rfl rfl ?_
    refine SafeOps.skip (congrArg (fun b => some (!b)) hc99) rfl rfl ?_
    refine SafeOps.quiet0 E_good rfl rfl rfl (v := V.bool true) (.pickK rfl hc99 rfl) ?_
    exact SafeOps.drop' 4 rfl rfl rfl K
  · skip
    refine SafeOps.quiet0 E_good (congrArg (fun b => some (!b)) hc99) rfl rfl (v := V.sl 3 (rws api_Instr.cells a0_15)) (.fn rfl) ?_
    refine SafeOps.quiet0 E_good (congrArg (fun b => some (!b)) hc99) rfl rfl (v := V.int .i64 (a0_15.length : Int)) (.fnE rfl lenE) ?_
    refine SafeOps.quiet0 E_good (congrArg (fun b => some (!b)) hc99) rfl rfl (v := V.bool (decide ((a0_15.length : Int) > 32))) (.fn rfl) ?_
    refine SafeOps.quiet0 E_good rfl rfl rfl (v := V.bool (decide ((a0_15.length : Int) > 32))) (.pickK rfl hc99 rfl) ?_
    exact SafeOps.drop' 4 rfl rfl rfl K
  refine SafeOps.quiet0 E_good rfl rfl rfl (v := V.bool ((decide ((a0_15.length : Int) < 1)) || (decide ((a0_15.length : Int) > 32)))) (.fn rfl) ?_
  refine ifG h (fun hc100 h => ?_) (fun hc100 h => ?_)
  · skip
    refine SafeOps.skip (congrArg (fun b => some (!b)) hc100) rfl rfl ?_
    refine SafeOps.skip (congrArg (fun b => some (!b)) hc100) rfl rfl ?_
    refine SafeOps.quiet0 E_good rfl rfl rfl (v := V.bool true) (.pickK rfl hc100 rfl) ?_
    refine SafeOps.nil ?_
    repeat (first | refine Safe.seq ?_ | refine Safe.skip ?_ | with_reducible refine thenQ.n ?_ | with_reducible refine blockQ.n ?_)
    refine Safe.condK rfl rfl ?_
    repeat (first | refine Safe.seq ?_ | refine Safe.skip ?_ | with_reducible refine thenQ.n ?_ | with_reducible refine blockQ.n ?_)
    refine Safe.region ?_
    refine SafeOps.quiet0 E_good rfl rfl rfl (v := V.int .i64 1) (.fn rfl) ?_
    refine SafeOps.nil ?_
    repeat (first | refine Safe.seq ?_ | refine Safe.skip ?_ | with_reducible refine thenQ.n ?_ | with_reducible refine blockQ.n ?_)
    refine Safe.ret ?_
    repeat (first | with_reducible refine thenQ.r ?_ | with_reducible refine blockQ.r ?_)
    obtain rfl := Option.some.inj h
    exact retQ.gen (vs := [V.int .i64 1]) rfl (.tmp (v := V.int .i64 1) rfl .nil) (.free rfl) (by simp) (.inr rfl)
  · skip
    refine SafeOps.quiet0 E_good (congrArg (fun b => some (!b)) hc100) rfl rfl (v := V.sl 3 (rws api_Instr.cells a0_15)) (.fn rfl) ?_
    refine bindG h ?_
    intro x_103 he104 h
    refine SafeOps.quiet0 E_good (congrArg (fun b => some (!b)) hc100) rfl rfl (v := V.bool x_103) (.callP rfl rfl (go_slices_ContainsFunc_api_Instr_api_Instr_odd31_sc a0_15 _ he104) rfl) ?_
    refine SafeOps.quiet0 E_good rfl rfl rfl (v := V.bool x_103) (.pickK rfl hc100 rfl) ?_
    refine SafeOps.nil ?_
    repeat (first | refine Safe.seq ?_ | refine Safe.skip ?_ | with_reducible refine thenQ.n ?_ | with_reducible refine blockQ.n ?_)
    refine ifG h (fun hc105 h => ?_) (fun hc105 h => ?_)
    · skip
      refine Safe.condK rfl hc105 ?_
      repeat (first | refine Safe.seq ?_ | refine Safe.skip ?_ | with_reducible refine thenQ.n ?_ | with_reducible refine blockQ.n ?_)
      refine Safe.region ?_
      refine SafeOps.quiet0 E_good rfl rfl rfl (v := V.int .i64 1) (.fn rfl) ?_
      refine SafeOps.nil ?_
      repeat (first | refine Safe.seq ?_ | refine Safe.skip ?_ | with_reducible refine thenQ.n ?_ | with_reducible refine blockQ.n ?_)
      refine Safe.ret ?_
      repeat (first | with_reducible refine thenQ.r ?_ | with_reducible refine blockQ.r ?_)
      obtain rfl := Option.some.inj h
      exact retQ.gen (vs := [V.int .i64 1]) rfl (.tmp (v := V.int .i64 1) rfl .nil) (.free rfl) (by simp) (.inr rfl)
    · skip
      refine Safe.condN rfl hc105 ?_
      repeat (first | refine Safe.seq ?_ | refine Safe.skip ?_ | with_reducible refine thenQ.n ?_ | with_reducible refine blockQ.n ?_)
      refine Safe.region ?_
      refine SafeOps.quiet0 E_good rfl rfl rfl (v := V.int .i64 0) (.fn rfl) ?_
      refine SafeOps.nil ?_
      repeat (first | refine Safe.seq ?_ | refine Safe.skip ?_ | with_reducible refine thenQ.n ?_ | with_reducible refine blockQ.n ?_)
      refine Safe.ret ?_
      repeat (first | with_reducible refine thenQ.r ?_ | with_reducible refine blockQ.r ?_)
      obtain rfl := Option.some.inj h
      exact retQ.gen (vs := [V.int .i64 0]) rfl (.tmp (v := V.int .i64 0) rfl .nil) (.free rfl) (by simp) (.inr rfl)

noncomputable def go_code_CheckAll_s4 (a0_5 : List (List api_Instr)) (v17_290 : Int) : (Int) → Option ((Int) ⊕ ((Int) ⊕ (Int)))
  | v8_321 =>
    if (decide (v8_321 < ((gt a0_5 v17_290).length : Int))) = true then
      if 0 ≤ v8_321 ∧ v8_321 < ((gt a0_5 v17_290).length : Int) then
        if ((((gt (gt a0_5 v17_290) v8_321).Op) == 2) && (decide (((gt (gt a0_5 v17_290) v8_321).A) ≥ (a0_5.length : Int)))) = true then
          inrO (
            if (decide (v8_321 ≥ 0)) = true then
              inrO (
                some 1)
            else
              nextO (IntKind.i64.wrap (v17_290 + 1)))
        else
          nextO (IntKind.i64.wrap (v8_321 + 1))
      else none
    else
      inrO (
        nextO (IntKind.i64.wrap (v17_290 + 1)))

noncomputable def go_code_CheckAll_s3 (a0_5 : List (List api_Instr)) : (Int) → Option ((Int) ⊕ (Int))
  | v17_290 =>
    if (decide (v17_290 < (a0_5.length : Int))) = true then
      if 0 ≤ v17_290 ∧ v17_290 < (a0_5.length : Int) then
        (go_code_Check (gt a0_5 v17_290)).bind fun x_294 =>
        if (x_294 != 0) = true then
          inrO (
            some 1)
        else
          whileO (go_code_CheckAll_s4 a0_5 v17_290) 0
      else none
    else
      inrO (
        some 0)

noncomputable def go_code_CheckAll (a0_5 : List (List api_Instr)) : Option Int :=
  if ((decide ((a0_5.length : Int) < 1)) || (decide ((a0_5.length : Int) > 16))) = true then
    some 1
  else
    whileO (go_code_CheckAll_s3 a0_5) 0

theorem go_code_CheckAll_sc (a0_5 : List (List api_Instr)) (r : Int) (h : go_code_CheckAll a0_5 = some r) : SC Try.prog gl 13 [V.sl 1 (rws (fun l => [V.sl 3 (rws api_Instr.cells l)]) a0_5)] (V.int .i64 r) := by
  rw [go_code_CheckAll] at h
  refine SC.of E_good Try.func13 rfl (fun _ _ => Try.call13 _ _) rfl ?_
  repeat (first | refine Safe.seq ?_ | refine Safe.skip ?_ | with_reducible refine thenQ.n ?_ | with_reducible refine blockQ.n ?_)
  refine Safe.region ?_
  refine SafeOps.quiet1 E_good rfl rfl rfl (.box rfl rfl) rfl ?_
  refine SafeOps.quiet0 E_good rfl rfl rfl (v := V.int .i64 0) (.fn rfl) ?_
  refine SafeOps.nil ?_
  repeat (first | refine Safe.seq ?_ | refine Safe.skip ?_ | with_reducible refine thenQ.n ?_ | with_reducible refine blockQ.n ?_)
  refine Safe.region ?_
  refine SafeOps.quiet0 E_good rfl rfl rfl (v := V.sl 1 (rws (fun l => [V.sl 3 (rws api_Instr.cells l)]) a0_5)) (.load rfl rfl (.box rfl rfl) rfl) ?_
  refine SafeOps.quiet0 E_good rfl rfl rfl (v := V.int .i64 (a0_5.length : Int)) (.fnE rfl lenE) ?_
  refine SafeOps.quiet0 E_good rfl rfl rfl (v := V.bool (decide ((a0_5.length : Int) < 1))) (.fn rfl) ?_
  refine SafeOps.quiet0 E_good rfl rfl rfl (v := V.bool (decide ((a0_5.length : Int) < 1))) (.fn rfl) ?_
  refine SafeOps.bjoin 4 13 (b := ((decide ((a0_5.length : Int) < 1)) || (decide ((a0_5.length : Int) > 16)))) (b1 := true) (b0 := decide ((a0_5.length : Int) > 16)) (fun hc215 K => ?_) (fun hc215 K => ?_) bj_or ?_
  · skip
    refine SafeOps.skip (congrArg (fun b => some (!b)) hc215) rfl rfl ?_
    refine SafeOps.skip (congrArg (fun b => some (!b)) hc215) rfl rfl ?_
    refine SafeOps.skip (congrArg (fun b => some (!b)) hc215) rfl rfl ?_
    refine SafeOps.quiet0 E_good rfl rfl rfl (v := V.bool true) (.pickK rfl hc215 rfl) ?_
    exact SafeOps.drop' 4 rfl rfl rfl K
  · skip
    refine SafeOps.quiet0 E_good (congrArg (fun b => some (!b)) hc215) rfl rfl (v := V.sl 1 (rws (fun l => [V.sl 3 (rws api_Instr.cells l)]) a0_5)) (.load rfl rfl (.box rfl rfl) rfl) ?_
    refine SafeOps.quiet0 E_good (congrArg (fun b => some (!b)) hc215) rfl rfl (v := V.int .i64 (a0_5.length : Int)) (.fnE rfl lenE) ?_
    refine SafeOps.quiet0 E_good (congrArg (fun b => some (!b)) hc215) rfl rfl (v := V.bool (decide ((a0_5.length : Int) > 16))) (.fn rfl) ?_
    refine SafeOps.quiet0 E_good rfl rfl rfl (v := V.bool (decide ((a0_5.length : Int) > 16))) (.pickK rfl hc215 rfl) ?_
    exact SafeOps.drop' 4 rfl rfl rfl K
  refine SafeOps.nil ?_
  repeat (first | refine Safe.seq ?_ | refine Safe.skip ?_ | with_reducible refine thenQ.n ?_ | with_reducible refine blockQ.n ?_)
  refine ifG h (fun hc216 h => ?_) (fun hc216 h => ?_)
  · skip
    refine Safe.condK rfl hc216 ?_
    repeat (first | refine Safe.seq ?_ | refine Safe.skip ?_ | with_reducible refine thenQ.n ?_ | with_reducible refine blockQ.n ?_)
    refine Safe.region ?_
    refine SafeOps.quiet0 E_good rfl rfl rfl (v := V.int .i64 1) (.fn rfl) ?_
    refine SafeOps.nil ?_
    repeat (first | refine Safe.seq ?_ | refine Safe.skip ?_ | with_reducible refine thenQ.n ?_ | with_reducible refine blockQ.n ?_)
    refine Safe.ret ?_
    repeat (first | with_reducible refine thenQ.r ?_ | with_reducible refine blockQ.r ?_)
    obtain rfl := Option.some.inj h
    exact retQ.gen (vs := [V.int .i64 1]) rfl (.tmp (v := V.int .i64 1) rfl .nil) (.free rfl) (by simp) (.inr rfl)
  · skip
    refine Safe.condN rfl hc216 ?_
    repeat (first | refine Safe.seq ?_ | refine Safe.skip ?_ | with_reducible refine thenQ.n ?_ | with_reducible refine blockQ.n ?_)
    refine Safe.region ?_
    refine SafeOps.quiet0 E_good rfl rfl rfl (v := V.fn 29 [V.ptr [1] 0 0]) (.fn rfl) ?_
    refine SafeOps.quiet0 E_good rfl rfl rfl (v := V.fn 29 [V.ptr [1] 0 0]) (.fn rfl) ?_
    refine SafeOps.nil ?_
    repeat (first | refine Safe.seq ?_ | refine Safe.skip ?_ | with_reducible refine thenQ.n ?_ | with_reducible refine blockQ.n ?_)
    refine Safe.region ?_
    refine SafeOps.quiet0 E_good rfl rfl rfl (v := V.sl 1 (rws (fun l => [V.sl 3 (rws api_Instr.cells l)]) a0_5)) (.load rfl rfl (.box rfl rfl) rfl) ?_
    refine SafeOps.quiet0 E_good rfl rfl rfl (v := V.int .i64 (a0_5.length : Int)) (.fnE rfl lenE) ?_
    refine SafeOps.quiet0 E_good rfl rfl rfl (v := V.int .i64 0) (.fn rfl) ?_
    refine SafeOps.nil ?_
    repeat (first | refine Safe.seq ?_ | refine Safe.skip ?_ | with_reducible refine thenQ.n ?_ | with_reducible refine blockQ.n ?_)
    refine Safe.block ?_
    repeat (first | refine Safe.seq ?_ | refine Safe.skip ?_ | with_reducible refine thenQ.n ?_ | with_reducible refine blockQ.n ?_)
    refine Safe.loopW (fun (v17_290 : Int) => ⟨Try.f13.ntmps, [(3, V.fn 29 [V.ptr [1] 0 0]), (15, V.sl 1 (rws (fun l => [V.sl 3 (rws api_Instr.cells l)]) a0_5)), (16, V.int .i64 (a0_5.length : Int)), (17, V.int .i64 v17_290)], [([1], Obj.box [V.sl 1 (rws (fun l => [V.sl 3 (rws api_Instr.cells l)]) a0_5)])], [], []⟩) h (.cov ⟨rfl, rfl, (upT_cons (.refl _) (upT_cons (.refl _) (upT_cons (.refl _) (upT_cons (.refl _) upT_nil)))), (upOb_cons rfl (.refl _) upOb_nil), upOut_nil, rfl⟩) ?_
    intro v17_290 ohr291 h hr291
    replace h : go_code_CheckAll_s3 a0_5 v17_290 = some ohr291 := h
    rw [go_code_CheckAll_s3] at h
    repeat (first | refine Safe.seq ?_ | refine Safe.skip ?_ | with_reducible refine thenQ.n ?_ | with_reducible refine blockQ.n ?_)
    refine Safe.region ?_
    refine SafeOps.quiet0 E_good rfl rfl rfl (v := V.bool (decide (v17_290 < (a0_5.length : Int)))) (.fn rfl) ?_
    refine SafeOps.nil ?_
    repeat (first | refine Safe.seq ?_ | refine Safe.skip ?_ | with_reducible refine thenQ.n ?_ | with_reducible refine blockQ.n ?_)
    refine ifG h (fun hc292 h => ?_) (fun hc292 h => ?_)
    · skip
      refine Safe.condK rfl hc292 ?_
      repeat (first | refine Safe.seq ?_ | refine Safe.skip ?_ | with_reducible refine thenQ.n ?_ | with_reducible refine blockQ.n ?_)
      refine Safe.block ?_
      repeat (first | refine Safe.seq ?_ | refine Safe.skip ?_ | with_reducible refine thenQ.n ?_ | with_reducible refine blockQ.n ?_)
      refine Safe.region ?_
      refine okG h (fun hb293 h => ?_)
      refine SafeOps.quiet0 E_good rfl rfl rfl (v := V.spt 1 (rws (fun l => [V.sl 3 (rws api_Instr.cells l)]) a0_5) (Int.toNat v17_290) 0) (.idxSlM (f := (fun l => [V.sl 3 (rws api_Instr.cells l)])) rfl rfl rfl rfl rfl hb293) ?_
      refine SafeOps.quiet0 E_good rfl rfl rfl (v := V.sl 3 (rws api_Instr.cells (gt a0_5 v17_290))) (.load rfl rfl (.sptM (f := (fun l => [V.sl 3 (rws api_Instr.cells l)])) hb293 rfl) rfl) ?_
      refine SafeOps.quiet0 E_good rfl rfl rfl (v := V.sl 3 (rws api_Instr.cells (gt a0_5 v17_290))) (.fn rfl) ?_
      refine SafeOps.nil ?_
      repeat (first | refine Safe.seq ?_ | refine Safe.skip ?_ | with_reducible refine thenQ.n ?_ | with_reducible refine blockQ.n ?_)
      refine Safe.region ?_
      refine SafeOps.quiet0 E_good rfl rfl rfl (v := V.sl 3 (rws api_Instr.cells (gt a0_5 v17_290))) (.fn rfl) ?_
      refine bindG h ?_
      intro x_294 he295 h
      refine SafeOps.quiet0 E_good rfl rfl rfl (v := V.int .i64 x_294) (.callP rfl rfl (go_code_Check_sc (gt a0_5 v17_290) _ he295) rfl) ?_
      refine SafeOps.quiet0 E_good rfl rfl rfl (v := V.bool (x_294 != 0)) (.fn rfl) ?_
      refine SafeOps.quiet0 E_good rfl rfl rfl (v := V.bool (x_294 != 0)) (.fn rfl) ?_
      refine ifG h (fun hc296 h => ?_) (fun hc296 h => ?_)
      · skip
        refine SafeOps.skip (congrArg (fun b => some (!b)) hc296) rfl rfl ?_
        refine SafeOps.skip (congrArg (fun b => some (!b)) hc296) rfl rfl ?_
        refine SafeOps.skip (congrArg (fun b => some (!b)) hc296) rfl rfl ?_
        refine SafeOps.quiet0 E_good rfl rfl rfl (v := V.bool true) (.pickK rfl hc296 rfl) ?_
        refine SafeOps.nil ?_
        repeat (first | refine Safe.seq ?_ | refine Safe.skip ?_ | with_reducible refine thenQ.n ?_ | with_reducible refine blockQ.n ?_)
        refine Safe.condK rfl rfl ?_
        repeat (first | refine Safe.seq ?_ | refine Safe.skip ?_ | with_reducible refine thenQ.n ?_ | with_reducible refine blockQ.n ?_)
        refine Safe.region ?_
        refine SafeOps.quiet0 E_good rfl rfl rfl (v := V.int .i64 1) (.fn rfl) ?_
        refine SafeOps.nil ?_
        repeat (first | refine Safe.seq ?_ | refine Safe.skip ?_ | with_reducible refine thenQ.n ?_ | with_reducible refine blockQ.n ?_)
        refine Safe.ret ?_
        repeat (first | with_reducible refine thenQ.r ?_ | with_reducible refine blockQ.r ?_)
        replace h := inr_out h hr291
        obtain rfl := Option.some.inj h
        exact retQ.gen (vs := [V.int .i64 1]) rfl (.tmp (v := V.int .i64 1) rfl .nil) (.free rfl) (by simp) (.inr rfl)
      · skip
        refine SafeOps.quiet0 E_good (congrArg (fun b => some (!b)) hc296) rfl rfl (v := V.sl 3 (rws api_Instr.cells (gt a0_5 v17_290))) (.fn rfl) ?_
        refine SafeOps.quiet0 E_good (congrArg (fun b => some (!b)) hc296) rfl rfl (v := V.fn 29 [V.ptr [1] 0 0]) (.fn rfl) ?_
        refine SafeOps.inline E_good (congrArg (fun b => some (!b)) hc296) rfl rfl rfl rfl Try.func30 rfl (fun _ _ => Try.call30 _ _) rfl ?_
        repeat (first | refine Safe.seq ?_ | refine Safe.skip ?_ | with_reducible refine thenQ.n ?_ | with_reducible refine blockQ.n ?_)
        refine Safe.region ?_
        refine SafeOps.quiet0 E_good rfl rfl rfl (v := V.bool false) (.fn rfl) ?_
        refine SafeOps.nil ?_
        repeat (first | refine Safe.seq ?_ | refine Safe.skip ?_ | with_reducible refine thenQ.n ?_ | with_reducible refine blockQ.n ?_)
        refine Safe.region ?_
        refine SafeOps.quiet0 E_good rfl rfl rfl (v := V.sl 3 (rws api_Instr.cells (gt a0_5 v17_290))) (.fn rfl) ?_
        refine SafeOps.quiet0 E_good rfl rfl rfl (v := V.fn 29 [V.ptr [1] 0 0]) (.fn rfl) ?_
        refine SafeOps.inline E_good rfl rfl rfl rfl rfl Try.func39 rfl (fun _ _ => Try.call39 _ _) rfl ?_
        repeat (first | refine Safe.seq ?_ | refine Safe.skip ?_ | with_reducible refine thenQ.n ?_ | with_reducible refine blockQ.n ?_)
        refine Safe.region ?_
        refine SafeOps.quiet0 E_good rfl rfl rfl (v := V.int .i64 0) (.fn rfl) ?_
        refine SafeOps.nil ?_
        repeat (first | refine Safe.seq ?_ | refine Safe.skip ?_ | with_reducible refine thenQ.n ?_ | with_reducible refine blockQ.n ?_)
        refine Safe.region ?_
        refine SafeOps.quiet0 E_good rfl rfl rfl (v := V.sl 3 (rws api_Instr.cells (gt a0_5 v17_290))) (.fn rfl) ?_
        refine SafeOps.quiet0 E_good rfl rfl rfl (v := V.int .i64 ((gt a0_5 v17_290).length : Int)) (.fnE rfl lenE) ?_
        refine SafeOps.quiet0 E_good rfl rfl rfl (v := V.int .i64 0) (.fn rfl) ?_
        refine SafeOps.nil ?_
        repeat (first | refine Safe.seq ?_ | refine Safe.skip ?_ | with_reducible refine thenQ.n ?_ | with_reducible refine blockQ.n ?_)
        refine Safe.block ?_
        repeat (first | refine Safe.seq ?_ | refine Safe.skip ?_ | with_reducible refine thenQ.n ?_ | with_reducible refine blockQ.n ?_)
        refine Safe.loopW (fun (v8_321 : Int) => ⟨Try.f39.ntmps, [(0, V.sl 3 (rws api_Instr.cells (gt a0_5 v17_290))), (1, V.fn 29 [V.ptr [1] 0 0]), (7, V.int .i64 ((gt a0_5 v17_290).length : Int)), (8, V.int .i64 v8_321)], [([1], Obj.box [V.sl 1 (rws (fun l => [V.sl 3 (rws api_Instr.cells l)]) a0_5)])], [(Try.f30.ntmps, []), (Try.f13.ntmps, [(3, V.fn 29 [V.ptr [1] 0 0]), (15, V.sl 1 (rws (fun l => [V.sl 3 (rws api_Instr.cells l)]) a0_5)), (16, V.int .i64 (a0_5.length : Int)), (17, V.int .i64 v17_290), (24, V.bool (x_294 != 0)), (25, V.sl 3 (rws api_Instr.cells (gt a0_5 v17_290))), (26, V.fn 29 [V.ptr [1] 0 0])])], [27, 7]⟩) h (.cov ⟨rfl, rfl, (upT_cons (.refl _) (upT_cons (.refl _) (upT_cons (.refl _) (upT_cons (.refl _) upT_nil)))), (upOb_cons rfl (.refl _) upOb_nil), (upOut_cons rfl upT_nil (upOut_cons rfl (upT_cons (.refl _) (upT_cons (.refl _) (upT_cons (.refl _) (upT_cons (.refl _) (upT_cons (.refl _) (upT_cons (.refl _) (upT_cons (.refl _) upT_nil))))))) upOut_nil)), rfl⟩) ?_
        intro v8_321 ohr322 h hr322
        replace h : go_code_CheckAll_s4 a0_5 v17_290 v8_321 = some ohr322 := h
        rw [go_code_CheckAll_s4] at h
        repeat (first | refine Safe.seq ?_ | refine Safe.skip ?_ | with_reducible refine thenQ.n ?_ | with_reducible refine blockQ.n ?_)
        refine Safe.region ?_
        refine SafeOps.quiet0 E_good rfl rfl rfl (v := V.bool (decide (v8_321 < ((gt a0_5 v17_290).length : Int)))) (.fn rfl) ?_
        refine SafeOps.nil ?_
        repeat (first | refine Safe.seq ?_ | refine Safe.skip ?_ | with_reducible refine thenQ.n ?_ | with_reducible refine blockQ.n ?_)
        refine ifG h (fun hc323 h => ?_) (fun hc323 h => ?_)
        · skip
          refine Safe.condK rfl hc323 ?_
          repeat (first | refine Safe.seq ?_ | refine Safe.skip ?_ | with_reducible refine thenQ.n ?_ | with_reducible refine blockQ.n ?_)
          refine Safe.block ?_
          repeat (first | refine Safe.seq ?_ | refine Safe.skip ?_ | with_reducible refine thenQ.n ?_ | with_reducible refine blockQ.n ?_)
          refine Safe.region ?_
          refine SafeOps.quiet0 E_good rfl rfl rfl (v := V.int .i64 v8_321) (.fn rfl) ?_
          refine SafeOps.quiet0 E_good rfl rfl rfl (v := V.int .i64 v8_321) (.fn rfl) ?_
          refine SafeOps.nil ?_
          repeat (first | refine Safe.seq ?_ | refine Safe.skip ?_ | with_reducible refine thenQ.n ?_ | with_reducible refine blockQ.n ?_)
          refine Safe.region ?_
          refine SafeOps.quiet0 E_good rfl rfl rfl (v := V.fn 29 [V.ptr [1] 0 0]) (.fn rfl) ?_
          refine SafeOps.quiet0 E_good rfl rfl rfl (v := V.sl 3 (rws api_Instr.cells (gt a0_5 v17_290))) (.fn rfl) ?_
          refine SafeOps.quiet0 E_good rfl rfl rfl (v := V.int .i64 v8_321) (.fn rfl) ?_
          refine okG h (fun hb324 h => ?_)
          refine SafeOps.quiet0 E_good rfl rfl rfl (v := V.spt 3 (rws api_Instr.cells (gt a0_5 v17_290)) (Int.toNat v8_321) 0) (.idxSlM (f := api_Instr.cells) rfl rfl rfl rfl rfl hb324) ?_
          refine SafeOps.quiet0 E_good rfl rfl rfl (v := V.agg [V.int .i64 ((gt (gt a0_5 v17_290) v8_321).Op), V.int .i64 ((gt (gt a0_5 v17_290) v8_321).A), V.int .i64 ((gt (gt a0_5 v17_290) v8_321).B)]) (.load rfl rfl (.sptM (f := api_Instr.cells) hb324 rfl) rfl) ?_
          refine SafeOps.inline E_good rfl rfl rfl rfl rfl Try.func29 rfl (fun _ _ => Try.call29 _ _) rfl ?_
          repeat (first | refine Safe.seq ?_ | refine Safe.skip ?_ | with_reducible refine thenQ.n ?_ | with_reducible refine blockQ.n ?_)
          refine Safe.region ?_
          refine SafeOps.quiet1 E_good rfl rfl rfl (.box rfl rfl) rfl ?_
          refine SafeOps.quiet0 E_good rfl rfl rfl (v := V.bool false) (.fn rfl) ?_
          refine SafeOps.nil ?_
          repeat (first | refine Safe.seq ?_ | refine Safe.skip ?_ | with_reducible refine thenQ.n ?_ | with_reducible refine blockQ.n ?_)
          refine Safe.region ?_
          refine SafeOps.quiet0 E_good rfl rfl rfl (v := V.ptr [27, 7, 16, 2] 0 0) (.fn rfl) ?_
          refine SafeOps.quiet0 E_good rfl rfl rfl (v := V.int .i64 ((gt (gt a0_5 v17_290) v8_321).Op)) (.load rfl rfl (.box rfl rfl) rfl) ?_
          refine SafeOps.quiet0 E_good rfl rfl rfl (v := V.bool (((gt (gt a0_5 v17_290) v8_321).Op) == 2)) (.fn rfl) ?_
          refine SafeOps.quiet0 E_good rfl rfl rfl (v := V.bool (((gt (gt a0_5 v17_290) v8_321).Op) == 2)) (.fn rfl) ?_
          refine SafeOps.bjoin 6 13 (b := ((((gt (gt a0_5 v17_290) v8_321).Op) == 2) && (decide (((gt (gt a0_5 v17_290) v8_321).A) ≥ (a0_5.length : Int))))) (b1 := decide (((gt (gt a0_5 v17_290) v8_321).A) ≥ (a0_5.length : Int))) (b0 := false) (fun hc325 K => ?_) (fun hc325 K => ?_) bj_and ?_
          · skip
            refine SafeOps.quiet0 E_good (congrArg some hc325) rfl rfl (v := V.ptr [27, 7, 16, 2] 0 1) (.fn rfl) ?_
            refine SafeOps.quiet0 E_good (congrArg some hc325) rfl rfl (v := V.int .i64 ((gt (gt a0_5 v17_290) v8_321).A)) (.load rfl rfl (.box rfl rfl) rfl) ?_
            refine SafeOps.quiet0 E_good (congrArg some hc325) rfl rfl (v := V.sl 1 (rws (fun l => [V.sl 3 (rws api_Instr.cells l)]) a0_5)) (.load rfl rfl (.box rfl rfl) rfl) ?_
            refine SafeOps.quiet0 E_good (congrArg some hc325) rfl rfl (v := V.int .i64 (a0_5.length : Int)) (.fnE rfl lenE) ?_
            refine SafeOps.quiet0 E_good (congrArg some hc325) rfl rfl (v := V.bool (decide (((gt (gt a0_5 v17_290) v8_321).A) ≥ (a0_5.length : Int)))) (.fn rfl) ?_
            refine SafeOps.quiet0 E_good rfl rfl rfl (v := V.bool (decide (((gt (gt a0_5 v17_290) v8_321).A) ≥ (a0_5.length : Int)))) (.pickK rfl hc325 rfl) ?_
            exact SafeOps.drop' 6 rfl rfl rfl K
          · skip
            refine SafeOps.skip (congrArg some hc325) rfl rfl ?_
            refine SafeOps.skip (congrArg some hc325) rfl rfl ?_
            refine SafeOps.skip (congrArg some hc325) rfl rfl ?_
            refine SafeOps.skip (congrArg some hc325) rfl rfl ?_
            refine SafeOps.skip (congrArg some hc325) rfl rfl ?_
            refine SafeOps.quiet0 E_good rfl rfl rfl (v := V.bool false) (.pickK rfl hc325 rfl) ?_
            exact SafeOps.drop' 6 rfl rfl rfl K
          refine SafeOps.quiet0 E_good rfl rfl rfl (v := V.bool ((((gt (gt a0_5 v17_290) v8_321).Op) == 2) && (decide (((gt (gt a0_5 v17_290) v8_321).A) ≥ (a0_5.length : Int))))) (.fn rfl) ?_
          refine SafeOps.nil ?_
          repeat (first | refine Safe.seq ?_ | refine Safe.skip ?_ | with_reducible refine thenQ.n ?_ | with_reducible refine blockQ.n ?_)
          refine Safe.ret ?_
          repeat (first | with_reducible refine thenQ.r ?_ | with_reducible refine blockQ.r ?_)
          refine inQ.gen (vs := [V.bool ((((gt (gt a0_5 v17_290) v8_321).Op) == 2) && (decide (((gt (gt a0_5 v17_290) v8_321).A) ≥ (a0_5.length : Int))))]) (v := V.bool ((((gt (gt a0_5 v17_290) v8_321).Op) == 2) && (decide (((gt (gt a0_5 v17_290) v8_321).A) ≥ (a0_5.length : Int))))) (.inr rfl) rfl (.tmp (v := V.bool ((((gt (gt a0_5 v17_290) v8_321).Op) == 2) && (decide (((gt (gt a0_5 v17_290) v8_321).A) ≥ (a0_5.length : Int))))) rfl .nil) rfl ?_
          refine SafeOps.nil ?_
          repeat (first | refine Safe.seq ?_ | refine Safe.skip ?_ | with_reducible refine thenQ.n ?_ | with_reducible refine blockQ.n ?_)
          refine ifG h (fun hc326 h => ?_) (fun hc326 h => ?_)
          · skip
            refine Safe.condK rfl hc326 ?_
            repeat (first | refine Safe.seq ?_ | refine Safe.skip ?_ | with_reducible refine thenQ.n ?_ | with_reducible refine blockQ.n ?_)
            refine Safe.region ?_
            refine SafeOps.quiet0 E_good rfl rfl rfl (v := V.int .i64 v8_321) (.fn rfl) ?_
            refine SafeOps.quiet0 E_good rfl rfl rfl (v := V.int .i64 v8_321) (.fn rfl) ?_
            refine SafeOps.nil ?_
            repeat (first | refine Safe.seq ?_ | refine Safe.skip ?_ | with_reducible refine thenQ.n ?_ | with_reducible refine blockQ.n ?_)
            refine Safe.ret ?_
            repeat (first | with_reducible refine thenQ.r ?_ | with_reducible refine blockQ.r ?_)
            refine inQ.gen (vs := [V.int .i64 v8_321]) (v := V.int .i64 v8_321) (.inr rfl) rfl (.tmp (v := V.int .i64 v8_321) rfl .nil) rfl ?_
            replace h := inr_out h hr322
            refine SafeOps.quiet0 E_good rfl rfl rfl (v := V.bool (decide (v8_321 ≥ 0))) (.fn rfl) ?_
            refine SafeOps.quiet0 E_good rfl rfl rfl (v := V.bool (decide (v8_321 ≥ 0))) (.fn rfl) ?_
            refine SafeOps.nil ?_
            repeat (first | refine Safe.seq ?_ | refine Safe.skip ?_ | with_reducible refine thenQ.n ?_ | with_reducible refine blockQ.n ?_)
            refine Safe.ret ?_
            repeat (first | with_reducible refine thenQ.r ?_ | with_reducible refine blockQ.r ?_)
            refine inQ.gen (vs := [V.bool (decide (v8_321 ≥ 0))]) (v := V.bool (decide (v8_321 ≥ 0))) (.inr rfl) rfl (.tmp (v := V.bool (decide (v8_321 ≥ 0))) rfl .nil) rfl ?_
            refine SafeOps.quiet0 E_good rfl rfl rfl (v := V.bool (decide (v8_321 ≥ 0))) (.pickK rfl hc296 rfl) ?_
            refine SafeOps.nil ?_
            repeat (first | refine Safe.seq ?_ | refine Safe.skip ?_ | with_reducible refine thenQ.n ?_ | with_reducible refine blockQ.n ?_)
            refine ifG h (fun hc327 h => ?_) (fun hc327 h => ?_)
            · skip
              refine Safe.condK rfl hc327 ?_
              repeat (first | refine Safe.seq ?_ | refine Safe.skip ?_ | with_reducible refine thenQ.n ?_ | with_reducible refine blockQ.n ?_)
              refine Safe.region ?_
              refine SafeOps.quiet0 E_good rfl rfl rfl (v := V.int .i64 1) (.fn rfl) ?_
              refine SafeOps.nil ?_
              repeat (first | refine Safe.seq ?_ | refine Safe.skip ?_ | with_reducible refine thenQ.n ?_ | with_reducible refine blockQ.n ?_)
              refine Safe.ret ?_
              repeat (first | with_reducible refine thenQ.r ?_ | with_reducible refine blockQ.r ?_)
              replace h := inr_out h hr291
              obtain rfl := Option.some.inj h
              exact retQ.gen (vs := [V.int .i64 1]) rfl (.tmp (v := V.int .i64 1) rfl .nil) (.free rfl) (by simp) (.inr rfl)
            · skip
              refine Safe.condN rfl hc327 ?_
              repeat (first | refine Safe.seq ?_ | refine Safe.skip ?_ | with_reducible refine thenQ.n ?_ | with_reducible refine blockQ.n ?_)
              refine Safe.region ?_
              refine SafeOps.quiet0 E_good rfl rfl rfl (v := V.int .i64 (IntKind.i64.wrap (v17_290 + 1))) (.fn rfl) ?_
              refine SafeOps.quiet0 E_good rfl rfl rfl (v := V.int .i64 (IntKind.i64.wrap (v17_290 + 1))) (.fn rfl) ?_
              refine SafeOps.nil ?_
              repeat (first | refine Safe.seq ?_ | refine Safe.skip ?_ | with_reducible refine thenQ.n ?_ | with_reducible refine blockQ.n ?_)
              exact ⟨_, next_out h, (.cov ⟨rfl, rfl, (upT_cons (.refl _) (upT_cons (.refl _) (upT_cons (.refl _) (upT_cons (.refl _) upT_nil)))), (upOb_cons rfl (.refl _) upOb_nil), upOut_nil, rfl⟩)⟩
          · skip
            refine Safe.condN rfl hc326 ?_
            repeat (first | refine Safe.seq ?_ | refine Safe.skip ?_ | with_reducible refine thenQ.n ?_ | with_reducible refine blockQ.n ?_)
            refine Safe.region ?_
            refine SafeOps.quiet0 E_good rfl rfl rfl (v := V.int .i64 (IntKind.i64.wrap (v8_321 + 1))) (.fn rfl) ?_
            refine SafeOps.quiet0 E_good rfl rfl rfl (v := V.int .i64 (IntKind.i64.wrap (v8_321 + 1))) (.fn rfl) ?_
            refine SafeOps.nil ?_
            repeat (first | refine Safe.seq ?_ | refine Safe.skip ?_ | with_reducible refine thenQ.n ?_ | with_reducible refine blockQ.n ?_)
            exact ⟨_, next_out h, (.cov ⟨rfl, rfl, (upT_cons (.refl _) (upT_cons (.refl _) (upT_cons (.refl _) (upT_cons (.refl _) upT_nil)))), (upOb_cons rfl (.refl _) upOb_nil), (upOut_cons rfl upT_nil (upOut_cons rfl (upT_cons (.refl _) (upT_cons (.refl _) (upT_cons (.refl _) (upT_cons (.refl _) (upT_cons (.refl _) (upT_cons (.refl _) (upT_cons (.refl _) upT_nil))))))) upOut_nil)), rfl⟩)⟩
        · skip
          refine Safe.condN rfl hc323 ?_
          repeat (first | refine Safe.seq ?_ | refine Safe.skip ?_ | with_reducible refine thenQ.n ?_ | with_reducible refine blockQ.n ?_)
          refine Safe.exit ?_
          repeat (first | with_reducible refine thenQ.e ?_ | with_reducible refine blockQ.x rfl ?_ | with_reducible refine blockQ.y rfl ?_)
          replace h := inr_out h hr322
          repeat (first | refine Safe.seq ?_ | refine Safe.skip ?_ | with_reducible refine thenQ.n ?_ | with_reducible refine blockQ.n ?_)
          refine Safe.region ?_
          refine SafeOps.quiet0 E_good rfl rfl rfl (v := V.int .i64 (-1)) (.fn rfl) ?_
          refine SafeOps.nil ?_
          repeat (first | refine Safe.seq ?_ | refine Safe.skip ?_ | with_reducible refine thenQ.n ?_ | with_reducible refine blockQ.n ?_)
          refine Safe.ret ?_
          repeat (first | with_reducible refine thenQ.r ?_ | with_reducible refine blockQ.r ?_)
          refine inQ.gen (vs := [V.int .i64 (-1)]) (v := V.int .i64 (-1)) (.inr rfl) rfl (.tmp (v := V.int .i64 (-1)) rfl .nil) rfl ?_
          refine SafeOps.quiet0 E_good rfl rfl rfl (v := V.bool false) (.fn rfl) ?_
          refine SafeOps.quiet0 E_good rfl rfl rfl (v := V.bool false) (.fn rfl) ?_
          refine SafeOps.nil ?_
          repeat (first | refine Safe.seq ?_ | refine Safe.skip ?_ | with_reducible refine thenQ.n ?_ | with_reducible refine blockQ.n ?_)
          refine Safe.ret ?_
          repeat (first | with_reducible refine thenQ.r ?_ | with_reducible refine blockQ.r ?_)
          refine inQ.gen (vs := [V.bool false]) (v := V.bool false) (.inr rfl) rfl (.tmp (v := V.bool false) rfl .nil) rfl ?_
          refine SafeOps.quiet0 E_good rfl rfl rfl (v := V.bool false) (.pickK rfl hc296 rfl) ?_
          refine SafeOps.nil ?_
          repeat (first | refine Safe.seq ?_ | refine Safe.skip ?_ | with_reducible refine thenQ.n ?_ | with_reducible refine blockQ.n ?_)
          refine Safe.condN rfl rfl ?_
          repeat (first | refine Safe.seq ?_ | refine Safe.skip ?_ | with_reducible refine thenQ.n ?_ | with_reducible refine blockQ.n ?_)
          refine Safe.region ?_
          refine SafeOps.quiet0 E_good rfl rfl rfl (v := V.int .i64 (IntKind.i64.wrap (v17_290 + 1))) (.fn rfl) ?_
          refine SafeOps.quiet0 E_good rfl rfl rfl (v := V.int .i64 (IntKind.i64.wrap (v17_290 + 1))) (.fn rfl) ?_
          refine SafeOps.nil ?_
          repeat (first | refine Safe.seq ?_ | refine Safe.skip ?_ | with_reducible refine thenQ.n ?_ | with_reducible refine blockQ.n ?_)
          exact ⟨_, next_out h, (.cov ⟨rfl, rfl, (upT_cons (.refl _) (upT_cons (.refl _) (upT_cons (.refl _) (upT_cons (.refl _) upT_nil)))), (upOb_cons rfl (.refl _) upOb_nil), upOut_nil, rfl⟩)⟩
    · skip
      refine Safe.condN rfl hc292 ?_
      repeat (first | refine Safe.seq ?_ | refine Safe.skip ?_ | with_reducible refine thenQ.n ?_ | with_reducible refine blockQ.n ?_)
      refine Safe.exit ?_
      repeat (first | with_reducible refine thenQ.e ?_ | with_reducible refine blockQ.x rfl ?_ | with_reducible refine blockQ.y rfl ?_)
      replace h := inr_out h hr291
      repeat (first | refine Safe.seq ?_ | refine Safe.skip ?_ | with_reducible refine thenQ.n ?_ | with_reducible refine blockQ.n ?_)
      refine Safe.region ?_
      refine SafeOps.quiet0 E_good rfl rfl rfl (v := V.int .i64 0) (.fn rfl) ?_
      refine SafeOps.nil ?_
      repeat (first | refine Safe.seq ?_ | refine Safe.skip ?_ | with_reducible refine thenQ.n ?_ | with_reducible refine blockQ.n ?_)
      refine Safe.ret ?_
      repeat (first | with_reducible refine thenQ.r ?_ | with_reducible refine blockQ.r ?_)
      obtain rfl := Option.some.inj h
      exact retQ.gen (vs := [V.int .i64 0]) rfl (.tmp (v := V.int .i64 0) rfl .nil) (.free rfl) (by simp) (.inr rfl)

def go_code_reached_1 (a0_345 : api_Instr) : Bool :=
  (a0_345.Op == 9)

theorem go_code_reached_1_sc (a0_345 : api_Instr) (r : Bool) (h : go_code_reached_1 a0_345 = r) : SC Try.prog gl 40 [V.agg [V.int .i64 a0_345.Op, V.int .i64 a0_345.A, V.int .i64 a0_345.B]] (V.bool r) := by
  rw [go_code_reached_1] at h
  refine SC.of E_good Try.func40 rfl (fun _ _ => Try.call40 _ _) rfl ?_
  repeat (first | refine Safe.seq ?_ | refine Safe.skip ?_ | with_reducible refine thenQ.n ?_ | with_reducible refine blockQ.n ?_)
  refine Safe.region ?_
  refine SafeOps.quiet1 E_good rfl rfl rfl (.box rfl rfl) rfl ?_
  refine SafeOps.quiet0 E_good rfl rfl rfl (v := V.bool false) (.fn rfl) ?_
  refine SafeOps.nil ?_
  repeat (first | refine Safe.seq ?_ | refine Safe.skip ?_ | with_reducible refine thenQ.n ?_ | with_reducible refine blockQ.n ?_)
  refine Safe.region ?_
  refine SafeOps.quiet0 E_good rfl rfl rfl (v := V.ptr [1] 0 0) (.fn rfl) ?_
  refine SafeOps.quiet0 E_good rfl rfl rfl (v := V.int .i64 a0_345.Op) (.load rfl rfl (.box rfl rfl) rfl) ?_
  refine SafeOps.quiet0 E_good rfl rfl rfl (v := V.bool (a0_345.Op == 9)) (.fn rfl) ?_
  refine SafeOps.quiet0 E_good rfl rfl rfl (v := V.bool (a0_345.Op == 9)) (.fn rfl) ?_
  refine SafeOps.nil ?_
  repeat (first | refine Safe.seq ?_ | refine Safe.skip ?_ | with_reducible refine thenQ.n ?_ | with_reducible refine blockQ.n ?_)
  refine Safe.ret ?_
  repeat (first | with_reducible refine thenQ.r ?_ | with_reducible refine blockQ.r ?_)
  obtain rfl := h
  exact retQ.gen (vs := [V.bool (a0_345.Op == 9)]) rfl (.tmp (v := V.bool (a0_345.Op == 9)) rfl .nil) (.free rfl) (by simp) (.inr rfl)

noncomputable def go_slices_IndexFunc_api_Instr_api_Instr_140_s1 (a0_341 : List api_Instr) : (Int) → Option ((Int) ⊕ (Int))
  | v8_363 =>
    if (decide (v8_363 < (a0_341.length : Int))) = true then
      if 0 ≤ v8_363 ∧ v8_363 < (a0_341.length : Int) then
        if (go_code_reached_1 (gt a0_341 v8_363)) = true then
          inrO (
            some v8_363)
        else
          nextO (IntKind.i64.wrap (v8_363 + 1))
      else none
    else
      inrO (
        some (-1))

noncomputable def go_slices_IndexFunc_api_Instr_api_Instr_140 (a0_341 : List api_Instr) : Option Int :=
  whileO (go_slices_IndexFunc_api_Instr_api_Instr_140_s1 a0_341) 0

theorem go_slices_IndexFunc_api_Instr_api_Instr_140_sc (a0_341 : List api_Instr) (r : Int) (h : go_slices_IndexFunc_api_Instr_api_Instr_140 a0_341 = some r) : SC Try.prog gl 39 [V.sl 3 (rws api_Instr.cells a0_341), V.fn 40 []] (V.int .i64 r) := by
  rw [go_slices_IndexFunc_api_Instr_api_Instr_140] at h
  refine SC.of E_good Try.func39 rfl (fun _ _ => Try.call39 _ _) rfl ?_
  repeat (first | refine Safe.seq ?_ | refine Safe.skip ?_ | with_reducible refine thenQ.n ?_ | with_reducible refine blockQ.n ?_)
  refine Safe.region ?_
  refine SafeOps.quiet0 E_good rfl rfl rfl (v := V.int .i64 0) (.fn rfl) ?_
  refine SafeOps.nil ?_
  repeat (first | refine Safe.seq ?_ | refine Safe.skip ?_ | with_reducible refine thenQ.n ?_ | with_reducible refine blockQ.n ?_)
  refine Safe.region ?_
  refine SafeOps.quiet0 E_good rfl rfl rfl (v := V.sl 3 (rws api_Instr.cells a0_341)) (.fn rfl) ?_
  refine SafeOps.quiet0 E_good rfl rfl rfl (v := V.int .i64 (a0_341.length : Int)) (.fnE rfl lenE) ?_
  refine SafeOps.quiet0 E_good rfl rfl rfl (v := V.int .i64 0) (.fn rfl) ?_
  refine SafeOps.nil ?_
  repeat (first | refine Safe.seq ?_ | refine Safe.skip ?_ | with_reducible refine thenQ.n ?_ | with_reducible refine blockQ.n ?_)
  refine Safe.block ?_
  repeat (first | refine Safe.seq ?_ | refine Safe.skip ?_ | with_reducible refine thenQ.n ?_ | with_reducible refine blockQ.n ?_)
  refine Safe.loopW (fun (v8_363 : Int) => ⟨Try.f39.ntmps, [(0, V.sl 3 (rws api_Instr.cells a0_341)), (1, V.fn 40 []), (7, V.int .i64 (a0_341.length : Int)), (8, V.int .i64 v8_363)], [], [], []⟩) h (.cov ⟨rfl, rfl, (upT_cons (.refl _) (upT_cons (.refl _) (upT_cons (.refl _) (upT_cons (.refl _) upT_nil)))), upOb_nil, upOut_nil, rfl⟩) ?_
  intro v8_363 ohr364 h hr364
  replace h : go_slices_IndexFunc_api_Instr_api_Instr_140_s1 a0_341 v8_363 = some ohr364 := h
  rw [go_slices_IndexFunc_api_Instr_api_Instr_140_s1] at h
  repeat (first | refine Safe.seq ?_ | refine Safe.skip ?_ | with_reducible refine thenQ.n ?_ | with_reducible refine blockQ.n ?_)
  refine Safe.region ?_
  refine SafeOps.quiet0 E_good rfl rfl rfl (v := V.bool (decide (v8_363 < (a0_341.length : Int)))) (.fn rfl) ?_
  refine SafeOps.nil ?_
  repeat (first | refine Safe.seq ?_ | refine Safe.skip ?_ | with_reducible refine thenQ.n ?_ | with_reducible refine blockQ.n ?_)
  refine ifG h (fun hc365 h => ?_) (fun hc365 h => ?_)
  · skip
    refine Safe.condK rfl hc365 ?_
    repeat (first | refine Safe.seq ?_ | refine Safe.skip ?_ | with_reducible refine thenQ.n ?_ | with_reducible refine blockQ.n ?_)
    refine Safe.block ?_
    repeat (first | refine Safe.seq ?_ | refine Safe.skip ?_ | with_reducible refine thenQ.n ?_ | with_reducible refine blockQ.n ?_)
    refine Safe.region ?_
    refine SafeOps.quiet0 E_good rfl rfl rfl (v := V.int .i64 v8_363) (.fn rfl) ?_
    refine SafeOps.quiet0 E_good rfl rfl rfl (v := V.int .i64 v8_363) (.fn rfl) ?_
    refine SafeOps.nil ?_
    repeat (first | refine Safe.seq ?_ | refine Safe.skip ?_ | with_reducible refine thenQ.n ?_ | with_reducible refine blockQ.n ?_)
    refine Safe.region ?_
    refine SafeOps.quiet0 E_good rfl rfl rfl (v := V.fn 40 []) (.fn rfl) ?_
    refine SafeOps.quiet0 E_good rfl rfl rfl (v := V.sl 3 (rws api_Instr.cells a0_341)) (.fn rfl) ?_
    refine SafeOps.quiet0 E_good rfl rfl rfl (v := V.int .i64 v8_363) (.fn rfl) ?_
    refine okG h (fun hb366 h => ?_)
    refine SafeOps.quiet0 E_good rfl rfl rfl (v := V.spt 3 (rws api_Instr.cells a0_341) (Int.toNat v8_363) 0) (.idxSlM (f := api_Instr.cells) rfl rfl rfl rfl rfl hb366) ?_
    refine SafeOps.quiet0 E_good rfl rfl rfl (v := V.agg [V.int .i64 ((gt a0_341 v8_363).Op), V.int .i64 ((gt a0_341 v8_363).A), V.int .i64 ((gt a0_341 v8_363).B)]) (.load rfl rfl (.sptM (f := api_Instr.cells) hb366 rfl) rfl) ?_
    refine SafeOps.quiet0 E_good rfl rfl rfl (v := V.bool (go_code_reached_1 (gt a0_341 v8_363))) (.callP rfl rfl (go_code_reached_1_sc (gt a0_341 v8_363) _ rfl) rfl) ?_
    refine SafeOps.nil ?_
    repeat (first | refine Safe.seq ?_ | refine Safe.skip ?_ | with_reducible refine thenQ.n ?_ | with_reducible refine blockQ.n ?_)
    refine ifG h (fun hc367 h => ?_) (fun hc367 h => ?_)
    · skip
      refine Safe.condK rfl hc367 ?_
      repeat (first | refine Safe.seq ?_ | refine Safe.skip ?_ | with_reducible refine thenQ.n ?_ | with_reducible refine blockQ.n ?_)
      refine Safe.region ?_
      refine SafeOps.quiet0 E_good rfl rfl rfl (v := V.int .i64 v8_363) (.fn rfl) ?_
      refine SafeOps.quiet0 E_good rfl rfl rfl (v := V.int .i64 v8_363) (.fn rfl) ?_
      refine SafeOps.nil ?_
      repeat (first | refine Safe.seq ?_ | refine Safe.skip ?_ | with_reducible refine thenQ.n ?_ | with_reducible refine blockQ.n ?_)
      refine Safe.ret ?_
      repeat (first | with_reducible refine thenQ.r ?_ | with_reducible refine blockQ.r ?_)
      replace h := inr_out h hr364
      obtain rfl := Option.some.inj h
      exact retQ.gen (vs := [V.int .i64 v8_363]) rfl (.tmp (v := V.int .i64 v8_363) rfl .nil) (.free rfl) (by simp) (.inr rfl)
    · skip
      refine Safe.condN rfl hc367 ?_
      repeat (first | refine Safe.seq ?_ | refine Safe.skip ?_ | with_reducible refine thenQ.n ?_ | with_reducible refine blockQ.n ?_)
      refine Safe.region ?_
      refine SafeOps.quiet0 E_good rfl rfl rfl (v := V.int .i64 (IntKind.i64.wrap (v8_363 + 1))) (.fn rfl) ?_
      refine SafeOps.quiet0 E_good rfl rfl rfl (v := V.int .i64 (IntKind.i64.wrap (v8_363 + 1))) (.fn rfl) ?_
      refine SafeOps.nil ?_
      repeat (first | refine Safe.seq ?_ | refine Safe.skip ?_ | with_reducible refine thenQ.n ?_ | with_reducible refine blockQ.n ?_)
      exact ⟨_, next_out h, (.cov ⟨rfl, rfl, (upT_cons (.refl _) (upT_cons (.refl _) (upT_cons (.refl _) (upT_cons (.refl _) upT_nil)))), upOb_nil, upOut_nil, rfl⟩)⟩
  · skip
    refine Safe.condN rfl hc365 ?_
    repeat (first | refine Safe.seq ?_ | refine Safe.skip ?_ | with_reducible refine thenQ.n ?_ | with_reducible refine blockQ.n ?_)
    refine Safe.exit ?_
    repeat (first | with_reducible refine thenQ.e ?_ | with_reducible refine blockQ.x rfl ?_ | with_reducible refine blockQ.y rfl ?_)
    replace h := inr_out h hr364
    repeat (first | refine Safe.seq ?_ | refine Safe.skip ?_ | with_reducible refine thenQ.n ?_ | with_reducible refine blockQ.n ?_)
    refine Safe.region ?_
    refine SafeOps.quiet0 E_good rfl rfl rfl (v := V.int .i64 (-1)) (.fn rfl) ?_
    refine SafeOps.nil ?_
    repeat (first | refine Safe.seq ?_ | refine Safe.skip ?_ | with_reducible refine thenQ.n ?_ | with_reducible refine blockQ.n ?_)
    refine Safe.ret ?_
    repeat (first | with_reducible refine thenQ.r ?_ | with_reducible refine blockQ.r ?_)
    obtain rfl := Option.some.inj h
    exact retQ.gen (vs := [V.int .i64 (-1)]) rfl (.tmp (v := V.int .i64 (-1)) rfl .nil) (.free rfl) (by simp) (.inr rfl)

noncomputable def go_code_reached (a0_340 : List api_Instr) : Option (List api_Instr) :=
  (go_slices_IndexFunc_api_Instr_api_Instr_140 a0_340).bind fun x_372 =>
  if (decide (x_372 ≥ 0)) = true then
    if 0 ≤ (IntKind.i64.wrap (x_372 + 1)) ∧ (IntKind.i64.wrap (x_372 + 1)) ≤ (a0_340.length : Int) then
      some (sub a0_340 0 (IntKind.i64.wrap (x_372 + 1)))
    else none
  else
    some a0_340

theorem go_code_reached_sc (a0_340 : List api_Instr) (r : List api_Instr) (h : go_code_reached a0_340 = some r) : SC Try.prog gl 28 [V.sl 3 (rws api_Instr.cells a0_340)] (V.sl 3 (rws api_Instr.cells r)) := by
  rw [go_code_reached] at h
  refine SC.of E_good Try.func28 rfl (fun _ _ => Try.call28 _ _) rfl ?_
  repeat (first | refine Safe.seq ?_ | refine Safe.skip ?_ | with_reducible refine thenQ.n ?_ | with_reducible refine blockQ.n ?_)
  refine Safe.region ?_
  refine SafeOps.quiet0 E_good rfl rfl rfl (v := V.nils) (.fn rfl) ?_
  refine SafeOps.nil ?_
  repeat (first | refine Safe.seq ?_ | refine Safe.skip ?_ | with_reducible refine thenQ.n ?_ | with_reducible refine blockQ.n ?_)
  refine Safe.region ?_
  refine SafeOps.quiet0 E_good rfl rfl rfl (v := V.sl 3 (rws api_Instr.cells a0_340)) (.fn rfl) ?_
  refine bindG h ?_
  intro x_372 he373 h
  refine SafeOps.quiet0 E_good rfl rfl rfl (v := V.int .i64 x_372) (.callP rfl rfl (go_slices_IndexFunc_api_Instr_api_Instr_140_sc a0_340 _ he373) rfl) ?_
  refine SafeOps.quiet0 E_good rfl rfl rfl (v := V.int .i64 x_372) (.fn rfl) ?_
  refine SafeOps.nil ?_
  repeat (first | refine Safe.seq ?_ | refine Safe.skip ?_ | with_reducible refine thenQ.n ?_ | with_reducible refine blockQ.n ?_)
  refine Safe.region ?_
  refine SafeOps.quiet0 E_good rfl rfl rfl (v := V.int .i64 x_372) (.fn rfl) ?_
  refine SafeOps.quiet0 E_good rfl rfl rfl (v := V.bool (decide (x_372 ≥ 0))) (.fn rfl) ?_
  refine SafeOps.nil ?_
  repeat (first | refine Safe.seq ?_ | refine Safe.skip ?_ | with_reducible refine thenQ.n ?_ | with_reducible refine blockQ.n ?_)
  refine ifG h (fun hc374 h => ?_) (fun hc374 h => ?_)
  · skip
    refine Safe.condK rfl hc374 ?_
    repeat (first | refine Safe.seq ?_ | refine Safe.skip ?_ | with_reducible refine thenQ.n ?_ | with_reducible refine blockQ.n ?_)
    refine Safe.region ?_
    refine SafeOps.quiet0 E_good rfl rfl rfl (v := V.sl 3 (rws api_Instr.cells a0_340)) (.fn rfl) ?_
    refine SafeOps.quiet0 E_good rfl rfl rfl (v := V.int .i64 x_372) (.fn rfl) ?_
    refine SafeOps.quiet0 E_good rfl rfl rfl (v := V.int .i64 (IntKind.i64.wrap (x_372 + 1))) (.fn rfl) ?_
    refine okG h (fun hb375 h => ?_)
    refine SafeOps.quiet0 E_good rfl rfl rfl (v := V.sl 3 (rws api_Instr.cells (sub a0_340 0 (IntKind.i64.wrap (x_372 + 1))))) (.slH (f := api_Instr.cells) rfl rfl rfl rfl rfl hb375) ?_
    refine SafeOps.quiet0 E_good rfl rfl rfl (v := V.sl 3 (rws api_Instr.cells (sub a0_340 0 (IntKind.i64.wrap (x_372 + 1))))) (.fn rfl) ?_
    refine SafeOps.nil ?_
    repeat (first | refine Safe.seq ?_ | refine Safe.skip ?_ | with_reducible refine thenQ.n ?_ | with_reducible refine blockQ.n ?_)
    refine Safe.ret ?_
    repeat (first | with_reducible refine thenQ.r ?_ | with_reducible refine blockQ.r ?_)
    obtain rfl := Option.some.inj h
    exact retQ.gen (vs := [V.sl 3 (rws api_Instr.cells (sub a0_340 0 (IntKind.i64.wrap (x_372 + 1))))]) rfl (.tmp (v := V.sl 3 (rws api_Instr.cells (sub a0_340 0 (IntKind.i64.wrap (x_372 + 1))))) rfl .nil) (.free rfl) (by simp) (.inr rfl)
  · skip
    refine Safe.condN rfl hc374 ?_
    repeat (first | refine Safe.seq ?_ | refine Safe.skip ?_ | with_reducible refine thenQ.n ?_ | with_reducible refine blockQ.n ?_)
    refine Safe.region ?_
    refine SafeOps.quiet0 E_good rfl rfl rfl (v := V.sl 3 (rws api_Instr.cells a0_340)) (.fn rfl) ?_
    refine SafeOps.quiet0 E_good rfl rfl rfl (v := V.sl 3 (rws api_Instr.cells a0_340)) (.fn rfl) ?_
    refine SafeOps.nil ?_
    repeat (first | refine Safe.seq ?_ | refine Safe.skip ?_ | with_reducible refine thenQ.n ?_ | with_reducible refine blockQ.n ?_)
    refine Safe.ret ?_
    repeat (first | with_reducible refine thenQ.r ?_ | with_reducible refine blockQ.r ?_)
    obtain rfl := Option.some.inj h
    exact retQ.gen (vs := [V.sl 3 (rws api_Instr.cells a0_340)]) rfl (.tmp (v := V.sl 3 (rws api_Instr.cells a0_340)) rfl .nil) (.free rfl) (by simp) (.inr rfl)

noncomputable def go_code_Tasks_1_b_s2 (a0_332 : Int) (l_333 : List (List api_Instr)) (rec_336 : Int → (List (List api_Instr)) → (List (Int × Int)) → (List (Int × Bool)) → Option (Int × Int × (List (Int × Int)) × (List (Int × Bool)))) (x_376 : List api_Instr) : (Int × Int × (List (Int × Int)) × (List (Int × Bool))) → Option ((Int × Int × (List (Int × Int)) × (List (Int × Bool))) ⊕ (Int × Int × (List (Int × Int)) × (List (Int × Bool))))
  | (v10_436, v34_437, vm_438, vm_439) =>
    if (decide (v34_437 < (x_376.length : Int))) = true then
      if 0 ≤ v34_437 ∧ v34_437 < (x_376.length : Int) then
        if (((gt x_376 v34_437).Op) != 2) = true then
          nextO (v10_436, IntKind.i64.wrap (v34_437 + 1), vm_438, vm_439)
        else
          (rec_336 ((gt x_376 v34_437).A) l_333 vm_438 vm_439).bind fun (x_444, x_445, m_446, m_447) =>
          if (x_445 != 0) = true then
            inrO (
              some (0, x_445, m_446, m_447))
          else
            nextO ((if 1099511627777 < (IntKind.i64.wrap (v10_436 + x_444)) then 1099511627777 else IntKind.i64.wrap (v10_436 + x_444)), IntKind.i64.wrap (v34_437 + 1), m_446, m_447)
      else none
    else
      inrO (
        some (v10_436, 0, mput vm_438 a0_332 v10_436, mdel vm_439 a0_332))

noncomputable def go_code_Tasks_1_b (rec_336 : Int → (List (List api_Instr)) → (List (Int × Int)) → (List (Int × Bool)) → Option (Int × Int × (List (Int × Int)) × (List (Int × Bool)))) (a0_332 : Int) (l_333 : List (List api_Instr)) (m_334 : List (Int × Int)) (m_335 : List (Int × Bool)) : Option (Int × Int × (List (Int × Int)) × (List (Int × Bool))) :=
  if ((mget m_335 a0_332).getD false) = true then
    some (0, 9, m_334, m_335)
  else
    if ((mget m_334 a0_332).isSome) = true then
      some (((mget m_334 a0_332).getD 0), 0, m_334, m_335)
    else
      if 0 ≤ a0_332 ∧ a0_332 < (l_333.length : Int) then
        (go_code_reached (gt l_333 a0_332)).bind fun x_376 =>
        whileO (go_code_Tasks_1_b_s2 a0_332 l_333 rec_336 x_376) (1, 0, m_334, mput m_335 a0_332 true)
      else none

theorem go_code_Tasks_1_b_si (rec_336 : Int → (List (List api_Instr)) → (List (Int × Int)) → (List (Int × Bool)) → Option (Int × Int × (List (Int × Int)) × (List (Int × Bool)))) (HR_rec_336 : ∀ (a0_332 : Int) (l_333 : List (List api_Instr)) (m_334 : List (Int × Int)) (m_335 : List (Int × Bool)) (r : Int × Int × (List (Int × Int)) × (List (Int × Bool))), rec_336 a0_332 l_333 m_334 m_335 = some r → SI Try.prog gl 27 [V.int .i64 a0_332, V.ptr [7] 0 0, V.ptr [6] 0 0, V.ptr [2] 0 0, V.ptr [8] 0 0] [([2], Go.AM.Obj.box [V.sl 1 (rws (fun l => [V.sl 3 (rws api_Instr.cells l)]) l_333)]), ([6], Go.AM.Obj.box [V.mapr [21]]), ([7], Go.AM.Obj.box [V.mapr [22]]), ([8], Go.AM.Obj.box [V.fn 27 [V.ptr [7] 0 0, V.ptr [6] 0 0, V.ptr [2] 0 0, V.ptr [8] 0 0]]), ([21], Go.AM.Obj.map (mps (fun n : Int => V.int .i64 n) (fun n : Int => V.int .i64 n) m_334)), ([22], Go.AM.Obj.map (mps (fun n : Int => V.int .i64 n) (fun b : Bool => V.bool b) m_335))] [([2], Go.AM.Obj.box [V.sl 1 (rws (fun l => [V.sl 3 (rws api_Instr.cells l)]) l_333)]), ([6], Go.AM.Obj.box [V.mapr [21]]), ([7], Go.AM.Obj.box [V.mapr [22]]), ([8], Go.AM.Obj.box [V.fn 27 [V.ptr [7] 0 0, V.ptr [6] 0 0, V.ptr [2] 0 0, V.ptr [8] 0 0]]), ([21], Go.AM.Obj.map (mps (fun n : Int => V.int .i64 n) (fun n : Int => V.int .i64 n) r.2.2.1)), ([22], Go.AM.Obj.map (mps (fun n : Int => V.int .i64 n) (fun b : Bool => V.bool b) r.2.2.2))] (V.tup [V.int .i64 r.1, V.int .i64 r.2.1])) (a0_332 : Int) (l_333 : List (List api_Instr)) (m_334 : List (Int × Int)) (m_335 : List (Int × Bool)) (r : Int × Int × (List (Int × Int)) × (List (Int × Bool))) (h : go_code_Tasks_1_b rec_336 a0_332 l_333 m_334 m_335 = some r) : SI Try.prog gl 27 [V.int .i64 a0_332, V.ptr [7] 0 0, V.ptr [6] 0 0, V.ptr [2] 0 0, V.ptr [8] 0 0] [([2], Go.AM.Obj.box [V.sl 1 (rws (fun l => [V.sl 3 (rws api_Instr.cells l)]) l_333)]), ([6], Go.AM.Obj.box [V.mapr [21]]), ([7], Go.AM.Obj.box [V.mapr [22]]), ([8], Go.AM.Obj.box [V.fn 27 [V.ptr [7] 0 0, V.ptr [6] 0 0, V.ptr [2] 0 0, V.ptr [8] 0 0]]), ([21], Go.AM.Obj.map (mps (fun n : Int => V.int .i64 n) (fun n : Int => V.int .i64 n) m_334)), ([22], Go.AM.Obj.map (mps (fun n : Int => V.int .i64 n) (fun b : Bool => V.bool b) m_335))] [([2], Go.AM.Obj.box [V.sl 1 (rws (fun l => [V.sl 3 (rws api_Instr.cells l)]) l_333)]), ([6], Go.AM.Obj.box [V.mapr [21]]), ([7], Go.AM.Obj.box [V.mapr [22]]), ([8], Go.AM.Obj.box [V.fn 27 [V.ptr [7] 0 0, V.ptr [6] 0 0, V.ptr [2] 0 0, V.ptr [8] 0 0]]), ([21], Go.AM.Obj.map (mps (fun n : Int => V.int .i64 n) (fun n : Int => V.int .i64 n) r.2.2.1)), ([22], Go.AM.Obj.map (mps (fun n : Int => V.int .i64 n) (fun b : Bool => V.bool b) r.2.2.2))] (V.tup [V.int .i64 r.1, V.int .i64 r.2.1]) := by
  rw [go_code_Tasks_1_b] at h
  refine SI.of (pa := [9999]) E_good Try.func27 rfl (fun _ _ => Try.call27 _ _) rfl (.box (.box (.box (.box (.map (.map .nil)))))) rfl rfl rfl ?_
  repeat (first | refine Safe.seq ?_ | refine Safe.skip ?_ | with_reducible refine thenQ.n ?_ | with_reducible refine blockQ.n ?_)
  refine Safe.region ?_
  refine SafeOps.quiet0 E_good rfl rfl rfl (v := V.int .i64 0) (.fn rfl) ?_
  refine SafeOps.quiet0 E_good rfl rfl rfl (v := V.int .i64 0) (.fn rfl) ?_
  refine SafeOps.nil ?_
  repeat (first | refine Safe.seq ?_ | refine Safe.skip ?_ | with_reducible refine thenQ.n ?_ | with_reducible refine blockQ.n ?_)
  refine Safe.region ?_
  refine SafeOps.quiet0 E_good rfl rfl rfl (v := V.mapr [22]) (.load rfl rfl (.box rfl rfl) rfl) ?_
  refine SafeOps.quiet0 E_good rfl rfl rfl (v := V.int .i64 a0_332) (.fn rfl) ?_
  refine SafeOps.quiet0 E_good rfl rfl rfl (v := V.bool ((mget m_335 a0_332).getD false)) (.lookM (fv := (fun b : Bool => V.bool b)) (m := m_335) (kk := a0_332) (z0 := false) (keyI .i64) rfl rfl rfl rfl rfl rfl rfl rfl rfl rfl) ?_
  refine SafeOps.nil ?_
  repeat (first | refine Safe.seq ?_ | refine Safe.skip ?_ | with_reducible refine thenQ.n ?_ | with_reducible refine blockQ.n ?_)
  refine ifG h (fun hc337 h => ?_) (fun hc337 h => ?_)
  · skip
    refine Safe.condK rfl hc337 ?_
    repeat (first | refine Safe.seq ?_ | refine Safe.skip ?_ | with_reducible refine thenQ.n ?_ | with_reducible refine blockQ.n ?_)
    refine Safe.region ?_
    refine SafeOps.quiet0 E_good rfl rfl rfl (v := V.int .i64 0) (.fn rfl) ?_
    refine SafeOps.quiet0 E_good rfl rfl rfl (v := V.int .i64 9) (.fn rfl) ?_
    refine SafeOps.nil ?_
    repeat (first | refine Safe.seq ?_ | refine Safe.skip ?_ | with_reducible refine thenQ.n ?_ | with_reducible refine blockQ.n ?_)
    refine Safe.ret ?_
    repeat (first | with_reducible refine thenQ.r ?_ | with_reducible refine blockQ.r ?_)
    obtain rfl := Option.some.inj h
    refine siQ.gen (vs := [V.int .i64 0, V.int .i64 9]) rfl (.tmp (v := V.int .i64 0) rfl (.tmp (v := V.int .i64 9) rfl .nil)) rfl rfl ?_ (.inr rfl)
    exact ⟨rfl, rfl, rfl, rfl, rfl, rfl, trivial⟩
  · skip
    refine Safe.condN rfl hc337 ?_
    repeat (first | refine Safe.seq ?_ | refine Safe.skip ?_ | with_reducible refine thenQ.n ?_ | with_reducible refine blockQ.n ?_)
    refine Safe.region ?_
    refine SafeOps.quiet0 E_good rfl rfl rfl (v := V.mapr [21]) (.load rfl rfl (.box rfl rfl) rfl) ?_
    refine SafeOps.quiet0 E_good rfl rfl rfl (v := V.int .i64 a0_332) (.fn rfl) ?_
    refine SafeOps.quiet0 E_good rfl rfl rfl (v := V.tup [V.int .i64 ((mget m_334 a0_332).getD 0), V.bool ((mget m_334 a0_332).isSome)]) (.lookM2 (fv := (fun n : Int => V.int .i64 n)) (m := m_334) (kk := a0_332) (z0 := 0) (keyI .i64) rfl rfl rfl rfl rfl rfl rfl rfl rfl rfl) ?_
    refine SafeOps.quiet0 E_good rfl rfl rfl (v := V.tup [V.int .i64 ((mget m_334 a0_332).getD 0), V.bool ((mget m_334 a0_332).isSome)]) (.fn rfl) ?_
    refine SafeOps.quiet0 E_good rfl rfl rfl (v := V.int .i64 ((mget m_334 a0_332).getD 0)) (.fn rfl) ?_
    refine SafeOps.quiet0 E_good rfl rfl rfl (v := V.bool ((mget m_334 a0_332).isSome)) (.fn rfl) ?_
    refine SafeOps.quiet0 E_good rfl rfl rfl (v := V.int .i64 ((mget m_334 a0_332).getD 0)) (.fn rfl) ?_
    refine SafeOps.quiet0 E_good rfl rfl rfl (v := V.bool ((mget m_334 a0_332).isSome)) (.fn rfl) ?_
    refine SafeOps.nil ?_
    repeat (first | refine Safe.seq ?_ | refine Safe.skip ?_ | with_reducible refine thenQ.n ?_ | with_reducible refine blockQ.n ?_)
    refine Safe.region ?_
    refine SafeOps.quiet0 E_good rfl rfl rfl (v := V.bool ((mget m_334 a0_332).isSome)) (.fn rfl) ?_
    refine SafeOps.nil ?_
    repeat (first | refine Safe.seq ?_ | refine Safe.skip ?_ | with_reducible refine thenQ.n ?_ | with_reducible refine blockQ.n ?_)
    refine ifG h (fun hc338 h => ?_) (fun hc338 h => ?_)
    · skip
      refine Safe.condK rfl hc338 ?_
      repeat (first | refine Safe.seq ?_ | refine Safe.skip ?_ | with_reducible refine thenQ.n ?_ | with_reducible refine blockQ.n ?_)
      refine Safe.region ?_
      refine SafeOps.quiet0 E_good rfl rfl rfl (v := V.int .i64 ((mget m_334 a0_332).getD 0)) (.fn rfl) ?_
      refine SafeOps.quiet0 E_good rfl rfl rfl (v := V.int .i64 ((mget m_334 a0_332).getD 0)) (.fn rfl) ?_
      refine SafeOps.quiet0 E_good rfl rfl rfl (v := V.int .i64 0) (.fn rfl) ?_
      refine SafeOps.nil ?_
      repeat (first | refine Safe.seq ?_ | refine Safe.skip ?_ | with_reducible refine thenQ.n ?_ | with_reducible refine blockQ.n ?_)
      refine Safe.ret ?_
      repeat (first | with_reducible refine thenQ.r ?_ | with_reducible refine blockQ.r ?_)
      obtain rfl := Option.some.inj h
      refine siQ.gen (vs := [V.int .i64 ((mget m_334 a0_332).getD 0), V.int .i64 0]) rfl (.tmp (v := V.int .i64 ((mget m_334 a0_332).getD 0)) rfl (.tmp (v := V.int .i64 0) rfl .nil)) rfl rfl ?_ (.inr rfl)
      exact ⟨rfl, rfl, rfl, rfl, rfl, rfl, trivial⟩
    · skip
      refine Safe.condN rfl hc338 ?_
      repeat (first | refine Safe.seq ?_ | refine Safe.skip ?_ | with_reducible refine thenQ.n ?_ | with_reducible refine blockQ.n ?_)
      refine Safe.region ?_
      refine SafeOps.quiet0 E_good rfl rfl rfl (v := V.mapr [22]) (.load rfl rfl (.box rfl rfl) rfl) ?_
      refine SafeOps.quiet0 E_good rfl rfl rfl (v := V.int .i64 a0_332) (.fn rfl) ?_
      refine SafeOps.mputM (fun n : Int => V.int .i64 n) (fun b : Bool => V.bool b) m_335 a0_332 true E_good (keyI .i64) rfl (.inl rfl) rfl rfl rfl rfl rfl rfl rfl rfl rfl ?_
      refine SafeOps.nil ?_
      repeat (first | refine Safe.seq ?_ | refine Safe.skip ?_ | with_reducible refine thenQ.n ?_ | with_reducible refine blockQ.n ?_)
      refine Safe.region ?_
      refine SafeOps.quiet0 E_good rfl rfl rfl (v := V.int .i64 1) (.fn rfl) ?_
      refine SafeOps.nil ?_
      repeat (first | refine Safe.seq ?_ | refine Safe.skip ?_ | with_reducible refine thenQ.n ?_ | with_reducible refine blockQ.n ?_)
      refine Safe.region ?_
      refine SafeOps.quiet0 E_good rfl rfl rfl (v := V.sl 1 (rws (fun l => [V.sl 3 (rws api_Instr.cells l)]) l_333)) (.load rfl rfl (.box rfl rfl) rfl) ?_
      refine SafeOps.quiet0 E_good rfl rfl rfl (v := V.int .i64 a0_332) (.fn rfl) ?_
      refine okG h (fun hb339 h => ?_)
      refine SafeOps.quiet0 E_good rfl rfl rfl (v := V.spt 1 (rws (fun l => [V.sl 3 (rws api_Instr.cells l)]) l_333) (Int.toNat a0_332) 0) (.idxSlM (f := (fun l => [V.sl 3 (rws api_Instr.cells l)])) rfl rfl rfl rfl rfl hb339) ?_
      refine SafeOps.quiet0 E_good rfl rfl rfl (v := V.sl 3 (rws api_Instr.cells (gt l_333 a0_332))) (.load rfl rfl (.sptM (f := (fun l => [V.sl 3 (rws api_Instr.cells l)])) hb339 rfl) rfl) ?_
      refine bindG h ?_
      intro x_376 he377 h
      refine SafeOps.quiet0 E_good rfl rfl rfl (v := V.sl 3 (rws api_Instr.cells x_376)) (.callP rfl rfl (go_code_reached_sc (gt l_333 a0_332) _ he377) rfl) ?_
      refine SafeOps.quiet0 E_good rfl rfl rfl (v := V.int .i64 (x_376.length : Int)) (.fnE rfl lenE) ?_
      refine SafeOps.quiet0 E_good rfl rfl rfl (v := V.int .i64 0) (.fn rfl) ?_
      refine SafeOps.nil ?_
      repeat (first | refine Safe.seq ?_ | refine Safe.skip ?_ | with_reducible refine thenQ.n ?_ | with_reducible refine blockQ.n ?_)
      refine Safe.block ?_
      repeat (first | refine Safe.seq ?_ | refine Safe.skip ?_ | with_reducible refine thenQ.n ?_ | with_reducible refine blockQ.n ?_)
      refine Safe.loopW (fun ((v10_436, v34_437, vm_438, vm_439) : Int × Int × (List (Int × Int)) × (List (Int × Bool))) => ⟨Try.f27.ntmps, [(0, V.int .i64 a0_332), (1, V.ptr [7] 0 0), (2, V.ptr [6] 0 0), (4, V.ptr [8] 0 0), (10, V.int .i64 v10_436), (32, V.sl 3 (rws api_Instr.cells x_376)), (33, V.int .i64 (x_376.length : Int)), (34, V.int .i64 v34_437)], [([2], Obj.box [V.sl 1 (rws (fun l => [V.sl 3 (rws api_Instr.cells l)]) l_333)]), ([6], Obj.box [V.mapr [21]]), ([7], Obj.box [V.mapr [22]]), ([8], Obj.box [V.fn 27 [V.ptr [7] 0 0, V.ptr [6] 0 0, V.ptr [2] 0 0, V.ptr [8] 0 0]]), ([21], Go.AM.Obj.map (mps (fun n : Int => V.int .i64 n) (fun n : Int => V.int .i64 n) vm_438)), ([22], Go.AM.Obj.map (mps (fun n : Int => V.int .i64 n) (fun b : Bool => V.bool b) vm_439))], [(6, [(0, V.ptr [2] 0 0), (1, V.ptr [6] 0 0), (2, V.ptr [7] 0 0), (3, V.ptr [8] 0 0), (4, V.mapr [21]), (5, V.mapr [22])])], [9999]⟩) h (.cov ⟨rfl, rfl, (upT_cons (.refl _) (upT_cons (.refl _) (upT_cons (.refl _) (upT_cons (.refl _) (upT_cons (.refl _) (upT_cons (.refl _) (upT_cons (.refl _) (upT_cons (.refl _) upT_nil)))))))), (upOb_cons rfl (.refl _) (upOb_cons rfl (.refl _) (upOb_cons rfl (.refl _) (upOb_cons rfl (.refl _) (upOb_cons rfl (.refl _) (upOb_cons rfl (.refl _) upOb_nil)))))), (upOut_cons rfl (upT_cons (.refl _) (upT_cons (.refl _) (upT_cons (.refl _) (upT_cons (.refl _) (upT_cons (.refl _) (upT_cons (.refl _) upT_nil)))))) upOut_nil), rfl⟩) ?_
      rintro ⟨v10_436, v34_437, vm_438, vm_439⟩ ohr440 h hr440
      replace h : go_code_Tasks_1_b_s2 a0_332 l_333 rec_336 x_376 (v10_436, v34_437, vm_438, vm_439) = some ohr440 := h
      rw [go_code_Tasks_1_b_s2] at h
      repeat (first | refine Safe.seq ?_ | refine Safe.skip ?_ | with_reducible refine thenQ.n ?_ | with_reducible refine blockQ.n ?_)
      refine Safe.region ?_
      refine SafeOps.quiet0 E_good rfl rfl rfl (v := V.bool (decide (v34_437 < (x_376.length : Int)))) (.fn rfl) ?_
      refine SafeOps.nil ?_
      repeat (first | refine Safe.seq ?_ | refine Safe.skip ?_ | with_reducible refine thenQ.n ?_ | with_reducible refine blockQ.n ?_)
      refine ifG h (fun hc441 h => ?_) (fun hc441 h => ?_)
      · skip
        refine Safe.condK rfl hc441 ?_
        repeat (first | refine Safe.seq ?_ | refine Safe.skip ?_ | with_reducible refine thenQ.n ?_ | with_reducible refine blockQ.n ?_)
        refine Safe.block ?_
        repeat (first | refine Safe.seq ?_ | refine Safe.skip ?_ | with_reducible refine thenQ.n ?_ | with_reducible refine blockQ.n ?_)
        refine Safe.region ?_
        refine okG h (fun hb442 h => ?_)
        refine SafeOps.quiet0 E_good rfl rfl rfl (v := V.spt 3 (rws api_Instr.cells x_376) (Int.toNat v34_437) 0) (.idxSlM (f := api_Instr.cells) rfl rfl rfl rfl rfl hb442) ?_
        refine SafeOps.quiet0 E_good rfl rfl rfl (v := V.agg [V.int .i64 ((gt x_376 v34_437).Op), V.int .i64 ((gt x_376 v34_437).A), V.int .i64 ((gt x_376 v34_437).B)]) (.load rfl rfl (.sptM (f := api_Instr.cells) hb442 rfl) rfl) ?_
        refine SafeOps.quiet1 E_good rfl rfl rfl (.alloc rfl rfl) rfl ?_
        refine SafeOps.store (z := Obj.box [V.int .i64 ((gt x_376 v34_437).Op), V.int .i64 ((gt x_376 v34_437).A), V.int .i64 ((gt x_376 v34_437).B)]) E_good rfl rfl rfl rfl rfl rfl rfl (.boxM (c := 3) rfl rfl (Nat.le_of_ble_eq_true rfl) rfl) ?_
        refine SafeOps.nil ?_
        repeat (first | refine Safe.seq ?_ | refine Safe.skip ?_ | with_reducible refine thenQ.n ?_ | with_reducible refine blockQ.n ?_)
        refine Safe.region ?_
        refine SafeOps.quiet0 E_good rfl rfl rfl (v := V.ptr [9999, 12] 0 0) (.fn rfl) ?_
        refine SafeOps.quiet0 E_good rfl rfl rfl (v := V.int .i64 ((gt x_376 v34_437).Op)) (.load rfl rfl (.box rfl rfl) rfl) ?_
        refine SafeOps.quiet0 E_good rfl rfl rfl (v := V.bool (((gt x_376 v34_437).Op) != 2)) (.fn rfl) ?_
        refine SafeOps.nil ?_
        repeat (first | refine Safe.seq ?_ | refine Safe.skip ?_ | with_reducible refine thenQ.n ?_ | with_reducible refine blockQ.n ?_)
        refine ifG h (fun hc443 h => ?_) (fun hc443 h => ?_)
        · skip
          refine Safe.condK rfl hc443 ?_
          repeat (first | refine Safe.seq ?_ | refine Safe.skip ?_ | with_reducible refine thenQ.n ?_ | with_reducible refine blockQ.n ?_)
          refine Safe.exit ?_
          repeat (first | with_reducible refine thenQ.e ?_ | with_reducible refine blockQ.x rfl ?_ | with_reducible refine blockQ.y rfl ?_)
          repeat (first | refine Safe.seq ?_ | refine Safe.skip ?_ | with_reducible refine thenQ.n ?_ | with_reducible refine blockQ.n ?_)
          refine Safe.region ?_
          refine SafeOps.quiet0 E_good rfl rfl rfl (v := V.int .i64 (IntKind.i64.wrap (v34_437 + 1))) (.fn rfl) ?_
          refine SafeOps.quiet0 E_good rfl rfl rfl (v := V.int .i64 (IntKind.i64.wrap (v34_437 + 1))) (.fn rfl) ?_
          refine SafeOps.nil ?_
          repeat (first | refine Safe.seq ?_ | refine Safe.skip ?_ | with_reducible refine thenQ.n ?_ | with_reducible refine blockQ.n ?_)
          exact ⟨_, next_out h, (.cov ⟨rfl, rfl, (upT_cons (.refl _) (upT_cons (.refl _) (upT_cons (.refl _) (upT_cons (.refl _) (upT_cons (.refl _) (upT_cons (.refl _) (upT_cons (.refl _) (upT_cons (.refl _) upT_nil)))))))), (upOb_cons rfl (.refl _) (upOb_cons rfl (.refl _) (upOb_cons rfl (.refl _) (upOb_cons rfl (.refl _) (upOb_cons rfl (.refl _) (upOb_cons rfl (.refl _) upOb_nil)))))), (upOut_cons rfl (upT_cons (.refl _) (upT_cons (.refl _) (upT_cons (.refl _) (upT_cons (.refl _) (upT_cons (.refl _) (upT_cons (.refl _) upT_nil)))))) upOut_nil), rfl⟩)⟩
        · skip
          refine Safe.condN rfl hc443 ?_
          repeat (first | refine Safe.seq ?_ | refine Safe.skip ?_ | with_reducible refine thenQ.n ?_ | with_reducible refine blockQ.n ?_)
          refine Safe.region ?_
          refine SafeOps.quiet0 E_good rfl rfl rfl (v := V.fn 27 [V.ptr [7] 0 0, V.ptr [6] 0 0, V.ptr [2] 0 0, V.ptr [8] 0 0]) (.load rfl rfl (.box rfl rfl) rfl) ?_
          refine SafeOps.quiet0 E_good rfl rfl rfl (v := V.ptr [9999, 12] 0 1) (.fn rfl) ?_
          refine SafeOps.quiet0 E_good rfl rfl rfl (v := V.int .i64 ((gt x_376 v34_437).A)) (.load rfl rfl (.box rfl rfl) rfl) ?_
          refine bindG h ?_
          rintro ⟨x_444, x_445, m_446, m_447⟩ he448 h
          refine SafeOps.callI (obs := [([2], Obj.box [V.sl 1 (rws (fun l => [V.sl 3 (rws api_Instr.cells l)]) l_333)]), ([6], Obj.box [V.mapr [21]]), ([7], Obj.box [V.mapr [22]]), ([8], Obj.box [V.fn 27 [V.ptr [7] 0 0, V.ptr [6] 0 0, V.ptr [2] 0 0, V.ptr [8] 0 0]]), ([21], Go.AM.Obj.map (mps (fun n : Int => V.int .i64 n) (fun n : Int => V.int .i64 n) vm_438)), ([22], Go.AM.Obj.map (mps (fun n : Int => V.int .i64 n) (fun b : Bool => V.bool b) vm_439))]) (obs' := [([2], Obj.box [V.sl 1 (rws (fun l => [V.sl 3 (rws api_Instr.cells l)]) l_333)]), ([6], Obj.box [V.mapr [21]]), ([7], Obj.box [V.mapr [22]]), ([8], Obj.box [V.fn 27 [V.ptr [7] 0 0, V.ptr [6] 0 0, V.ptr [2] 0 0, V.ptr [8] 0 0]]), ([21], Go.AM.Obj.map (mps (fun n : Int => V.int .i64 n) (fun n : Int => V.int .i64 n) m_446)), ([22], Go.AM.Obj.map (mps (fun n : Int => V.int .i64 n) (fun b : Bool => V.bool b) m_447))]) rfl rfl rfl rfl rfl (HR_rec_336 ((gt x_376 v34_437).A) l_333 vm_438 vm_439 _ he448) (.box (.box (.box (.box (.map (.map .nil)))))) rfl ⟨rfl, rfl, rfl, rfl, rfl, rfl, trivial⟩ rfl rfl ?_
          refine SafeOps.quiet0 E_good rfl rfl rfl (v := V.tup [V.int .i64 x_444, V.int .i64 x_445]) (.fn rfl) ?_
          refine SafeOps.quiet0 E_good rfl rfl rfl (v := V.int .i64 x_444) (.fn rfl) ?_
          refine SafeOps.quiet0 E_good rfl rfl rfl (v := V.int .i64 x_445) (.fn rfl) ?_
          refine SafeOps.quiet0 E_good rfl rfl rfl (v := V.int .i64 x_444) (.fn rfl) ?_
          refine SafeOps.quiet0 E_good rfl rfl rfl (v := V.int .i64 x_445) (.fn rfl) ?_
          refine SafeOps.nil ?_
          repeat (first | refine Safe.seq ?_ | refine Safe.skip ?_ | with_reducible refine thenQ.n ?_ | with_reducible refine blockQ.n ?_)
          refine Safe.region ?_
          refine SafeOps.quiet0 E_good rfl rfl rfl (v := V.int .i64 x_445) (.fn rfl) ?_
          refine SafeOps.quiet0 E_good rfl rfl rfl (v := V.bool (x_445 != 0)) (.fn rfl) ?_
          refine SafeOps.nil ?_
          repeat (first | refine Safe.seq ?_ | refine Safe.skip ?_ | with_reducible refine thenQ.n ?_ | with_reducible refine blockQ.n ?_)
          refine ifG h (fun hc449 h => ?_) (fun hc449 h => ?_)
          · skip
            refine Safe.condK rfl hc449 ?_
            repeat (first | refine Safe.seq ?_ | refine Safe.skip ?_ | with_reducible refine thenQ.n ?_ | with_reducible refine blockQ.n ?_)
            refine Safe.region ?_
            refine SafeOps.quiet0 E_good rfl rfl rfl (v := V.int .i64 x_445) (.fn rfl) ?_
            refine SafeOps.quiet0 E_good rfl rfl rfl (v := V.int .i64 0) (.fn rfl) ?_
            refine SafeOps.quiet0 E_good rfl rfl rfl (v := V.int .i64 x_445) (.fn rfl) ?_
            refine SafeOps.nil ?_
            repeat (first | refine Safe.seq ?_ | refine Safe.skip ?_ | with_reducible refine thenQ.n ?_ | with_reducible refine blockQ.n ?_)
            refine Safe.ret ?_
            repeat (first | with_reducible refine thenQ.r ?_ | with_reducible refine blockQ.r ?_)
            replace h := inr_out h hr440
            obtain rfl := Option.some.inj h
            refine siQ.gen (vs := [V.int .i64 0, V.int .i64 x_445]) rfl (.tmp (v := V.int .i64 0) rfl (.tmp (v := V.int .i64 x_445) rfl .nil)) rfl rfl ?_ (.inr rfl)
            exact ⟨rfl, rfl, rfl, rfl, rfl, rfl, trivial⟩
          · skip
            refine Safe.condN rfl hc449 ?_
            repeat (first | refine Safe.seq ?_ | refine Safe.skip ?_ | with_reducible refine thenQ.n ?_ | with_reducible refine blockQ.n ?_)
            refine Safe.region ?_
            refine SafeOps.quiet0 E_good rfl rfl rfl (v := V.int .i64 v10_436) (.fn rfl) ?_
            refine SafeOps.quiet0 E_good rfl rfl rfl (v := V.int .i64 x_444) (.fn rfl) ?_
            refine SafeOps.quiet0 E_good rfl rfl rfl (v := V.int .i64 (IntKind.i64.wrap (v10_436 + x_444))) (.fn rfl) ?_
            refine SafeOps.quiet0 E_good rfl rfl rfl (v := V.int .i64 (if 1099511627777 < (IntKind.i64.wrap (v10_436 + x_444)) then 1099511627777 else IntKind.i64.wrap (v10_436 + x_444))) (.fn rfl) ?_
            refine SafeOps.quiet0 E_good rfl rfl rfl (v := V.int .i64 (if 1099511627777 < (IntKind.i64.wrap (v10_436 + x_444)) then 1099511627777 else IntKind.i64.wrap (v10_436 + x_444))) (.fn rfl) ?_
            refine SafeOps.nil ?_
            repeat (first | refine Safe.seq ?_ | refine Safe.skip ?_ | with_reducible refine thenQ.n ?_ | with_reducible refine blockQ.n ?_)
            refine Safe.region ?_
            refine SafeOps.quiet0 E_good rfl rfl rfl (v := V.int .i64 (IntKind.i64.wrap (v34_437 + 1))) (.fn rfl) ?_
            refine SafeOps.quiet0 E_good rfl rfl rfl (v := V.int .i64 (IntKind.i64.wrap (v34_437 + 1))) (.fn rfl) ?_
            refine SafeOps.nil ?_
            repeat (first | refine Safe.seq ?_ | refine Safe.skip ?_ | with_reducible refine thenQ.n ?_ | with_reducible refine blockQ.n ?_)
            exact ⟨_, next_out h, (.cov ⟨rfl, rfl, (upT_cons (.refl _) (upT_cons (.refl _) (upT_cons (.refl _) (upT_cons (.refl _) (upT_cons (.refl _) (upT_cons (.refl _) (upT_cons (.refl _) (upT_cons (.refl _) upT_nil)))))))), (upOb_cons rfl (.refl _) (upOb_cons rfl (.refl _) (upOb_cons rfl (.refl _) (upOb_cons rfl (.refl _) (upOb_cons rfl (.refl _) (upOb_cons rfl (.refl _) upOb_nil)))))), (upOut_cons rfl (upT_cons (.refl _) (upT_cons (.refl _) (upT_cons (.refl _) (upT_cons (.refl _) (upT_cons (.refl _) (upT_cons (.refl _) upT_nil)))))) upOut_nil), rfl⟩)⟩
      · skip
        refine Safe.condN rfl hc441 ?_
        repeat (first | refine Safe.seq ?_ | refine Safe.skip ?_ | with_reducible refine thenQ.n ?_ | with_reducible refine blockQ.n ?_)
        refine Safe.exit ?_
        repeat (first | with_reducible refine thenQ.e ?_ | with_reducible refine blockQ.x rfl ?_ | with_reducible refine blockQ.y rfl ?_)
        replace h := inr_out h hr440
        repeat (first | refine Safe.seq ?_ | refine Safe.skip ?_ | with_reducible refine thenQ.n ?_ | with_reducible refine blockQ.n ?_)
        refine Safe.region ?_
        refine SafeOps.quiet0 E_good rfl rfl rfl (v := V.mapr [22]) (.load rfl rfl (.box rfl rfl) rfl) ?_
        refine SafeOps.quiet0 E_good rfl rfl rfl (v := V.int .i64 a0_332) (.fn rfl) ?_
        refine SafeOps.mdelM (fun n : Int => V.int .i64 n) (fun b : Bool => V.bool b) vm_439 a0_332 E_good (keyI .i64) rfl rfl rfl rfl rfl rfl rfl rfl rfl ?_
        refine SafeOps.nil ?_
        repeat (first | refine Safe.seq ?_ | refine Safe.skip ?_ | with_reducible refine thenQ.n ?_ | with_reducible refine blockQ.n ?_)
        refine Safe.region ?_
        refine SafeOps.quiet0 E_good rfl rfl rfl (v := V.mapr [21]) (.load rfl rfl (.box rfl rfl) rfl) ?_
        refine SafeOps.quiet0 E_good rfl rfl rfl (v := V.int .i64 a0_332) (.fn rfl) ?_
        refine SafeOps.quiet0 E_good rfl rfl rfl (v := V.int .i64 v10_436) (.fn rfl) ?_
        refine SafeOps.mputM (fun n : Int => V.int .i64 n) (fun n : Int => V.int .i64 n) vm_438 a0_332 v10_436 E_good (keyI .i64) rfl (.inl rfl) rfl rfl rfl rfl rfl rfl rfl rfl rfl ?_
        refine SafeOps.nil ?_
        repeat (first | refine Safe.seq ?_ | refine Safe.skip ?_ | with_reducible refine thenQ.n ?_ | with_reducible refine blockQ.n ?_)
        refine Safe.region ?_
        refine SafeOps.quiet0 E_good rfl rfl rfl (v := V.int .i64 v10_436) (.fn rfl) ?_
        refine SafeOps.quiet0 E_good rfl rfl rfl (v := V.int .i64 v10_436) (.fn rfl) ?_
        refine SafeOps.quiet0 E_good rfl rfl rfl (v := V.int .i64 0) (.fn rfl) ?_
        refine SafeOps.nil ?_
        repeat (first | refine Safe.seq ?_ | refine Safe.skip ?_ | with_reducible refine thenQ.n ?_ | with_reducible refine blockQ.n ?_)
        refine Safe.ret ?_
        repeat (first | with_reducible refine thenQ.r ?_ | with_reducible refine blockQ.r ?_)
        obtain rfl := Option.some.inj h
        refine siQ.gen (vs := [V.int .i64 v10_436, V.int .i64 0]) rfl (.tmp (v := V.int .i64 v10_436) rfl (.tmp (v := V.int .i64 0) rfl .nil)) rfl rfl ?_ (.inr rfl)
        exact ⟨rfl, rfl, rfl, rfl, rfl, rfl, trivial⟩

noncomputable def go_code_Tasks_1 : Nat → Int → (List (List api_Instr)) → (List (Int × Int)) → (List (Int × Bool)) → Option (Int × Int × (List (Int × Int)) × (List (Int × Bool)))
  | 0 => fun _ _ _ _ => none
  | n + 1 => go_code_Tasks_1_b (go_code_Tasks_1 n)

theorem go_code_Tasks_1_si : ∀ (n : Nat) (a0_332 : Int) (l_333 : List (List api_Instr)) (m_334 : List (Int × Int)) (m_335 : List (Int × Bool)) (r : Int × Int × (List (Int × Int)) × (List (Int × Bool))), go_code_Tasks_1 n a0_332 l_333 m_334 m_335 = some r → SI Try.prog gl 27 [V.int .i64 a0_332, V.ptr [7] 0 0, V.ptr [6] 0 0, V.ptr [2] 0 0, V.ptr [8] 0 0] [([2], Go.AM.Obj.box [V.sl 1 (rws (fun l => [V.sl 3 (rws api_Instr.cells l)]) l_333)]), ([6], Go.AM.Obj.box [V.mapr [21]]), ([7], Go.AM.Obj.box [V.mapr [22]]), ([8], Go.AM.Obj.box [V.fn 27 [V.ptr [7] 0 0, V.ptr [6] 0 0, V.ptr [2] 0 0, V.ptr [8] 0 0]]), ([21], Go.AM.Obj.map (mps (fun n : Int => V.int .i64 n) (fun n : Int => V.int .i64 n) m_334)), ([22], Go.AM.Obj.map (mps (fun n : Int => V.int .i64 n) (fun b : Bool => V.bool b) m_335))] [([2], Go.AM.Obj.box [V.sl 1 (rws (fun l => [V.sl 3 (rws api_Instr.cells l)]) l_333)]), ([6], Go.AM.Obj.box [V.mapr [21]]), ([7], Go.AM.Obj.box [V.mapr [22]]), ([8], Go.AM.Obj.box [V.fn 27 [V.ptr [7] 0 0, V.ptr [6] 0 0, V.ptr [2] 0 0, V.ptr [8] 0 0]]), ([21], Go.AM.Obj.map (mps (fun n : Int => V.int .i64 n) (fun n : Int => V.int .i64 n) r.2.2.1)), ([22], Go.AM.Obj.map (mps (fun n : Int => V.int .i64 n) (fun b : Bool => V.bool b) r.2.2.2))] (V.tup [V.int .i64 r.1, V.int .i64 r.2.1])
  | 0, _, _, _, _, _, h => by cases h
  | n + 1, a0_332, l_333, m_334, m_335, r, h => go_code_Tasks_1_b_si (go_code_Tasks_1 n) (go_code_Tasks_1_si n) a0_332 l_333 m_334 m_335 r h

noncomputable def go_code_Tasks (a0_3 : List (List api_Instr)) (a1_4 : Int) : Option (Int × Int) :=
  (go_code_CheckAll a0_3).bind fun x_457 =>
  if ((x_457 != 0) || (!(go_code_within a1_4 (a0_3.length : Int)))) = true then
    some (0, 1)
  else
    (go_code_Tasks_1 1000 a1_4 a0_3 [] []).bind fun (x_461, x_462, m_463, m_464) =>
    if (x_462 != 0) = true then
      some (0, x_462)
    else
      if (decide (x_461 > 1099511627776)) = true then
        some (0, 4)
      else
        some (x_461, 0)

theorem go_code_Tasks_sc (a0_3 : List (List api_Instr)) (a1_4 : Int) (r : Int × Int) (h : go_code_Tasks a0_3 a1_4 = some r) : SC Try.prog gl 12 [V.sl 1 (rws (fun l => [V.sl 3 (rws api_Instr.cells l)]) a0_3), V.int .i64 a1_4] (V.tup [V.int .i64 r.1, V.int .i64 r.2]) := by
  rw [go_code_Tasks] at h
  refine SC.of E_good Try.func12 rfl (fun _ _ => Try.call12 _ _) rfl ?_
  repeat (first | refine Safe.seq ?_ | refine Safe.skip ?_ | with_reducible refine thenQ.n ?_ | with_reducible refine blockQ.n ?_)
  refine Safe.region ?_
  refine SafeOps.quiet1 E_good rfl rfl rfl (.box rfl rfl) rfl ?_
  refine SafeOps.quiet0 E_good rfl rfl rfl (v := V.int .i64 0) (.fn rfl) ?_
  refine SafeOps.quiet0 E_good rfl rfl rfl (v := V.int .i64 0) (.fn rfl) ?_
  refine SafeOps.nil ?_
  repeat (first | refine Safe.seq ?_ | refine Safe.skip ?_ | with_reducible refine thenQ.n ?_ | with_reducible refine blockQ.n ?_)
  refine Safe.region ?_
  refine SafeOps.quiet0 E_good rfl rfl rfl (v := V.sl 1 (rws (fun l => [V.sl 3 (rws api_Instr.cells l)]) a0_3)) (.load rfl rfl (.box rfl rfl) rfl) ?_
  refine bindG h ?_
  intro x_457 he458 h
  refine SafeOps.quiet0 E_good rfl rfl rfl (v := V.int .i64 x_457) (.callP rfl rfl (go_code_CheckAll_sc a0_3 _ he458) rfl) ?_
  refine SafeOps.quiet0 E_good rfl rfl rfl (v := V.bool (x_457 != 0)) (.fn rfl) ?_
  refine SafeOps.quiet0 E_good rfl rfl rfl (v := V.bool (x_457 != 0)) (.fn rfl) ?_
  refine SafeOps.bjoin 6 20 (b := ((x_457 != 0) || (!(go_code_within a1_4 (a0_3.length : Int))))) (b1 := true) (b0 := (!(go_code_within a1_4 (a0_3.length : Int)))) (fun hc459 K => ?_) (fun hc459 K => ?_) bj_or ?_
  · skip
    refine SafeOps.skip (congrArg (fun b => some (!b)) hc459) rfl rfl ?_
    refine SafeOps.skip (congrArg (fun b => some (!b)) hc459) rfl rfl ?_
    refine SafeOps.skip (congrArg (fun b => some (!b)) hc459) rfl rfl ?_
    refine SafeOps.skip (congrArg (fun b => some (!b)) hc459) rfl rfl ?_
    refine SafeOps.skip (congrArg (fun b => some (!b)) hc459) rfl rfl ?_
    refine SafeOps.quiet0 E_good rfl rfl rfl (v := V.bool true) (.pickK rfl hc459 rfl) ?_
    exact SafeOps.drop' 6 rfl rfl rfl K
  · skip
    refine SafeOps.quiet0 E_good (congrArg (fun b => some (!b)) hc459) rfl rfl (v := V.int .i64 a1_4) (.fn rfl) ?_
    refine SafeOps.quiet0 E_good (congrArg (fun b => some (!b)) hc459) rfl rfl (v := V.sl 1 (rws (fun l => [V.sl 3 (rws api_Instr.cells l)]) a0_3)) (.load rfl rfl (.box rfl rfl) rfl) ?_
    refine SafeOps.quiet0 E_good (congrArg (fun b => some (!b)) hc459) rfl rfl (v := V.int .i64 (a0_3.length : Int)) (.fnE rfl lenE) ?_
    refine SafeOps.quiet0 E_good (congrArg (fun b => some (!b)) hc459) rfl rfl (v := V.bool (go_code_within a1_4 (a0_3.length : Int))) (.callP rfl rfl (go_code_within_sc a1_4 (a0_3.length : Int) _ rfl) rfl) ?_
    refine SafeOps.quiet0 E_good (congrArg (fun b => some (!b)) hc459) rfl rfl (v := V.bool (!(go_code_within a1_4 (a0_3.length : Int)))) (.fn rfl) ?_
    refine SafeOps.quiet0 E_good rfl rfl rfl (v := V.bool (!(go_code_within a1_4 (a0_3.length : Int)))) (.pickK rfl hc459 rfl) ?_
    exact SafeOps.drop' 6 rfl rfl rfl K
  refine SafeOps.nil ?_
  repeat (first | refine Safe.seq ?_ | refine Safe.skip ?_ | with_reducible refine thenQ.n ?_ | with_reducible refine blockQ.n ?_)
  refine ifG h (fun hc460 h => ?_) (fun hc460 h => ?_)
  · skip
    refine Safe.condK rfl hc460 ?_
    repeat (first | refine Safe.seq ?_ | refine Safe.skip ?_ | with_reducible refine thenQ.n ?_ | with_reducible refine blockQ.n ?_)
    refine Safe.region ?_
    refine SafeOps.quiet0 E_good rfl rfl rfl (v := V.int .i64 0) (.fn rfl) ?_
    refine SafeOps.quiet0 E_good rfl rfl rfl (v := V.int .i64 1) (.fn rfl) ?_
    refine SafeOps.nil ?_
    repeat (first | refine Safe.seq ?_ | refine Safe.skip ?_ | with_reducible refine thenQ.n ?_ | with_reducible refine blockQ.n ?_)
    refine Safe.ret ?_
    repeat (first | with_reducible refine thenQ.r ?_ | with_reducible refine blockQ.r ?_)
    obtain rfl := Option.some.inj h
    exact retQ.gen (vs := [V.int .i64 0, V.int .i64 1]) rfl (.tmp (v := V.int .i64 0) rfl (.tmp (v := V.int .i64 1) rfl .nil)) (.free rfl) (by simp) (.inr rfl)
  · skip
    refine Safe.condN rfl hc460 ?_
    repeat (first | refine Safe.seq ?_ | refine Safe.skip ?_ | with_reducible refine thenQ.n ?_ | with_reducible refine blockQ.n ?_)
    refine Safe.region ?_
    refine SafeOps.quiet1 E_good rfl rfl rfl (.mkMapM (fun n : Int => V.int .i64 n) (fun n : Int => V.int .i64 n)) rfl ?_
    refine SafeOps.quiet1 E_good rfl rfl rfl (.mkMapM (fun n : Int => V.int .i64 n) (fun b : Bool => V.bool b)) rfl ?_
    refine SafeOps.quiet1 E_good rfl rfl rfl (.alloc rfl rfl) rfl ?_
    refine SafeOps.quiet1 E_good rfl rfl rfl (.alloc rfl rfl) rfl ?_
    refine SafeOps.store (z := Obj.box [V.mapr [21]]) E_good rfl rfl rfl rfl rfl rfl rfl (.boxM (c := 1) rfl rfl (Nat.le_of_ble_eq_true rfl) rfl) ?_
    refine SafeOps.store (z := Obj.box [V.mapr [22]]) E_good rfl rfl rfl rfl rfl rfl rfl (.boxM (c := 1) rfl rfl (Nat.le_of_ble_eq_true rfl) rfl) ?_
    refine SafeOps.nil ?_
    repeat (first | refine Safe.seq ?_ | refine Safe.skip ?_ | with_reducible refine thenQ.n ?_ | with_reducible refine blockQ.n ?_)
    refine Safe.region ?_
    refine SafeOps.quiet1 E_good rfl rfl rfl (.alloc rfl rfl) rfl ?_
    refine SafeOps.nil ?_
    repeat (first | refine Safe.seq ?_ | refine Safe.skip ?_ | with_reducible refine thenQ.n ?_ | with_reducible refine blockQ.n ?_)
    refine Safe.region ?_
    refine SafeOps.quiet0 E_good rfl rfl rfl (v := V.fn 27 [V.ptr [7] 0 0, V.ptr [6] 0 0, V.ptr [2] 0 0, V.ptr [8] 0 0]) (.fn rfl) ?_
    refine SafeOps.store (z := Obj.box [V.fn 27 [V.ptr [7] 0 0, V.ptr [6] 0 0, V.ptr [2] 0 0, V.ptr [8] 0 0]]) E_good rfl rfl rfl rfl rfl rfl rfl (.boxM (c := 1) rfl rfl (Nat.le_of_ble_eq_true rfl) rfl) ?_
    refine SafeOps.nil ?_
    repeat (first | refine Safe.seq ?_ | refine Safe.skip ?_ | with_reducible refine thenQ.n ?_ | with_reducible refine blockQ.n ?_)
    refine Safe.region ?_
    refine SafeOps.quiet0 E_good rfl rfl rfl (v := V.fn 27 [V.ptr [7] 0 0, V.ptr [6] 0 0, V.ptr [2] 0 0, V.ptr [8] 0 0]) (.load rfl rfl (.box rfl rfl) rfl) ?_
    refine SafeOps.quiet0 E_good rfl rfl rfl (v := V.int .i64 a1_4) (.fn rfl) ?_
    refine bindG h ?_
    rintro ⟨x_461, x_462, m_463, m_464⟩ he465 h
    refine SafeOps.callI (obs := [([2], Obj.box [V.sl 1 (rws (fun l => [V.sl 3 (rws api_Instr.cells l)]) a0_3)]), ([6], Obj.box [V.mapr [21]]), ([7], Obj.box [V.mapr [22]]), ([8], Obj.box [V.fn 27 [V.ptr [7] 0 0, V.ptr [6] 0 0, V.ptr [2] 0 0, V.ptr [8] 0 0]]), ([21], Go.AM.Obj.map (mps (fun n : Int => V.int .i64 n) (fun n : Int => V.int .i64 n) [])), ([22], Go.AM.Obj.map (mps (fun n : Int => V.int .i64 n) (fun b : Bool => V.bool b) []))]) (obs' := [([2], Obj.box [V.sl 1 (rws (fun l => [V.sl 3 (rws api_Instr.cells l)]) a0_3)]), ([6], Obj.box [V.mapr [21]]), ([7], Obj.box [V.mapr [22]]), ([8], Obj.box [V.fn 27 [V.ptr [7] 0 0, V.ptr [6] 0 0, V.ptr [2] 0 0, V.ptr [8] 0 0]]), ([21], Go.AM.Obj.map (mps (fun n : Int => V.int .i64 n) (fun n : Int => V.int .i64 n) m_463)), ([22], Go.AM.Obj.map (mps (fun n : Int => V.int .i64 n) (fun b : Bool => V.bool b) m_464))]) rfl rfl rfl rfl rfl (go_code_Tasks_1_si 1000 a1_4 a0_3 [] [] _ he465) (.box (.box (.box (.box (.map (.map .nil)))))) rfl ⟨rfl, rfl, rfl, rfl, rfl, rfl, trivial⟩ rfl rfl ?_
    refine SafeOps.quiet0 E_good rfl rfl rfl (v := V.tup [V.int .i64 x_461, V.int .i64 x_462]) (.fn rfl) ?_
    refine SafeOps.quiet0 E_good rfl rfl rfl (v := V.int .i64 x_461) (.fn rfl) ?_
    refine SafeOps.quiet0 E_good rfl rfl rfl (v := V.int .i64 x_462) (.fn rfl) ?_
    refine SafeOps.quiet0 E_good rfl rfl rfl (v := V.int .i64 x_461) (.fn rfl) ?_
    refine SafeOps.quiet0 E_good rfl rfl rfl (v := V.int .i64 x_462) (.fn rfl) ?_
    refine SafeOps.nil ?_
    repeat (first | refine Safe.seq ?_ | refine Safe.skip ?_ | with_reducible refine thenQ.n ?_ | with_reducible refine blockQ.n ?_)
    refine Safe.block ?_
    repeat (first | refine Safe.seq ?_ | refine Safe.skip ?_ | with_reducible refine thenQ.n ?_ | with_reducible refine blockQ.n ?_)
    refine Safe.region ?_
    refine SafeOps.quiet0 E_good rfl rfl rfl (v := V.int .i64 x_462) (.fn rfl) ?_
    refine SafeOps.quiet0 E_good rfl rfl rfl (v := V.bool (x_462 != 0)) (.fn rfl) ?_
    refine SafeOps.quiet0 E_good rfl rfl rfl (v := V.bool (x_462 != 0)) (.fn rfl) ?_
    refine SafeOps.nil ?_
    repeat (first | refine Safe.seq ?_ | refine Safe.skip ?_ | with_reducible refine thenQ.n ?_ | with_reducible refine blockQ.n ?_)
    refine ifG h (fun hc466 h => ?_) (fun hc466 h => ?_)
    · skip
      refine Safe.condK rfl hc466 ?_
      repeat (first | refine Safe.seq ?_ | refine Safe.skip ?_ | with_reducible refine thenQ.n ?_ | with_reducible refine blockQ.n ?_)
      refine Safe.region ?_
      refine SafeOps.quiet0 E_good rfl rfl rfl (v := V.int .i64 x_462) (.fn rfl) ?_
      refine SafeOps.quiet0 E_good rfl rfl rfl (v := V.int .i64 0) (.fn rfl) ?_
      refine SafeOps.quiet0 E_good rfl rfl rfl (v := V.int .i64 x_462) (.fn rfl) ?_
      refine SafeOps.nil ?_
      repeat (first | refine Safe.seq ?_ | refine Safe.skip ?_ | with_reducible refine thenQ.n ?_ | with_reducible refine blockQ.n ?_)
      refine Safe.ret ?_
      repeat (first | with_reducible refine thenQ.r ?_ | with_reducible refine blockQ.r ?_)
      obtain rfl := Option.some.inj h
      exact retQ.gen (vs := [V.int .i64 0, V.int .i64 x_462]) rfl (.tmp (v := V.int .i64 0) rfl (.tmp (v := V.int .i64 x_462) rfl .nil)) (.free rfl) (by simp) (.inr rfl)
    · skip
      refine Safe.condN rfl hc466 ?_
      repeat (first | refine Safe.seq ?_ | refine Safe.skip ?_ | with_reducible refine thenQ.n ?_ | with_reducible refine blockQ.n ?_)
      refine Safe.region ?_
      refine SafeOps.quiet0 E_good rfl rfl rfl (v := V.int .i64 x_461) (.fn rfl) ?_
      refine SafeOps.quiet0 E_good rfl rfl rfl (v := V.bool (decide (x_461 > 1099511627776))) (.fn rfl) ?_
      refine SafeOps.quiet0 E_good rfl rfl rfl (v := V.bool (decide (x_461 > 1099511627776))) (.fn rfl) ?_
      refine SafeOps.nil ?_
      repeat (first | refine Safe.seq ?_ | refine Safe.skip ?_ | with_reducible refine thenQ.n ?_ | with_reducible refine blockQ.n ?_)
      refine ifG h (fun hc467 h => ?_) (fun hc467 h => ?_)
      · skip
        refine Safe.condK rfl hc467 ?_
        repeat (first | refine Safe.seq ?_ | refine Safe.skip ?_ | with_reducible refine thenQ.n ?_ | with_reducible refine blockQ.n ?_)
        refine Safe.region ?_
        refine SafeOps.quiet0 E_good rfl rfl rfl (v := V.int .i64 0) (.fn rfl) ?_
        refine SafeOps.quiet0 E_good rfl rfl rfl (v := V.int .i64 4) (.fn rfl) ?_
        refine SafeOps.nil ?_
        repeat (first | refine Safe.seq ?_ | refine Safe.skip ?_ | with_reducible refine thenQ.n ?_ | with_reducible refine blockQ.n ?_)
        refine Safe.ret ?_
        repeat (first | with_reducible refine thenQ.r ?_ | with_reducible refine blockQ.r ?_)
        obtain rfl := Option.some.inj h
        exact retQ.gen (vs := [V.int .i64 0, V.int .i64 4]) rfl (.tmp (v := V.int .i64 0) rfl (.tmp (v := V.int .i64 4) rfl .nil)) (.free rfl) (by simp) (.inr rfl)
      · skip
        refine Safe.condN rfl hc467 ?_
        repeat (first | refine Safe.seq ?_ | refine Safe.skip ?_ | with_reducible refine thenQ.n ?_ | with_reducible refine blockQ.n ?_)
        refine Safe.region ?_
        refine SafeOps.quiet0 E_good rfl rfl rfl (v := V.int .i64 x_461) (.fn rfl) ?_
        refine SafeOps.quiet0 E_good rfl rfl rfl (v := V.int .i64 x_461) (.fn rfl) ?_
        refine SafeOps.quiet0 E_good rfl rfl rfl (v := V.int .i64 0) (.fn rfl) ?_
        refine SafeOps.nil ?_
        repeat (first | refine Safe.seq ?_ | refine Safe.skip ?_ | with_reducible refine thenQ.n ?_ | with_reducible refine blockQ.n ?_)
        refine Safe.ret ?_
        repeat (first | with_reducible refine thenQ.r ?_ | with_reducible refine blockQ.r ?_)
        obtain rfl := Option.some.inj h
        exact retQ.gen (vs := [V.int .i64 x_461, V.int .i64 0]) rfl (.tmp (v := V.int .i64 x_461) rfl (.tmp (v := V.int .i64 0) rfl .nil)) (.free rfl) (by simp) (.inr rfl)

noncomputable def go_ravellaw04_live  : Option Bool :=
  (go_code_Tasks [[(api_Instr.mk 2 1 0), (api_Instr.mk 2 1 1)], [(api_Instr.mk 1 2 0)]] 0).bind fun (x_477, x_478) =>
  if ((x_478 == 0) && (x_477 == 3)) = true then
    (go_code_CheckAll [[(api_Instr.mk 2 1 0), (api_Instr.mk 2 1 1)], [(api_Instr.mk 1 2 0)]]).bind fun x_484 =>
    some (x_484 == 0)
  else
    some false

theorem go_ravellaw04_live_sc  (r : Bool) (h : go_ravellaw04_live  = some r) : SC Try.prog gl 10 [] (V.bool r) := by
  rw [go_ravellaw04_live] at h
  refine SC.of E_good Try.func10 rfl (fun _ _ => Try.call10 _ _) rfl ?_
  repeat (first | refine Safe.seq ?_ | refine Safe.skip ?_ | with_reducible refine thenQ.n ?_ | with_reducible refine blockQ.n ?_)
  refine Safe.region ?_
  refine SafeOps.quiet0 E_good rfl rfl rfl (v := V.bool false) (.fn rfl) ?_
  refine SafeOps.nil ?_
  repeat (first | refine Safe.seq ?_ | refine Safe.skip ?_ | with_reducible refine thenQ.n ?_ | with_reducible refine blockQ.n ?_)
  refine Safe.region ?_
  refine SafeOps.quiet0 E_good rfl rfl rfl (v := V.agg [V.int .i64 2, V.int .i64 1, V.int .i64 0]) (.fn rfl) ?_
  refine SafeOps.quiet0 E_good rfl rfl rfl (v := V.agg [V.int .i64 2, V.int .i64 1, V.int .i64 1]) (.fn rfl) ?_
  refine SafeOps.quiet1 E_good rfl rfl rfl (.litM (f := api_Instr.cells) (xs := [(api_Instr.mk 2 1 0), (api_Instr.mk 2 1 1)]) rfl rfl (by decide) rfl rfl rfl rfl rfl) rfl ?_
  refine SafeOps.quiet0 E_good rfl rfl rfl (v := V.agg [V.int .i64 1, V.int .i64 2, V.int .i64 0]) (.fn rfl) ?_
  refine SafeOps.quiet1 E_good rfl rfl rfl (.litM (f := api_Instr.cells) (xs := [(api_Instr.mk 1 2 0)]) rfl rfl (by decide) rfl rfl rfl rfl rfl) rfl ?_
  refine SafeOps.freeze [6] rfl ?_
  refine SafeOps.see 6 (u := V.sl 3 (rws api_Instr.cells [(api_Instr.mk 2 1 0), (api_Instr.mk 2 1 1)])) rfl (.full rfl rfl) ?_
  refine SafeOps.freeze [8] rfl ?_
  refine SafeOps.see 8 (u := V.sl 3 (rws api_Instr.cells [(api_Instr.mk 1 2 0)])) rfl (.full rfl rfl) ?_
  refine SafeOps.quiet1 E_good rfl rfl rfl (.litM (f := (fun l => [V.sl 3 (rws api_Instr.cells l)])) (xs := [[(api_Instr.mk 2 1 0), (api_Instr.mk 2 1 1)], [(api_Instr.mk 1 2 0)]]) rfl rfl (by decide) rfl rfl rfl rfl rfl) rfl ?_
  refine SafeOps.quiet0 E_good rfl rfl rfl (v := V.ref [9] 0 (rws (fun l => [V.sl 3 (rws api_Instr.cells l)]) [[(api_Instr.mk 2 1 0), (api_Instr.mk 2 1 1)], [(api_Instr.mk 1 2 0)]]).length) (.fn rfl) ?_
  refine SafeOps.nil ?_
  repeat (first | refine Safe.seq ?_ | refine Safe.skip ?_ | with_reducible refine thenQ.n ?_ | with_reducible refine blockQ.n ?_)
  refine Safe.region ?_
  refine SafeOps.quiet0 E_good rfl rfl rfl (v := V.ref [9] 0 (rws (fun l => [V.sl 3 (rws api_Instr.cells l)]) [[(api_Instr.mk 2 1 0), (api_Instr.mk 2 1 1)], [(api_Instr.mk 1 2 0)]]).length) (.fn rfl) ?_
  refine bindG h ?_
  rintro ⟨x_477, x_478⟩ he479 h
  refine SafeOps.quiet0 E_good rfl rfl rfl (v := V.tup [V.int .i64 x_477, V.int .i64 x_478]) (.callS rfl (.cons (.full rfl rfl) (.cons (.free rfl) .nil)) (go_code_Tasks_sc [[(api_Instr.mk 2 1 0), (api_Instr.mk 2 1 1)], [(api_Instr.mk 1 2 0)]] 0 _ he479) (.tupL (.cons (.plain rfl) (.cons (.plain rfl) .nil))) rfl) ?_
  refine SafeOps.quiet0 E_good rfl rfl rfl (v := V.tup [V.int .i64 x_477, V.int .i64 x_478]) (.fn rfl) ?_
  refine SafeOps.quiet0 E_good rfl rfl rfl (v := V.int .i64 x_477) (.fn rfl) ?_
  refine SafeOps.quiet0 E_good rfl rfl rfl (v := V.int .i64 x_478) (.fn rfl) ?_
  refine SafeOps.quiet0 E_good rfl rfl rfl (v := V.int .i64 x_477) (.fn rfl) ?_
  refine SafeOps.quiet0 E_good rfl rfl rfl (v := V.int .i64 x_478) (.fn rfl) ?_
  refine SafeOps.nil ?_
  repeat (first | refine Safe.seq ?_ | refine Safe.skip ?_ | with_reducible refine thenQ.n ?_ | with_reducible refine blockQ.n ?_)
  refine Safe.region ?_
  refine SafeOps.quiet0 E_good rfl rfl rfl (v := V.int .i64 x_478) (.fn rfl) ?_
  refine SafeOps.quiet0 E_good rfl rfl rfl (v := V.bool (x_478 == 0)) (.fn rfl) ?_
  refine SafeOps.quiet0 E_good rfl rfl rfl (v := V.bool (x_478 == 0)) (.fn rfl) ?_
  refine SafeOps.bjoin 3 20 (b := ((x_478 == 0) && (x_477 == 3))) (b1 := (x_477 == 3)) (b0 := false) (fun hc480 K => ?_) (fun hc480 K => ?_) bj_and ?_
  · skip
    refine SafeOps.quiet0 E_good (congrArg some hc480) rfl rfl (v := V.int .i64 x_477) (.fn rfl) ?_
    refine SafeOps.quiet0 E_good (congrArg some hc480) rfl rfl (v := V.bool (x_477 == 3)) (.fn rfl) ?_
    refine SafeOps.quiet0 E_good rfl rfl rfl (v := V.bool (x_477 == 3)) (.pickK rfl hc480 rfl) ?_
    exact SafeOps.drop' 3 rfl rfl rfl K
  · skip
    refine SafeOps.skip (congrArg some hc480) rfl rfl ?_
    refine SafeOps.skip (congrArg some hc480) rfl rfl ?_
    refine SafeOps.quiet0 E_good rfl rfl rfl (v := V.bool false) (.pickK rfl hc480 rfl) ?_
    exact SafeOps.drop' 3 rfl rfl rfl K
  refine SafeOps.quiet0 E_good rfl rfl rfl (v := V.bool ((x_478 == 0) && (x_477 == 3))) (.fn rfl) ?_
  refine ifG h (fun hc481 h => ?_) (fun hc481 h => ?_)
  · skip
    refine SafeOps.quiet0 E_good (congrArg some hc481) rfl rfl (v := V.ref [9] 0 (rws (fun l => [V.sl 3 (rws api_Instr.cells l)]) [[(api_Instr.mk 2 1 0), (api_Instr.mk 2 1 1)], [(api_Instr.mk 1 2 0)]]).length) (.fn rfl) ?_
    refine bindG h ?_
    intro x_484 he485 h
    refine SafeOps.quiet0 E_good (congrArg some hc481) rfl rfl (v := V.int .i64 x_484) (.callS rfl (.cons (.full rfl rfl) .nil) (go_code_CheckAll_sc [[(api_Instr.mk 2 1 0), (api_Instr.mk 2 1 1)], [(api_Instr.mk 1 2 0)]] _ he485) (.plain rfl) rfl) ?_
    refine SafeOps.quiet0 E_good (congrArg some hc481) rfl rfl (v := V.bool (x_484 == 0)) (.fn rfl) ?_
    refine SafeOps.quiet0 E_good rfl rfl rfl (v := V.bool (x_484 == 0)) (.pickK rfl hc481 rfl) ?_
    refine SafeOps.quiet0 E_good rfl rfl rfl (v := V.bool (x_484 == 0)) (.fn rfl) ?_
    refine SafeOps.nil ?_
    repeat (first | refine Safe.seq ?_ | refine Safe.skip ?_ | with_reducible refine thenQ.n ?_ | with_reducible refine blockQ.n ?_)
    refine Safe.ret ?_
    repeat (first | with_reducible refine thenQ.r ?_ | with_reducible refine blockQ.r ?_)
    obtain rfl := Option.some.inj h
    exact retQ.gen (vs := [V.bool (x_484 == 0)]) rfl (.tmp (v := V.bool (x_484 == 0)) rfl .nil) (.free rfl) (by simp) (.inr rfl)
  · skip
    refine SafeOps.skip (congrArg some hc481) rfl rfl ?_
    refine SafeOps.skip (congrArg some hc481) rfl rfl ?_
    refine SafeOps.skip (congrArg some hc481) rfl rfl ?_
    refine SafeOps.quiet0 E_good rfl rfl rfl (v := V.bool false) (.pickK rfl hc481 rfl) ?_
    refine SafeOps.quiet0 E_good rfl rfl rfl (v := V.bool false) (.fn rfl) ?_
    refine SafeOps.nil ?_
    repeat (first | refine Safe.seq ?_ | refine Safe.skip ?_ | with_reducible refine thenQ.n ?_ | with_reducible refine blockQ.n ?_)
    refine Safe.ret ?_
    repeat (first | with_reducible refine thenQ.r ?_ | with_reducible refine blockQ.r ?_)
    obtain rfl := Option.some.inj h
    exact retQ.gen (vs := [V.bool false]) rfl (.tmp (v := V.bool false) rfl .nil) (.free rfl) (by simp) (.inr rfl)

noncomputable def go_code_Units_s1 (x_580 : List api_Instr) : (Int × Int) → Option ((Int × Int) ⊕ (Int × Int))
  | (v2_590, v14_591) =>
    if (decide (v14_591 < (x_580.length : Int))) = true then
      if 0 ≤ v14_591 ∧ v14_591 < (x_580.length : Int) then
        if (((gt x_580 v14_591).Op) == 1) = true then
          nextO (IntKind.i64.wrap ((IntKind.i64.wrap (v2_590 + (IntKind.i64.wrap (((gt x_580 v14_591).A) - 1)))) + 1), IntKind.i64.wrap (v14_591 + 1))
        else
          nextO (IntKind.i64.wrap (v2_590 + 1), IntKind.i64.wrap (v14_591 + 1))
      else none
    else
      inrO (
        some (v2_590, 0))

noncomputable def go_code_Units (a0_557 : List api_Instr) : Option (Int × Int) :=
  (go_code_Check a0_557).bind fun x_577 =>
  if (x_577 != 0) = true then
    some (0, x_577)
  else
    (go_code_reached a0_557).bind fun x_580 =>
    whileO (go_code_Units_s1 x_580) (0, 0)

theorem go_code_Units_sc (a0_557 : List api_Instr) (r : Int × Int) (h : go_code_Units a0_557 = some r) : SC Try.prog gl 14 [V.sl 3 (rws api_Instr.cells a0_557)] (V.tup [V.int .i64 r.1, V.int .i64 r.2]) := by
  rw [go_code_Units] at h
  refine SC.of E_good Try.func14 rfl (fun _ _ => Try.call14 _ _) rfl ?_
  repeat (first | refine Safe.seq ?_ | refine Safe.skip ?_ | with_reducible refine thenQ.n ?_ | with_reducible refine blockQ.n ?_)
  refine Safe.region ?_
  refine SafeOps.quiet0 E_good rfl rfl rfl (v := V.int .i64 0) (.fn rfl) ?_
  refine SafeOps.quiet0 E_good rfl rfl rfl (v := V.int .i64 0) (.fn rfl) ?_
  refine SafeOps.nil ?_
  repeat (first | refine Safe.seq ?_ | refine Safe.skip ?_ | with_reducible refine thenQ.n ?_ | with_reducible refine blockQ.n ?_)
  refine Safe.region ?_
  refine SafeOps.quiet0 E_good rfl rfl rfl (v := V.sl 3 (rws api_Instr.cells a0_557)) (.fn rfl) ?_
  refine bindG h ?_
  intro x_577 he578 h
  refine SafeOps.quiet0 E_good rfl rfl rfl (v := V.int .i64 x_577) (.callP rfl rfl (go_code_Check_sc a0_557 _ he578) rfl) ?_
  refine SafeOps.quiet0 E_good rfl rfl rfl (v := V.int .i64 x_577) (.fn rfl) ?_
  refine SafeOps.nil ?_
  repeat (first | refine Safe.seq ?_ | refine Safe.skip ?_ | with_reducible refine thenQ.n ?_ | with_reducible refine blockQ.n ?_)
  refine Safe.region ?_
  refine SafeOps.quiet0 E_good rfl rfl rfl (v := V.int .i64 x_577) (.fn rfl) ?_
  refine SafeOps.quiet0 E_good rfl rfl rfl (v := V.bool (x_577 != 0)) (.fn rfl) ?_
  refine SafeOps.nil ?_
  repeat (first | refine Safe.seq ?_ | refine Safe.skip ?_ | with_reducible refine thenQ.n ?_ | with_reducible refine blockQ.n ?_)
  refine ifG h (fun hc579 h => ?_) (fun hc579 h => ?_)
  · skip
    refine Safe.condK rfl hc579 ?_
    repeat (first | refine Safe.seq ?_ | refine Safe.skip ?_ | with_reducible refine thenQ.n ?_ | with_reducible refine blockQ.n ?_)
    refine Safe.region ?_
    refine SafeOps.quiet0 E_good rfl rfl rfl (v := V.int .i64 x_577) (.fn rfl) ?_
    refine SafeOps.quiet0 E_good rfl rfl rfl (v := V.int .i64 0) (.fn rfl) ?_
    refine SafeOps.quiet0 E_good rfl rfl rfl (v := V.int .i64 x_577) (.fn rfl) ?_
    refine SafeOps.nil ?_
    repeat (first | refine Safe.seq ?_ | refine Safe.skip ?_ | with_reducible refine thenQ.n ?_ | with_reducible refine blockQ.n ?_)
    refine Safe.ret ?_
    repeat (first | with_reducible refine thenQ.r ?_ | with_reducible refine blockQ.r ?_)
    obtain rfl := Option.some.inj h
    exact retQ.gen (vs := [V.int .i64 0, V.int .i64 x_577]) rfl (.tmp (v := V.int .i64 0) rfl (.tmp (v := V.int .i64 x_577) rfl .nil)) (.free rfl) (by simp) (.inr rfl)
  · skip
    refine Safe.condN rfl hc579 ?_
    repeat (first | refine Safe.seq ?_ | refine Safe.skip ?_ | with_reducible refine thenQ.n ?_ | with_reducible refine blockQ.n ?_)
    refine Safe.region ?_
    refine SafeOps.quiet0 E_good rfl rfl rfl (v := V.sl 3 (rws api_Instr.cells a0_557)) (.fn rfl) ?_
    refine bindG h ?_
    intro x_580 he581 h
    refine SafeOps.quiet0 E_good rfl rfl rfl (v := V.sl 3 (rws api_Instr.cells x_580)) (.callP rfl rfl (go_code_reached_sc a0_557 _ he581) rfl) ?_
    refine SafeOps.quiet0 E_good rfl rfl rfl (v := V.int .i64 (x_580.length : Int)) (.fnE rfl lenE) ?_
    refine SafeOps.quiet0 E_good rfl rfl rfl (v := V.int .i64 0) (.fn rfl) ?_
    refine SafeOps.nil ?_
    repeat (first | refine Safe.seq ?_ | refine Safe.skip ?_ | with_reducible refine thenQ.n ?_ | with_reducible refine blockQ.n ?_)
    refine Safe.block ?_
    repeat (first | refine Safe.seq ?_ | refine Safe.skip ?_ | with_reducible refine thenQ.n ?_ | with_reducible refine blockQ.n ?_)
    refine Safe.loopW (fun ((v2_590, v14_591) : Int × Int) => ⟨Try.f14.ntmps, [(2, V.int .i64 v2_590), (12, V.sl 3 (rws api_Instr.cells x_580)), (13, V.int .i64 (x_580.length : Int)), (14, V.int .i64 v14_591)], [], [], []⟩) h (.cov ⟨rfl, rfl, (upT_cons (.refl _) (upT_cons (.refl _) (upT_cons (.refl _) (upT_cons (.refl _) upT_nil)))), upOb_nil, upOut_nil, rfl⟩) ?_
    rintro ⟨v2_590, v14_591⟩ ohr592 h hr592
    replace h : go_code_Units_s1 x_580 (v2_590, v14_591) = some ohr592 := h
    rw [go_code_Units_s1] at h
    repeat (first | refine Safe.seq ?_ | refine Safe.skip ?_ | with_reducible refine thenQ.n ?_ | with_reducible refine blockQ.n ?_)
    refine Safe.region ?_
    refine SafeOps.quiet0 E_good rfl rfl rfl (v := V.bool (decide (v14_591 < (x_580.length : Int)))) (.fn rfl) ?_
    refine SafeOps.nil ?_
    repeat (first | refine Safe.seq ?_ | refine Safe.skip ?_ | with_reducible refine thenQ.n ?_ | with_reducible refine blockQ.n ?_)
    refine ifG h (fun hc593 h => ?_) (fun hc593 h => ?_)
    · skip
      refine Safe.condK rfl hc593 ?_
      repeat (first | refine Safe.seq ?_ | refine Safe.skip ?_ | with_reducible refine thenQ.n ?_ | with_reducible refine blockQ.n ?_)
      refine Safe.block ?_
      repeat (first | refine Safe.seq ?_ | refine Safe.skip ?_ | with_reducible refine thenQ.n ?_ | with_reducible refine blockQ.n ?_)
      refine Safe.region ?_
      refine okG h (fun hb594 h => ?_)
      refine SafeOps.quiet0 E_good rfl rfl rfl (v := V.spt 3 (rws api_Instr.cells x_580) (Int.toNat v14_591) 0) (.idxSlM (f := api_Instr.cells) rfl rfl rfl rfl rfl hb594) ?_
      refine SafeOps.quiet0 E_good rfl rfl rfl (v := V.agg [V.int .i64 ((gt x_580 v14_591).Op), V.int .i64 ((gt x_580 v14_591).A), V.int .i64 ((gt x_580 v14_591).B)]) (.load rfl rfl (.sptM (f := api_Instr.cells) hb594 rfl) rfl) ?_
      refine SafeOps.quiet1 E_good rfl rfl rfl (.alloc rfl rfl) rfl ?_
      refine SafeOps.store (z := Obj.box [V.int .i64 ((gt x_580 v14_591).Op), V.int .i64 ((gt x_580 v14_591).A), V.int .i64 ((gt x_580 v14_591).B)]) E_good rfl rfl rfl rfl rfl rfl rfl (.boxM (c := 3) rfl rfl (Nat.le_of_ble_eq_true rfl) rfl) ?_
      refine SafeOps.nil ?_
      repeat (first | refine Safe.seq ?_ | refine Safe.skip ?_ | with_reducible refine thenQ.n ?_ | with_reducible refine blockQ.n ?_)
      refine Safe.region ?_
      refine SafeOps.quiet0 E_good rfl rfl rfl (v := V.ptr [5] 0 0) (.fn rfl) ?_
      refine SafeOps.quiet0 E_good rfl rfl rfl (v := V.int .i64 ((gt x_580 v14_591).Op)) (.load rfl rfl (.box rfl rfl) rfl) ?_
      refine SafeOps.quiet0 E_good rfl rfl rfl (v := V.bool (((gt x_580 v14_591).Op) == 1)) (.fn rfl) ?_
      refine SafeOps.nil ?_
      repeat (first | refine Safe.seq ?_ | refine Safe.skip ?_ | with_reducible refine thenQ.n ?_ | with_reducible refine blockQ.n ?_)
      refine ifG h (fun hc595 h => ?_) (fun hc595 h => ?_)
      · skip
        refine Safe.condK rfl hc595 ?_
        repeat (first | refine Safe.seq ?_ | refine Safe.skip ?_ | with_reducible refine thenQ.n ?_ | with_reducible refine blockQ.n ?_)
        refine Safe.region ?_
        refine SafeOps.quiet0 E_good rfl rfl rfl (v := V.int .i64 v2_590) (.fn rfl) ?_
        refine SafeOps.quiet0 E_good rfl rfl rfl (v := V.ptr [5] 0 1) (.fn rfl) ?_
        refine SafeOps.quiet0 E_good rfl rfl rfl (v := V.int .i64 ((gt x_580 v14_591).A)) (.load rfl rfl (.box rfl rfl) rfl) ?_
        refine SafeOps.quiet0 E_good rfl rfl rfl (v := V.int .i64 (IntKind.i64.wrap (((gt x_580 v14_591).A) - 1))) (.fn rfl) ?_
        refine SafeOps.quiet0 E_good rfl rfl rfl (v := V.int .i64 (IntKind.i64.wrap (v2_590 + (IntKind.i64.wrap (((gt x_580 v14_591).A) - 1))))) (.fn rfl) ?_
        refine SafeOps.quiet0 E_good rfl rfl rfl (v := V.int .i64 (IntKind.i64.wrap (v2_590 + (IntKind.i64.wrap (((gt x_580 v14_591).A) - 1))))) (.fn rfl) ?_
        refine SafeOps.nil ?_
        repeat (first | refine Safe.seq ?_ | refine Safe.skip ?_ | with_reducible refine thenQ.n ?_ | with_reducible refine blockQ.n ?_)
        refine Safe.region ?_
        refine SafeOps.quiet0 E_good rfl rfl rfl (v := V.int .i64 (IntKind.i64.wrap (v2_590 + (IntKind.i64.wrap (((gt x_580 v14_591).A) - 1))))) (.fn rfl) ?_
        refine SafeOps.quiet0 E_good rfl rfl rfl (v := V.int .i64 (IntKind.i64.wrap ((IntKind.i64.wrap (v2_590 + (IntKind.i64.wrap (((gt x_580 v14_591).A) - 1)))) + 1))) (.fn rfl) ?_
        refine SafeOps.quiet0 E_good rfl rfl rfl (v := V.int .i64 (IntKind.i64.wrap ((IntKind.i64.wrap (v2_590 + (IntKind.i64.wrap (((gt x_580 v14_591).A) - 1)))) + 1))) (.fn rfl) ?_
        refine SafeOps.nil ?_
        repeat (first | refine Safe.seq ?_ | refine Safe.skip ?_ | with_reducible refine thenQ.n ?_ | with_reducible refine blockQ.n ?_)
        refine Safe.region ?_
        refine SafeOps.quiet0 E_good rfl rfl rfl (v := V.int .i64 (IntKind.i64.wrap (v14_591 + 1))) (.fn rfl) ?_
        refine SafeOps.quiet0 E_good rfl rfl rfl (v := V.int .i64 (IntKind.i64.wrap (v14_591 + 1))) (.fn rfl) ?_
        refine SafeOps.nil ?_
        repeat (first | refine Safe.seq ?_ | refine Safe.skip ?_ | with_reducible refine thenQ.n ?_ | with_reducible refine blockQ.n ?_)
        exact ⟨_, next_out h, (.cov ⟨rfl, rfl, (upT_cons (.refl _) (upT_cons (.refl _) (upT_cons (.refl _) (upT_cons (.refl _) upT_nil)))), upOb_nil, upOut_nil, rfl⟩)⟩
      · skip
        refine Safe.condN rfl hc595 ?_
        repeat (first | refine Safe.seq ?_ | refine Safe.skip ?_ | with_reducible refine thenQ.n ?_ | with_reducible refine blockQ.n ?_)
        refine Safe.region ?_
        refine SafeOps.quiet0 E_good rfl rfl rfl (v := V.int .i64 v2_590) (.fn rfl) ?_
        refine SafeOps.quiet0 E_good rfl rfl rfl (v := V.int .i64 (IntKind.i64.wrap (v2_590 + 1))) (.fn rfl) ?_
        refine SafeOps.quiet0 E_good rfl rfl rfl (v := V.int .i64 (IntKind.i64.wrap (v2_590 + 1))) (.fn rfl) ?_
        refine SafeOps.nil ?_
        repeat (first | refine Safe.seq ?_ | refine Safe.skip ?_ | with_reducible refine thenQ.n ?_ | with_reducible refine blockQ.n ?_)
        refine Safe.region ?_
        refine SafeOps.quiet0 E_good rfl rfl rfl (v := V.int .i64 (IntKind.i64.wrap (v14_591 + 1))) (.fn rfl) ?_
        refine SafeOps.quiet0 E_good rfl rfl rfl (v := V.int .i64 (IntKind.i64.wrap (v14_591 + 1))) (.fn rfl) ?_
        refine SafeOps.nil ?_
        repeat (first | refine Safe.seq ?_ | refine Safe.skip ?_ | with_reducible refine thenQ.n ?_ | with_reducible refine blockQ.n ?_)
        exact ⟨_, next_out h, (.cov ⟨rfl, rfl, (upT_cons (.refl _) (upT_cons (.refl _) (upT_cons (.refl _) (upT_cons (.refl _) upT_nil)))), upOb_nil, upOut_nil, rfl⟩)⟩
    · skip
      refine Safe.condN rfl hc593 ?_
      repeat (first | refine Safe.seq ?_ | refine Safe.skip ?_ | with_reducible refine thenQ.n ?_ | with_reducible refine blockQ.n ?_)
      refine Safe.exit ?_
      repeat (first | with_reducible refine thenQ.e ?_ | with_reducible refine blockQ.x rfl ?_ | with_reducible refine blockQ.y rfl ?_)
      replace h := inr_out h hr592
      repeat (first | refine Safe.seq ?_ | refine Safe.skip ?_ | with_reducible refine thenQ.n ?_ | with_reducible refine blockQ.n ?_)
      refine Safe.region ?_
      refine SafeOps.quiet0 E_good rfl rfl rfl (v := V.int .i64 v2_590) (.fn rfl) ?_
      refine SafeOps.quiet0 E_good rfl rfl rfl (v := V.int .i64 v2_590) (.fn rfl) ?_
      refine SafeOps.quiet0 E_good rfl rfl rfl (v := V.int .i64 0) (.fn rfl) ?_
      refine SafeOps.nil ?_
      repeat (first | refine Safe.seq ?_ | refine Safe.skip ?_ | with_reducible refine thenQ.n ?_ | with_reducible refine blockQ.n ?_)
      refine Safe.ret ?_
      repeat (first | with_reducible refine thenQ.r ?_ | with_reducible refine blockQ.r ?_)
      obtain rfl := Option.some.inj h
      exact retQ.gen (vs := [V.int .i64 v2_590, V.int .i64 0]) rfl (.tmp (v := V.int .i64 v2_590) rfl (.tmp (v := V.int .i64 0) rfl .nil)) (.free rfl) (by simp) (.inr rfl)

noncomputable def go_ravellaw04_CodeParts_s4 (a0_1 : List api_Instr) (a1_2 : List api_Instr) (x_643 : Bool) (x_714 : Int) (x_717 : Int) (x_722 : Int) (x_723 : Int) : (Bool × Int) → Option ((Bool × Int) ⊕ (Bool))
  | (v15_747, v74_748) =>
    if (decide (v74_748 < (a0_1.length : Int))) = true then
      if 0 ≤ v74_748 ∧ v74_748 < (a0_1.length : Int) then
        nextO ((v15_747 || (((gt a0_1 v74_748).Op) == 9)), IntKind.i64.wrap (v74_748 + 1))
      else none
    else
      inrO (
        if (decide (((([] ++ a0_1) ++ a1_2).length : Int) > 32)) = true then
          some (x_643 && (x_723 == 1))
        else
          some ((x_643 && (x_723 == 0)) && ((v15_747 && (x_722 == x_714)) || ((!v15_747) && (x_722 == (IntKind.i64.wrap (x_714 + x_717)))))))

noncomputable def go_ravellaw04_CodeParts_s2 (a0_1 : List api_Instr) (a1_2 : List api_Instr) (x_643 : Bool) : (Int) → Option ((Int) ⊕ (Bool))
  | v32_702 =>
    if (decide (v32_702 < (a0_1.length : Int))) = true then
      if 0 ≤ v32_702 ∧ v32_702 < (a0_1.length : Int) then
        (go_code_Check [(gt a0_1 v32_702)]).bind fun x_706 =>
        if (x_706 != 0) = true then
          (go_code_Check a0_1).bind fun x_711 =>
          if (x_711 == 0) = true then
            inrO (
              some false)
          else
            nextO (IntKind.i64.wrap (v32_702 + 1))
        else
          nextO (IntKind.i64.wrap (v32_702 + 1))
      else none
    else
      inrO (
        (go_code_Units a0_1).bind fun (x_714, x_715) =>
        (go_code_Units a1_2).bind fun (x_717, x_718) =>
        if few ([] ++ a0_1).length then
          if few (([] ++ a0_1) ++ a1_2).length then
            (go_code_Units (([] ++ a0_1) ++ a1_2)).bind fun (x_722, x_723) =>
            if ((x_715 != 0) || (x_718 != 0)) = true then
              some x_643
            else
              whileO (go_ravellaw04_CodeParts_s4 a0_1 a1_2 x_643 x_714 x_717 x_722 x_723) (false, 0)
          else none
        else none)

noncomputable def go_ravellaw04_CodeParts (a0_1 : List api_Instr) (a1_2 : List api_Instr) : Option Bool :=
  (go_ravellaw04_live).bind fun x_643 =>
  if (!x_643) = true then
    some false
  else
    if ((decide ((a0_1.length : Int) > 60)) || (decide ((a1_2.length : Int) > 60))) = true then
      some x_643
    else
      whileO (go_ravellaw04_CodeParts_s2 a0_1 a1_2 x_643) 0

theorem go_ravellaw04_CodeParts_sc (a0_1 : List api_Instr) (a1_2 : List api_Instr) (r : Bool) (h : go_ravellaw04_CodeParts a0_1 a1_2 = some r) : SC Try.prog gl 5 [V.sl 3 (rws api_Instr.cells a0_1), V.sl 3 (rws api_Instr.cells a1_2)] (V.bool r) := by
  rw [go_ravellaw04_CodeParts] at h
  refine SC.of E_good Try.func5 rfl (fun _ _ => Try.call5 _ _) rfl ?_
  repeat (first | refine Safe.seq ?_ | refine Safe.skip ?_ | with_reducible refine thenQ.n ?_ | with_reducible refine blockQ.n ?_)
  refine Safe.region ?_
  refine SafeOps.quiet0 E_good rfl rfl rfl (v := V.bool false) (.fn rfl) ?_
  refine SafeOps.nil ?_
  repeat (first | refine Safe.seq ?_ | refine Safe.skip ?_ | with_reducible refine thenQ.n ?_ | with_reducible refine blockQ.n ?_)
  refine Safe.region ?_
  refine bindG h ?_
  intro x_643 he644 h
  refine SafeOps.quiet0 E_good rfl rfl rfl (v := V.bool x_643) (.callP rfl rfl (go_ravellaw04_live_sc  _ he644) rfl) ?_
  refine SafeOps.quiet0 E_good rfl rfl rfl (v := V.bool x_643) (.fn rfl) ?_
  refine SafeOps.nil ?_
  repeat (first | refine Safe.seq ?_ | refine Safe.skip ?_ | with_reducible refine thenQ.n ?_ | with_reducible refine blockQ.n ?_)
  refine Safe.region ?_
  refine SafeOps.quiet0 E_good rfl rfl rfl (v := V.bool x_643) (.fn rfl) ?_
  refine SafeOps.quiet0 E_good rfl rfl rfl (v := V.bool (!x_643)) (.fn rfl) ?_
  refine SafeOps.nil ?_
  repeat (first | refine Safe.seq ?_ | refine Safe.skip ?_ | with_reducible refine thenQ.n ?_ | with_reducible refine blockQ.n ?_)
  refine ifG h (fun hc645 h => ?_) (fun hc645 h => ?_)
  · skip
    refine Safe.condK rfl hc645 ?_
    repeat (first | refine Safe.seq ?_ | refine Safe.skip ?_ | with_reducible refine thenQ.n ?_ | with_reducible refine blockQ.n ?_)
    refine Safe.region ?_
    refine SafeOps.quiet0 E_good rfl rfl rfl (v := V.bool false) (.fn rfl) ?_
    refine SafeOps.nil ?_
    repeat (first | refine Safe.seq ?_ | refine Safe.skip ?_ | with_reducible refine thenQ.n ?_ | with_reducible refine blockQ.n ?_)
    refine Safe.ret ?_
    repeat (first | with_reducible refine thenQ.r ?_ | with_reducible refine blockQ.r ?_)
    obtain rfl := Option.some.inj h
    exact retQ.gen (vs := [V.bool false]) rfl (.tmp (v := V.bool false) rfl .nil) (.free rfl) (by simp) (.inr rfl)
  · skip
    refine Safe.condN rfl hc645 ?_
    repeat (first | refine Safe.seq ?_ | refine Safe.skip ?_ | with_reducible refine thenQ.n ?_ | with_reducible refine blockQ.n ?_)
    refine Safe.region ?_
    refine SafeOps.quiet0 E_good rfl rfl rfl (v := V.sl 3 (rws api_Instr.cells a0_1)) (.fn rfl) ?_
    refine SafeOps.quiet0 E_good rfl rfl rfl (v := V.int .i64 (a0_1.length : Int)) (.fnE rfl lenE) ?_
    refine SafeOps.quiet0 E_good rfl rfl rfl (v := V.bool (decide ((a0_1.length : Int) > 60))) (.fn rfl) ?_
    refine SafeOps.quiet0 E_good rfl rfl rfl (v := V.bool (decide ((a0_1.length : Int) > 60))) (.fn rfl) ?_
    refine SafeOps.bjoin 4 28 (b := ((decide ((a0_1.length : Int) > 60)) || (decide ((a1_2.length : Int) > 60)))) (b1 := true) (b0 := decide ((a1_2.length : Int) > 60)) (fun hc646 K => ?_) (fun hc646 K => ?_) bj_or ?_
    · skip
      refine SafeOps.skip (congrArg (fun b => some (!b)) hc646) rfl rfl ?_
      refine SafeOps.skip (congrArg (fun b => some (!b)) hc646) rfl rfl ?_
      refine SafeOps.skip (congrArg (fun b => some (!b)) hc646) rfl rfl ?_
      refine SafeOps.quiet0 E_good rfl rfl rfl (v := V.bool true) (.pickK rfl hc646 rfl) ?_
      exact SafeOps.drop' 4 rfl rfl rfl K
    · skip
      refine SafeOps.quiet0 E_good (congrArg (fun b => some (!b)) hc646) rfl rfl (v := V.sl 3 (rws api_Instr.cells a1_2)) (.fn rfl) ?_
      refine SafeOps.quiet0 E_good (congrArg (fun b => some (!b)) hc646) rfl rfl (v := V.int .i64 (a1_2.length : Int)) (.fnE rfl lenE) ?_
      refine SafeOps.quiet0 E_good (congrArg (fun b => some (!b)) hc646) rfl rfl (v := V.bool (decide ((a1_2.length : Int) > 60))) (.fn rfl) ?_
      refine SafeOps.quiet0 E_good rfl rfl rfl (v := V.bool (decide ((a1_2.length : Int) > 60))) (.pickK rfl hc646 rfl) ?_
      exact SafeOps.drop' 4 rfl rfl rfl K
    refine SafeOps.nil ?_
    repeat (first | refine Safe.seq ?_ | refine Safe.skip ?_ | with_reducible refine thenQ.n ?_ | with_reducible refine blockQ.n ?_)
    refine ifG h (fun hc647 h => ?_) (fun hc647 h => ?_)
    · skip
      refine Safe.condK rfl hc647 ?_
      repeat (first | refine Safe.seq ?_ | refine Safe.skip ?_ | with_reducible refine thenQ.n ?_ | with_reducible refine blockQ.n ?_)
      refine Safe.region ?_
      refine SafeOps.quiet0 E_good rfl rfl rfl (v := V.bool x_643) (.fn rfl) ?_
      refine SafeOps.quiet0 E_good rfl rfl rfl (v := V.bool x_643) (.fn rfl) ?_
      refine SafeOps.nil ?_
      repeat (first | refine Safe.seq ?_ | refine Safe.skip ?_ | with_reducible refine thenQ.n ?_ | with_reducible refine blockQ.n ?_)
      refine Safe.ret ?_
      repeat (first | with_reducible refine thenQ.r ?_ | with_reducible refine blockQ.r ?_)
      obtain rfl := Option.some.inj h
      exact retQ.gen (vs := [V.bool x_643]) rfl (.tmp (v := V.bool x_643) rfl .nil) (.free rfl) (by simp) (.inr rfl)
    · skip
      refine Safe.condN rfl hc647 ?_
      repeat (first | refine Safe.seq ?_ | refine Safe.skip ?_ | with_reducible refine thenQ.n ?_ | with_reducible refine blockQ.n ?_)
      refine Safe.region ?_
      refine SafeOps.quiet0 E_good rfl rfl rfl (v := V.sl 3 (rws api_Instr.cells a0_1)) (.fn rfl) ?_
      refine SafeOps.quiet0 E_good rfl rfl rfl (v := V.int .i64 (a0_1.length : Int)) (.fnE rfl lenE) ?_
      refine SafeOps.quiet0 E_good rfl rfl rfl (v := V.int .i64 0) (.fn rfl) ?_
      refine SafeOps.nil ?_
      repeat (first | refine Safe.seq ?_ | refine Safe.skip ?_ | with_reducible refine thenQ.n ?_ | with_reducible refine blockQ.n ?_)
      refine Safe.block ?_
      repeat (first | refine Safe.seq ?_ | refine Safe.skip ?_ | with_reducible refine thenQ.n ?_ | with_reducible refine blockQ.n ?_)
      refine Safe.loopW (fun (v32_702 : Int) => ⟨Try.f5.ntmps, [(0, V.sl 3 (rws api_Instr.cells a0_1)), (1, V.sl 3 (rws api_Instr.cells a1_2)), (5, V.bool x_643), (30, V.sl 3 (rws api_Instr.cells a0_1)), (31, V.int .i64 (a0_1.length : Int)), (32, V.int .i64 v32_702)], [], [], []⟩) h (.cov ⟨rfl, rfl, (upT_cons (.refl _) (upT_cons (.refl _) (upT_cons (.refl _) (upT_cons (.refl _) (upT_cons (.refl _) (upT_cons (.refl _) upT_nil)))))), upOb_nil, upOut_nil, rfl⟩) ?_
      intro v32_702 ohr703 h hr703
      replace h : go_ravellaw04_CodeParts_s2 a0_1 a1_2 x_643 v32_702 = some ohr703 := h
      rw [go_ravellaw04_CodeParts_s2] at h
      repeat (first | refine Safe.seq ?_ | refine Safe.skip ?_ | with_reducible refine thenQ.n ?_ | with_reducible refine blockQ.n ?_)
      refine Safe.region ?_
      refine SafeOps.quiet0 E_good rfl rfl rfl (v := V.bool (decide (v32_702 < (a0_1.length : Int)))) (.fn rfl) ?_
      refine SafeOps.nil ?_
      repeat (first | refine Safe.seq ?_ | refine Safe.skip ?_ | with_reducible refine thenQ.n ?_ | with_reducible refine blockQ.n ?_)
      refine ifG h (fun hc704 h => ?_) (fun hc704 h => ?_)
      · skip
        refine Safe.condK rfl hc704 ?_
        repeat (first | refine Safe.seq ?_ | refine Safe.skip ?_ | with_reducible refine thenQ.n ?_ | with_reducible refine blockQ.n ?_)
        refine Safe.block ?_
        repeat (first | refine Safe.seq ?_ | refine Safe.skip ?_ | with_reducible refine thenQ.n ?_ | with_reducible refine blockQ.n ?_)
        refine Safe.region ?_
        refine okG h (fun hb705 h => ?_)
        refine SafeOps.quiet0 E_good rfl rfl rfl (v := V.spt 3 (rws api_Instr.cells a0_1) (Int.toNat v32_702) 0) (.idxSlM (f := api_Instr.cells) rfl rfl rfl rfl rfl hb705) ?_
        refine SafeOps.quiet0 E_good rfl rfl rfl (v := V.agg [V.int .i64 ((gt a0_1 v32_702).Op), V.int .i64 ((gt a0_1 v32_702).A), V.int .i64 ((gt a0_1 v32_702).B)]) (.load rfl rfl (.sptM (f := api_Instr.cells) hb705 rfl) rfl) ?_
        refine SafeOps.quiet1 E_good rfl rfl rfl (.alloc rfl rfl) rfl ?_
        refine SafeOps.store (z := Obj.box [V.int .i64 ((gt a0_1 v32_702).Op), V.int .i64 ((gt a0_1 v32_702).A), V.int .i64 ((gt a0_1 v32_702).B)]) E_good rfl rfl rfl rfl rfl rfl rfl (.boxM (c := 3) rfl rfl (Nat.le_of_ble_eq_true rfl) rfl) ?_
        refine SafeOps.nil ?_
        repeat (first | refine Safe.seq ?_ | refine Safe.skip ?_ | with_reducible refine thenQ.n ?_ | with_reducible refine blockQ.n ?_)
        refine Safe.region ?_
        refine SafeOps.quiet0 E_good rfl rfl rfl (v := V.agg [V.int .i64 ((gt a0_1 v32_702).Op), V.int .i64 ((gt a0_1 v32_702).A), V.int .i64 ((gt a0_1 v32_702).B)]) (.load rfl rfl (.box rfl rfl) rfl) ?_
        refine SafeOps.quiet1 E_good rfl rfl rfl (.litM (f := api_Instr.cells) (xs := [(gt a0_1 v32_702)]) rfl rfl (by decide) rfl rfl rfl rfl rfl) rfl ?_
        refine bindG h ?_
        intro x_706 he707 h
        refine SafeOps.quiet0 E_good rfl rfl rfl (v := V.int .i64 x_706) (.callS rfl (.cons (.full rfl rfl) .nil) (go_code_Check_sc [(gt a0_1 v32_702)] _ he707) (.plain rfl) rfl) ?_
        refine SafeOps.quiet0 E_good rfl rfl rfl (v := V.bool (x_706 != 0)) (.fn rfl) ?_
        refine SafeOps.quiet0 E_good rfl rfl rfl (v := V.bool (x_706 != 0)) (.fn rfl) ?_
        refine ifG h (fun hc708 h => ?_) (fun hc708 h => ?_)
        · skip
          refine SafeOps.quiet0 E_good (congrArg some hc708) rfl rfl (v := V.sl 3 (rws api_Instr.cells a0_1)) (.fn rfl) ?_
          refine bindG h ?_
          intro x_711 he712 h
          refine SafeOps.quiet0 E_good (congrArg some hc708) rfl rfl (v := V.int .i64 x_711) (.callP rfl rfl (go_code_Check_sc a0_1 _ he712) rfl) ?_
          refine SafeOps.quiet0 E_good (congrArg some hc708) rfl rfl (v := V.bool (x_711 == 0)) (.fn rfl) ?_
          refine SafeOps.quiet0 E_good rfl rfl rfl (v := V.bool (x_711 == 0)) (.pickK rfl hc708 rfl) ?_
          refine SafeOps.nil ?_
          repeat (first | refine Safe.seq ?_ | refine Safe.skip ?_ | with_reducible refine thenQ.n ?_ | with_reducible refine blockQ.n ?_)
          refine ifG h (fun hc713 h => ?_) (fun hc713 h => ?_)
          · skip
            refine Safe.condK rfl hc713 ?_
            repeat (first | refine Safe.seq ?_ | refine Safe.skip ?_ | with_reducible refine thenQ.n ?_ | with_reducible refine blockQ.n ?_)
            refine Safe.region ?_
            refine SafeOps.quiet0 E_good rfl rfl rfl (v := V.bool false) (.fn rfl) ?_
            refine SafeOps.nil ?_
            repeat (first | refine Safe.seq ?_ | refine Safe.skip ?_ | with_reducible refine thenQ.n ?_ | with_reducible refine blockQ.n ?_)
            refine Safe.ret ?_
            repeat (first | with_reducible refine thenQ.r ?_ | with_reducible refine blockQ.r ?_)
            replace h := inr_out h hr703
            obtain rfl := Option.some.inj h
            exact retQ.gen (vs := [V.bool false]) rfl (.tmp (v := V.bool false) rfl .nil) (.free rfl) (by simp) (.inr rfl)
          · skip
            refine Safe.condN rfl hc713 ?_
            repeat (first | refine Safe.seq ?_ | refine Safe.skip ?_ | with_reducible refine thenQ.n ?_ | with_reducible refine blockQ.n ?_)
            refine Safe.region ?_
            refine SafeOps.quiet0 E_good rfl rfl rfl (v := V.int .i64 (IntKind.i64.wrap (v32_702 + 1))) (.fn rfl) ?_
            refine SafeOps.quiet0 E_good rfl rfl rfl (v := V.int .i64 (IntKind.i64.wrap (v32_702 + 1))) (.fn rfl) ?_
            refine SafeOps.nil ?_
            repeat (first | refine Safe.seq ?_ | refine Safe.skip ?_ | with_reducible refine thenQ.n ?_ | with_reducible refine blockQ.n ?_)
            exact ⟨_, next_out h, (.cov ⟨rfl, rfl, (upT_cons (.refl _) (upT_cons (.refl _) (upT_cons (.refl _) (upT_cons (.refl _) (upT_cons (.refl _) (upT_cons (.refl _) upT_nil)))))), upOb_nil, upOut_nil, rfl⟩)⟩
        · skip
          refine SafeOps.skip (congrArg some hc708) rfl rfl ?_
          refine SafeOps.skip (congrArg some hc708) rfl rfl ?_
          refine SafeOps.skip (congrArg some hc708) rfl rfl ?_
          refine SafeOps.quiet0 E_good rfl rfl rfl (v := V.bool false) (.pickK rfl hc708 rfl) ?_
          refine SafeOps.nil ?_
          repeat (first | refine Safe.seq ?_ | refine Safe.skip ?_ | with_reducible refine thenQ.n ?_ | with_reducible refine blockQ.n ?_)
          refine Safe.condN rfl rfl ?_
          repeat (first | refine Safe.seq ?_ | refine Safe.skip ?_ | with_reducible refine thenQ.n ?_ | with_reducible refine blockQ.n ?_)
          refine Safe.region ?_
          refine SafeOps.quiet0 E_good rfl rfl rfl (v := V.int .i64 (IntKind.i64.wrap (v32_702 + 1))) (.fn rfl) ?_
          refine SafeOps.quiet0 E_good rfl rfl rfl (v := V.int .i64 (IntKind.i64.wrap (v32_702 + 1))) (.fn rfl) ?_
          refine SafeOps.nil ?_
          repeat (first | refine Safe.seq ?_ | refine Safe.skip ?_ | with_reducible refine thenQ.n ?_ | with_reducible refine blockQ.n ?_)
          exact ⟨_, next_out h, (.cov ⟨rfl, rfl, (upT_cons (.refl _) (upT_cons (.refl _) (upT_cons (.refl _) (upT_cons (.refl _) (upT_cons (.refl _) (upT_cons (.refl _) upT_nil)))))), upOb_nil, upOut_nil, rfl⟩)⟩
      · skip
        refine Safe.condN rfl hc704 ?_
        repeat (first | refine Safe.seq ?_ | refine Safe.skip ?_ | with_reducible refine thenQ.n ?_ | with_reducible refine blockQ.n ?_)
        refine Safe.exit ?_
        repeat (first | with_reducible refine thenQ.e ?_ | with_reducible refine blockQ.x rfl ?_ | with_reducible refine blockQ.y rfl ?_)
        replace h := inr_out h hr703
        repeat (first | refine Safe.seq ?_ | refine Safe.skip ?_ | with_reducible refine thenQ.n ?_ | with_reducible refine blockQ.n ?_)
        refine Safe.region ?_
        refine SafeOps.quiet0 E_good rfl rfl rfl (v := V.sl 3 (rws api_Instr.cells a0_1)) (.fn rfl) ?_
        refine bindG h ?_
        rintro ⟨x_714, x_715⟩ he716 h
        refine SafeOps.quiet0 E_good rfl rfl rfl (v := V.tup [V.int .i64 x_714, V.int .i64 x_715]) (.callP rfl rfl (go_code_Units_sc a0_1 _ he716) rfl) ?_
        refine SafeOps.quiet0 E_good rfl rfl rfl (v := V.tup [V.int .i64 x_714, V.int .i64 x_715]) (.fn rfl) ?_
        refine SafeOps.quiet0 E_good rfl rfl rfl (v := V.int .i64 x_714) (.fn rfl) ?_
        refine SafeOps.quiet0 E_good rfl rfl rfl (v := V.int .i64 x_715) (.fn rfl) ?_
        refine SafeOps.quiet0 E_good rfl rfl rfl (v := V.int .i64 x_714) (.fn rfl) ?_
        refine SafeOps.quiet0 E_good rfl rfl rfl (v := V.int .i64 x_715) (.fn rfl) ?_
        refine SafeOps.nil ?_
        repeat (first | refine Safe.seq ?_ | refine Safe.skip ?_ | with_reducible refine thenQ.n ?_ | with_reducible refine blockQ.n ?_)
        refine Safe.region ?_
        refine SafeOps.quiet0 E_good rfl rfl rfl (v := V.sl 3 (rws api_Instr.cells a1_2)) (.fn rfl) ?_
        refine bindG h ?_
        rintro ⟨x_717, x_718⟩ he719 h
        refine SafeOps.quiet0 E_good rfl rfl rfl (v := V.tup [V.int .i64 x_717, V.int .i64 x_718]) (.callP rfl rfl (go_code_Units_sc a1_2 _ he719) rfl) ?_
        refine SafeOps.quiet0 E_good rfl rfl rfl (v := V.tup [V.int .i64 x_717, V.int .i64 x_718]) (.fn rfl) ?_
        refine SafeOps.quiet0 E_good rfl rfl rfl (v := V.int .i64 x_717) (.fn rfl) ?_
        refine SafeOps.quiet0 E_good rfl rfl rfl (v := V.int .i64 x_718) (.fn rfl) ?_
        refine SafeOps.quiet0 E_good rfl rfl rfl (v := V.int .i64 x_717) (.fn rfl) ?_
        refine SafeOps.quiet0 E_good rfl rfl rfl (v := V.int .i64 x_718) (.fn rfl) ?_
        refine SafeOps.nil ?_
        repeat (first | refine Safe.seq ?_ | refine Safe.skip ?_ | with_reducible refine thenQ.n ?_ | with_reducible refine blockQ.n ?_)
        refine Safe.region ?_
        refine SafeOps.quiet0 E_good rfl rfl rfl (v := V.sl 3 (rws api_Instr.cells a0_1)) (.fn rfl) ?_
        refine okG h (fun hb720 h => ?_)
        refine SafeOps.appendM api_Instr.cells (xs := []) (ys := a0_1) E_good rfl rfl rfl rfl rfl rfl rfl rfl rfl .nils (.sl _) (fun _ => rfl) hb720 ?_
        refine SafeOps.quiet0 E_good rfl rfl rfl (v := V.sl 3 (rws api_Instr.cells a1_2)) (.fn rfl) ?_
        refine okG h (fun hb721 h => ?_)
        refine SafeOps.appendM api_Instr.cells (xs := [] ++ a0_1) (ys := a1_2) E_good rfl rfl rfl rfl rfl rfl rfl rfl rfl (.own rfl) (.sl _) (fun _ => rfl) hb721 ?_
        refine SafeOps.quiet0 E_good rfl rfl rfl (v := V.ref [59] 0 (rws api_Instr.cells (([] ++ a0_1) ++ a1_2)).length) (.fn rfl) ?_
        refine SafeOps.nil ?_
        repeat (first | refine Safe.seq ?_ | refine Safe.skip ?_ | with_reducible refine thenQ.n ?_ | with_reducible refine blockQ.n ?_)
        refine Safe.region ?_
        refine SafeOps.quiet0 E_good rfl rfl rfl (v := V.ref [59] 0 (rws api_Instr.cells (([] ++ a0_1) ++ a1_2)).length) (.fn rfl) ?_
        refine bindG h ?_
        rintro ⟨x_722, x_723⟩ he724 h
        refine SafeOps.quiet0 E_good rfl rfl rfl (v := V.tup [V.int .i64 x_722, V.int .i64 x_723]) (.callS rfl (.cons (.full rfl rfl) .nil) (go_code_Units_sc (([] ++ a0_1) ++ a1_2) _ he724) (.tupL (.cons (.plain rfl) (.cons (.plain rfl) .nil))) rfl) ?_
        refine SafeOps.quiet0 E_good rfl rfl rfl (v := V.tup [V.int .i64 x_722, V.int .i64 x_723]) (.fn rfl) ?_
        refine SafeOps.quiet0 E_good rfl rfl rfl (v := V.int .i64 x_722) (.fn rfl) ?_
        refine SafeOps.quiet0 E_good rfl rfl rfl (v := V.int .i64 x_723) (.fn rfl) ?_
        refine SafeOps.quiet0 E_good rfl rfl rfl (v := V.int .i64 x_722) (.fn rfl) ?_
        refine SafeOps.quiet0 E_good rfl rfl rfl (v := V.int .i64 x_723) (.fn rfl) ?_
        refine SafeOps.nil ?_
        repeat (first | refine Safe.seq ?_ | refine Safe.skip ?_ | with_reducible refine thenQ.n ?_ | with_reducible refine blockQ.n ?_)
        refine Safe.region ?_
        refine SafeOps.quiet0 E_good rfl rfl rfl (v := V.int .i64 x_715) (.fn rfl) ?_
        refine SafeOps.quiet0 E_good rfl rfl rfl (v := V.bool (x_715 != 0)) (.fn rfl) ?_
        refine SafeOps.quiet0 E_good rfl rfl rfl (v := V.bool (x_715 != 0)) (.fn rfl) ?_
        refine SafeOps.bjoin 3 70 (b := ((x_715 != 0) || (x_718 != 0))) (b1 := true) (b0 := (x_718 != 0)) (fun hc725 K => ?_) (fun hc725 K => ?_) bj_or ?_
        · skip
          refine SafeOps.skip (congrArg (fun b => some (!b)) hc725) rfl rfl ?_
          refine SafeOps.skip (congrArg (fun b => some (!b)) hc725) rfl rfl ?_
          refine SafeOps.quiet0 E_good rfl rfl rfl (v := V.bool true) (.pickK rfl hc725 rfl) ?_
          exact SafeOps.drop' 3 rfl rfl rfl K
        · skip
          refine SafeOps.quiet0 E_good (congrArg (fun b => some (!b)) hc725) rfl rfl (v := V.int .i64 x_718) (.fn rfl) ?_
          refine SafeOps.quiet0 E_good (congrArg (fun b => some (!b)) hc725) rfl rfl (v := V.bool (x_718 != 0)) (.fn rfl) ?_
          refine SafeOps.quiet0 E_good rfl rfl rfl (v := V.bool (x_718 != 0)) (.pickK rfl hc725 rfl) ?_
          exact SafeOps.drop' 3 rfl rfl rfl K
        refine SafeOps.nil ?_
        repeat (first | refine Safe.seq ?_ | refine Safe.skip ?_ | with_reducible refine thenQ.n ?_ | with_reducible refine blockQ.n ?_)
        refine ifG h (fun hc726 h => ?_) (fun hc726 h => ?_)
        · skip
          refine Safe.condK rfl hc726 ?_
          repeat (first | refine Safe.seq ?_ | refine Safe.skip ?_ | with_reducible refine thenQ.n ?_ | with_reducible refine blockQ.n ?_)
          refine Safe.region ?_
          refine SafeOps.quiet0 E_good rfl rfl rfl (v := V.bool x_643) (.fn rfl) ?_
          refine SafeOps.quiet0 E_good rfl rfl rfl (v := V.bool x_643) (.fn rfl) ?_
          refine SafeOps.nil ?_
          repeat (first | refine Safe.seq ?_ | refine Safe.skip ?_ | with_reducible refine thenQ.n ?_ | with_reducible refine blockQ.n ?_)
          refine Safe.ret ?_
          repeat (first | with_reducible refine thenQ.r ?_ | with_reducible refine blockQ.r ?_)
          obtain rfl := Option.some.inj h
          exact retQ.gen (vs := [V.bool x_643]) rfl (.tmp (v := V.bool x_643) rfl .nil) (.free rfl) (by simp) (.inr rfl)
        · skip
          refine Safe.condN rfl hc726 ?_
          repeat (first | refine Safe.seq ?_ | refine Safe.skip ?_ | with_reducible refine thenQ.n ?_ | with_reducible refine blockQ.n ?_)
          refine Safe.region ?_
          refine SafeOps.quiet0 E_good rfl rfl rfl (v := V.bool false) (.fn rfl) ?_
          refine SafeOps.nil ?_
          repeat (first | refine Safe.seq ?_ | refine Safe.skip ?_ | with_reducible refine thenQ.n ?_ | with_reducible refine blockQ.n ?_)
          refine Safe.region ?_
          refine SafeOps.quiet0 E_good rfl rfl rfl (v := V.sl 3 (rws api_Instr.cells a0_1)) (.fn rfl) ?_
          refine SafeOps.quiet0 E_good rfl rfl rfl (v := V.int .i64 (a0_1.length : Int)) (.fnE rfl lenE) ?_
          refine SafeOps.quiet0 E_good rfl rfl rfl (v := V.int .i64 0) (.fn rfl) ?_
          refine SafeOps.nil ?_
          repeat (first | refine Safe.seq ?_ | refine Safe.skip ?_ | with_reducible refine thenQ.n ?_ | with_reducible refine blockQ.n ?_)
          refine Safe.block ?_
          repeat (first | refine Safe.seq ?_ | refine Safe.skip ?_ | with_reducible refine thenQ.n ?_ | with_reducible refine blockQ.n ?_)
          refine Safe.loopW (fun ((v15_747, v74_748) : Bool × Int) => ⟨Try.f5.ntmps, [(5, V.bool x_643), (8, V.int .i64 x_714), (10, V.int .i64 x_717), (12, V.ref [59] 0 (rws api_Instr.cells (([] ++ a0_1) ++ a1_2)).length), (13, V.int .i64 x_722), (14, V.int .i64 x_723), (15, V.bool v15_747), (72, V.sl 3 (rws api_Instr.cells a0_1)), (73, V.int .i64 (a0_1.length : Int)), (74, V.int .i64 v74_748)], [([59], Obj.rows 3 (rws api_Instr.cells (([] ++ a0_1) ++ a1_2)) false)], [], []⟩) h (.cov ⟨rfl, rfl, (upT_cons (.refl _) (upT_cons (.refl _) (upT_cons (.refl _) (upT_cons (.refl _) (upT_cons (.refl _) (upT_cons (.refl _) (upT_cons (.refl _) (upT_cons (.refl _) (upT_cons (.refl _) (upT_cons (.refl _) upT_nil)))))))))), (upOb_cons rfl (.refl _) upOb_nil), upOut_nil, rfl⟩) ?_
          rintro ⟨v15_747, v74_748⟩ ohr749 h hr749
          replace h : go_ravellaw04_CodeParts_s4 a0_1 a1_2 x_643 x_714 x_717 x_722 x_723 (v15_747, v74_748) = some ohr749 := h
          rw [go_ravellaw04_CodeParts_s4] at h
          repeat (first | refine Safe.seq ?_ | refine Safe.skip ?_ | with_reducible refine thenQ.n ?_ | with_reducible refine blockQ.n ?_)
          refine Safe.region ?_
          refine SafeOps.quiet0 E_good rfl rfl rfl (v := V.bool (decide (v74_748 < (a0_1.length : Int)))) (.fn rfl) ?_
          refine SafeOps.nil ?_
          repeat (first | refine Safe.seq ?_ | refine Safe.skip ?_ | with_reducible refine thenQ.n ?_ | with_reducible refine blockQ.n ?_)
          refine ifG h (fun hc750 h => ?_) (fun hc750 h => ?_)
          · skip
            refine Safe.condK rfl hc750 ?_
            repeat (first | refine Safe.seq ?_ | refine Safe.skip ?_ | with_reducible refine thenQ.n ?_ | with_reducible refine blockQ.n ?_)
            refine Safe.block ?_
            repeat (first | refine Safe.seq ?_ | refine Safe.skip ?_ | with_reducible refine thenQ.n ?_ | with_reducible refine blockQ.n ?_)
            refine Safe.region ?_
            refine okG h (fun hb751 h => ?_)
            refine SafeOps.quiet0 E_good rfl rfl rfl (v := V.spt 3 (rws api_Instr.cells a0_1) (Int.toNat v74_748) 0) (.idxSlM (f := api_Instr.cells) rfl rfl rfl rfl rfl hb751) ?_
            refine SafeOps.quiet0 E_good rfl rfl rfl (v := V.agg [V.int .i64 ((gt a0_1 v74_748).Op), V.int .i64 ((gt a0_1 v74_748).A), V.int .i64 ((gt a0_1 v74_748).B)]) (.load rfl rfl (.sptM (f := api_Instr.cells) hb751 rfl) rfl) ?_
            refine SafeOps.quiet1 E_good rfl rfl rfl (.alloc rfl rfl) rfl ?_
            refine SafeOps.store (z := Obj.box [V.int .i64 ((gt a0_1 v74_748).Op), V.int .i64 ((gt a0_1 v74_748).A), V.int .i64 ((gt a0_1 v74_748).B)]) E_good rfl rfl rfl rfl rfl rfl rfl (.boxM (c := 3) rfl rfl (Nat.le_of_ble_eq_true rfl) rfl) ?_
            refine SafeOps.nil ?_
            repeat (first | refine Safe.seq ?_ | refine Safe.skip ?_ | with_reducible refine thenQ.n ?_ | with_reducible refine blockQ.n ?_)
            refine Safe.region ?_
            refine SafeOps.quiet0 E_good rfl rfl rfl (v := V.bool v15_747) (.fn rfl) ?_
            refine SafeOps.quiet0 E_good rfl rfl rfl (v := V.bool v15_747) (.fn rfl) ?_
            refine SafeOps.bjoin 4 83 (b := (v15_747 || (((gt a0_1 v74_748).Op) == 9))) (b1 := true) (b0 := (((gt a0_1 v74_748).Op) == 9)) (fun hc752 K => ?_) (fun hc752 K => ?_) bj_or ?_
            · skip
              refine SafeOps.skip (congrArg (fun b => some (!b)) hc752) rfl rfl ?_
              refine SafeOps.skip (congrArg (fun b => some (!b)) hc752) rfl rfl ?_
              refine SafeOps.skip (congrArg (fun b => some (!b)) hc752) rfl rfl ?_
              refine SafeOps.quiet0 E_good rfl rfl rfl (v := V.bool true) (.pickK rfl hc752 rfl) ?_
              exact SafeOps.drop' 4 rfl rfl rfl K
            · skip
              refine SafeOps.quiet0 E_good (congrArg (fun b => some (!b)) hc752) rfl rfl (v := V.ptr [17] 0 0) (.fn rfl) ?_
              refine SafeOps.quiet0 E_good (congrArg (fun b => some (!b)) hc752) rfl rfl (v := V.int .i64 ((gt a0_1 v74_748).Op)) (.load rfl rfl (.box rfl rfl) rfl) ?_
              refine SafeOps.quiet0 E_good (congrArg (fun b => some (!b)) hc752) rfl rfl (v := V.bool (((gt a0_1 v74_748).Op) == 9)) (.fn rfl) ?_
              refine SafeOps.quiet0 E_good rfl rfl rfl (v := V.bool (((gt a0_1 v74_748).Op) == 9)) (.pickK rfl hc752 rfl) ?_
              exact SafeOps.drop' 4 rfl rfl rfl K
            refine SafeOps.quiet0 E_good rfl rfl rfl (v := V.bool (v15_747 || (((gt a0_1 v74_748).Op) == 9))) (.fn rfl) ?_
            refine SafeOps.nil ?_
            repeat (first | refine Safe.seq ?_ | refine Safe.skip ?_ | with_reducible refine thenQ.n ?_ | with_reducible refine blockQ.n ?_)
            refine Safe.region ?_
            refine SafeOps.quiet0 E_good rfl rfl rfl (v := V.int .i64 (IntKind.i64.wrap (v74_748 + 1))) (.fn rfl) ?_
            refine SafeOps.quiet0 E_good rfl rfl rfl (v := V.int .i64 (IntKind.i64.wrap (v74_748 + 1))) (.fn rfl) ?_
            refine SafeOps.nil ?_
            repeat (first | refine Safe.seq ?_ | refine Safe.skip ?_ | with_reducible refine thenQ.n ?_ | with_reducible refine blockQ.n ?_)
            exact ⟨_, next_out h, (.cov ⟨rfl, rfl, (upT_cons (.refl _) (upT_cons (.refl _) (upT_cons (.refl _) (upT_cons (.refl _) (upT_cons (.refl _) (upT_cons (.refl _) (upT_cons (.refl _) (upT_cons (.refl _) (upT_cons (.refl _) (upT_cons (.refl _) upT_nil)))))))))), (upOb_cons rfl (.refl _) upOb_nil), upOut_nil, rfl⟩)⟩
          · skip
            refine Safe.condN rfl hc750 ?_
            repeat (first | refine Safe.seq ?_ | refine Safe.skip ?_ | with_reducible refine thenQ.n ?_ | with_reducible refine blockQ.n ?_)
            refine Safe.exit ?_
            repeat (first | with_reducible refine thenQ.e ?_ | with_reducible refine blockQ.x rfl ?_ | with_reducible refine blockQ.y rfl ?_)
            replace h := inr_out h hr749
            repeat (first | refine Safe.seq ?_ | refine Safe.skip ?_ | with_reducible refine thenQ.n ?_ | with_reducible refine blockQ.n ?_)
            refine Safe.region ?_
            refine SafeOps.quiet0 E_good rfl rfl rfl (v := V.ref [59] 0 (rws api_Instr.cells (([] ++ a0_1) ++ a1_2)).length) (.fn rfl) ?_
            refine SafeOps.quiet0 E_good rfl rfl rfl (v := V.int .i64 ((([] ++ a0_1) ++ a1_2).length : Int)) (.fnE rfl lenE) ?_
            refine SafeOps.quiet0 E_good rfl rfl rfl (v := V.bool (decide (((([] ++ a0_1) ++ a1_2).length : Int) > 32))) (.fn rfl) ?_
            refine SafeOps.nil ?_
            repeat (first | refine Safe.seq ?_ | refine Safe.skip ?_ | with_reducible refine thenQ.n ?_ | with_reducible refine blockQ.n ?_)
            refine ifG h (fun hc754 h => ?_) (fun hc754 h => ?_)
            · skip
              refine Safe.condK rfl hc754 ?_
              repeat (first | refine Safe.seq ?_ | refine Safe.skip ?_ | with_reducible refine thenQ.n ?_ | with_reducible refine blockQ.n ?_)
              refine Safe.region ?_
              refine SafeOps.quiet0 E_good rfl rfl rfl (v := V.bool x_643) (.fn rfl) ?_
              refine SafeOps.quiet0 E_good rfl rfl rfl (v := V.bool x_643) (.fn rfl) ?_
              refine SafeOps.bjoin 3 92 (b := (x_643 && (x_723 == 1))) (b1 := (x_723 == 1)) (b0 := false) (fun hc755 K => ?_) (fun hc755 K => ?_) bj_and ?_
              · skip
                refine SafeOps.quiet0 E_good (congrArg some hc755) rfl rfl (v := V.int .i64 x_723) (.fn rfl) ?_
                refine SafeOps.quiet0 E_good (congrArg some hc755) rfl rfl (v := V.bool (x_723 == 1)) (.fn rfl) ?_
                refine SafeOps.quiet0 E_good rfl rfl rfl (v := V.bool (x_723 == 1)) (.pickK rfl hc755 rfl) ?_
                exact SafeOps.drop' 3 rfl rfl rfl K
              · skip
                refine SafeOps.skip (congrArg some hc755) rfl rfl ?_
                refine SafeOps.skip (congrArg some hc755) rfl rfl ?_
                refine SafeOps.quiet0 E_good rfl rfl rfl (v := V.bool false) (.pickK rfl hc755 rfl) ?_
                exact SafeOps.drop' 3 rfl rfl rfl K
              refine SafeOps.quiet0 E_good rfl rfl rfl (v := V.bool (x_643 && (x_723 == 1))) (.fn rfl) ?_
              refine SafeOps.nil ?_
              repeat (first | refine Safe.seq ?_ | refine Safe.skip ?_ | with_reducible refine thenQ.n ?_ | with_reducible refine blockQ.n ?_)
              refine Safe.ret ?_
              repeat (first | with_reducible refine thenQ.r ?_ | with_reducible refine blockQ.r ?_)
              obtain rfl := Option.some.inj h
              exact retQ.gen (vs := [V.bool (x_643 && (x_723 == 1))]) rfl (.tmp (v := V.bool (x_643 && (x_723 == 1))) rfl .nil) (.free rfl) (by simp) (.inr rfl)
            · skip
              refine Safe.condN rfl hc754 ?_
              repeat (first | refine Safe.seq ?_ | refine Safe.skip ?_ | with_reducible refine thenQ.n ?_ | with_reducible refine blockQ.n ?_)
              refine Safe.region ?_
              refine SafeOps.quiet0 E_good rfl rfl rfl (v := V.bool x_643) (.fn rfl) ?_
              refine SafeOps.quiet0 E_good rfl rfl rfl (v := V.bool x_643) (.fn rfl) ?_
              refine SafeOps.bjoin 3 97 (b := (x_643 && (x_723 == 0))) (b1 := (x_723 == 0)) (b0 := false) (fun hc756 K => ?_) (fun hc756 K => ?_) bj_and ?_
              · skip
                refine SafeOps.quiet0 E_good (congrArg some hc756) rfl rfl (v := V.int .i64 x_723) (.fn rfl) ?_
                refine SafeOps.quiet0 E_good (congrArg some hc756) rfl rfl (v := V.bool (x_723 == 0)) (.fn rfl) ?_
                refine SafeOps.quiet0 E_good rfl rfl rfl (v := V.bool (x_723 == 0)) (.pickK rfl hc756 rfl) ?_
                exact SafeOps.drop' 3 rfl rfl rfl K
              · skip
                refine SafeOps.skip (congrArg some hc756) rfl rfl ?_
                refine SafeOps.skip (congrArg some hc756) rfl rfl ?_
                refine SafeOps.quiet0 E_good rfl rfl rfl (v := V.bool false) (.pickK rfl hc756 rfl) ?_
                exact SafeOps.drop' 3 rfl rfl rfl K
              refine SafeOps.quiet0 E_good rfl rfl rfl (v := V.bool (x_643 && (x_723 == 0))) (.fn rfl) ?_
              refine SafeOps.bjoin 18 116 (b := ((x_643 && (x_723 == 0)) && ((v15_747 && (x_722 == x_714)) || ((!v15_747) && (x_722 == (IntKind.i64.wrap (x_714 + x_717))))))) (b1 := ((v15_747 && (x_722 == x_714)) || ((!v15_747) && (x_722 == (IntKind.i64.wrap (x_714 + x_717)))))) (b0 := false) (fun hc757 K => ?_) (fun hc757 K => ?_) bj_and ?_
              · skip
                refine SafeOps.quiet0 E_good (congrArg some hc757) rfl rfl (v := V.bool v15_747) (.fn rfl) ?_
                refine SafeOps.quiet0 E_good (congrArg some hc757) rfl rfl (v := V.bool v15_747) (.fn rfl) ?_
                refine SafeOps.bjoin 4 104 (b := (v15_747 && (x_722 == x_714))) (b1 := (x_722 == x_714)) (b0 := false) (fun hc758 K => ?_) (fun hc758 K => ?_) bj_and ?_
                · skip
                  refine SafeOps.quiet0 E_good (congrArg some hc758) rfl rfl (v := V.int .i64 x_722) (.fn rfl) ?_
                  refine SafeOps.quiet0 E_good (congrArg some hc758) rfl rfl (v := V.int .i64 x_714) (.fn rfl) ?_
                  refine SafeOps.quiet0 E_good (congrArg some hc758) rfl rfl (v := V.bool (x_722 == x_714)) (.fn rfl) ?_
                  refine SafeOps.quiet0 E_good (congrArg some hc757) rfl rfl (v := V.bool (x_722 == x_714)) (.pickK rfl hc758 rfl) ?_
                  exact SafeOps.drop' 4 rfl rfl rfl K
                · skip
                  refine SafeOps.skip (congrArg some hc758) rfl rfl ?_
                  refine SafeOps.skip (congrArg some hc758) rfl rfl ?_
                  refine SafeOps.skip (congrArg some hc758) rfl rfl ?_
                  refine SafeOps.quiet0 E_good (congrArg some hc757) rfl rfl (v := V.bool false) (.pickK rfl hc758 rfl) ?_
                  exact SafeOps.drop' 4 rfl rfl rfl K
                refine SafeOps.quiet0 E_good (congrArg some hc757) rfl rfl (v := V.bool (v15_747 && (x_722 == x_714))) (.fn rfl) ?_
                refine SafeOps.bjoin 10 115 (b := ((v15_747 && (x_722 == x_714)) || ((!v15_747) && (x_722 == (IntKind.i64.wrap (x_714 + x_717)))))) (b1 := true) (b0 := ((!v15_747) && (x_722 == (IntKind.i64.wrap (x_714 + x_717))))) (fun hc759 K => ?_) (fun hc759 K => ?_) bj_or ?_
                · skip
                  refine SafeOps.skip (congrArg (fun b => some (!b)) hc759) rfl rfl ?_
                  refine SafeOps.skip (congrArg (fun b => some (!b)) hc759) rfl rfl ?_
                  refine SafeOps.skip (congrArg (fun b => some (!b)) hc759) rfl rfl ?_
                  refine SafeOps.skip rfl rfl rfl ?_
                  refine SafeOps.skip rfl rfl rfl ?_
                  refine SafeOps.skip rfl rfl rfl ?_
                  refine SafeOps.skip rfl rfl rfl ?_
                  refine SafeOps.skip rfl rfl rfl ?_
                  refine SafeOps.skip (congrArg (fun b => some (!b)) hc759) rfl rfl ?_
                  refine SafeOps.quiet0 E_good (congrArg some hc757) rfl rfl (v := V.bool true) (.pickK rfl hc759 rfl) ?_
                  exact SafeOps.drop' 10 rfl rfl rfl K
                · skip
                  refine SafeOps.quiet0 E_good (congrArg (fun b => some (!b)) hc759) rfl rfl (v := V.bool v15_747) (.fn rfl) ?_
                  refine SafeOps.quiet0 E_good (congrArg (fun b => some (!b)) hc759) rfl rfl (v := V.bool (!v15_747)) (.fn rfl) ?_
                  refine SafeOps.quiet0 E_good (congrArg (fun b => some (!b)) hc759) rfl rfl (v := V.bool (!v15_747)) (.fn rfl) ?_
                  refine SafeOps.bjoin 6 114 (b := ((!v15_747) && (x_722 == (IntKind.i64.wrap (x_714 + x_717))))) (b1 := (x_722 == (IntKind.i64.wrap (x_714 + x_717)))) (b0 := false) (fun hc760 K => ?_) (fun hc760 K => ?_) bj_and ?_
                  · skip
                    refine SafeOps.quiet0 E_good (congrArg some hc760) rfl rfl (v := V.int .i64 x_722) (.fn rfl) ?_
                    refine SafeOps.quiet0 E_good (congrArg some hc760) rfl rfl (v := V.int .i64 x_714) (.fn rfl) ?_
                    refine SafeOps.quiet0 E_good (congrArg some hc760) rfl rfl (v := V.int .i64 x_717) (.fn rfl) ?_
                    refine SafeOps.quiet0 E_good (congrArg some hc760) rfl rfl (v := V.int .i64 (IntKind.i64.wrap (x_714 + x_717))) (.fn rfl) ?_
                    refine SafeOps.quiet0 E_good (congrArg some hc760) rfl rfl (v := V.bool (x_722 == (IntKind.i64.wrap (x_714 + x_717)))) (.fn rfl) ?_
                    refine SafeOps.quiet0 E_good (congrArg (fun b => some (!b)) hc759) rfl rfl (v := V.bool (x_722 == (IntKind.i64.wrap (x_714 + x_717)))) (.pickK rfl hc760 rfl) ?_
                    exact SafeOps.drop' 6 rfl rfl rfl K
                  · skip
                    refine SafeOps.skip (congrArg some hc760) rfl rfl ?_
                    refine SafeOps.skip (congrArg some hc760) rfl rfl ?_
                    refine SafeOps.skip (congrArg some hc760) rfl rfl ?_
                    refine SafeOps.skip (congrArg some hc760) rfl rfl ?_
                    refine SafeOps.skip (congrArg some hc760) rfl rfl ?_
                    refine SafeOps.quiet0 E_good (congrArg (fun b => some (!b)) hc759) rfl rfl (v := V.bool false) (.pickK rfl hc760 rfl) ?_
                    exact SafeOps.drop' 6 rfl rfl rfl K
                  refine SafeOps.quiet0 E_good (congrArg some hc757) rfl rfl (v := V.bool ((!v15_747) && (x_722 == (IntKind.i64.wrap (x_714 + x_717))))) (.pickK rfl hc759 rfl) ?_
                  exact SafeOps.drop' 5 rfl rfl rfl K
                refine SafeOps.quiet0 E_good rfl rfl rfl (v := V.bool ((v15_747 && (x_722 == x_714)) || ((!v15_747) && (x_722 == (IntKind.i64.wrap (x_714 + x_717)))))) (.pickK rfl hc757 rfl) ?_
                exact SafeOps.drop' 6 rfl rfl rfl K
              · skip
                refine SafeOps.skip (congrArg some hc757) rfl rfl ?_
                refine SafeOps.skip (congrArg some hc757) rfl rfl ?_
                refine SafeOps.skip rfl rfl rfl ?_
                refine SafeOps.skip rfl rfl rfl ?_
                refine SafeOps.skip rfl rfl rfl ?_
                refine SafeOps.skip (congrArg some hc757) rfl rfl ?_
                refine SafeOps.skip (congrArg some hc757) rfl rfl ?_
                refine SafeOps.skip rfl rfl rfl ?_
                refine SafeOps.skip rfl rfl rfl ?_
                refine SafeOps.skip rfl rfl rfl ?_
                refine SafeOps.skip rfl rfl rfl ?_
                refine SafeOps.skip rfl rfl rfl ?_
                refine SafeOps.skip rfl rfl rfl ?_
                refine SafeOps.skip rfl rfl rfl ?_
                refine SafeOps.skip rfl rfl rfl ?_
                refine SafeOps.skip rfl rfl rfl ?_
                refine SafeOps.skip (congrArg some hc757) rfl rfl ?_
                refine SafeOps.quiet0 E_good rfl rfl rfl (v := V.bool false) (.pickK rfl hc757 rfl) ?_
                exact SafeOps.drop' 18 rfl rfl rfl K
              refine SafeOps.quiet0 E_good rfl rfl rfl (v := V.bool ((x_643 && (x_723 == 0)) && ((v15_747 && (x_722 == x_714)) || ((!v15_747) && (x_722 == (IntKind.i64.wrap (x_714 + x_717))))))) (.fn rfl) ?_
              refine SafeOps.nil ?_
              repeat (first | refine Safe.seq ?_ | refine Safe.skip ?_ | with_reducible refine thenQ.n ?_ | with_reducible refine blockQ.n ?_)
              refine Safe.ret ?_
              repeat (first | with_reducible refine thenQ.r ?_ | with_reducible refine blockQ.r ?_)
              obtain rfl := Option.some.inj h
              exact retQ.gen (vs := [V.bool ((x_643 && (x_723 == 0)) && ((v15_747 && (x_722 == x_714)) || ((!v15_747) && (x_722 == (IntKind.i64.wrap (x_714 + x_717))))))]) rfl (.tmp (v := V.bool ((x_643 && (x_723 == 0)) && ((v15_747 && (x_722 == x_714)) || ((!v15_747) && (x_722 == (IntKind.i64.wrap (x_714 + x_717))))))) rfl .nil) (.free rfl) (by simp) (.inr rfl)

noncomputable def go_ravelref04_Few_s1 (a0_765 : List (List api_Instr)) : (Int) → Option ((Int) ⊕ (Bool))
  | v7_786 =>
    if (decide (v7_786 < (a0_765.length : Int))) = true then
      if 0 ≤ v7_786 ∧ v7_786 < (a0_765.length : Int) then
        if (decide (((gt a0_765 v7_786).length : Int) > 100)) = true then
          inrO (
            some false)
        else
          nextO (IntKind.i64.wrap (v7_786 + 1))
      else none
    else
      inrO (
        some (decide ((a0_765.length : Int) ≤ 100)))

noncomputable def go_ravelref04_Few (a0_765 : List (List api_Instr)) : Option Bool :=
  whileO (go_ravelref04_Few_s1 a0_765) 0

theorem go_ravelref04_Few_sc (a0_765 : List (List api_Instr)) (r : Bool) (h : go_ravelref04_Few a0_765 = some r) : SC Try.prog gl 11 [V.sl 1 (rws (fun l => [V.sl 3 (rws api_Instr.cells l)]) a0_765)] (V.bool r) := by
  rw [go_ravelref04_Few] at h
  refine SC.of E_good Try.func11 rfl (fun _ _ => Try.call11 _ _) rfl ?_
  repeat (first | refine Safe.seq ?_ | refine Safe.skip ?_ | with_reducible refine thenQ.n ?_ | with_reducible refine blockQ.n ?_)
  refine Safe.region ?_
  refine SafeOps.quiet0 E_good rfl rfl rfl (v := V.bool false) (.fn rfl) ?_
  refine SafeOps.nil ?_
  repeat (first | refine Safe.seq ?_ | refine Safe.skip ?_ | with_reducible refine thenQ.n ?_ | with_reducible refine blockQ.n ?_)
  refine Safe.region ?_
  refine SafeOps.quiet0 E_good rfl rfl rfl (v := V.sl 1 (rws (fun l => [V.sl 3 (rws api_Instr.cells l)]) a0_765)) (.fn rfl) ?_
  refine SafeOps.quiet0 E_good rfl rfl rfl (v := V.int .i64 (a0_765.length : Int)) (.fnE rfl lenE) ?_
  refine SafeOps.quiet0 E_good rfl rfl rfl (v := V.int .i64 0) (.fn rfl) ?_
  refine SafeOps.nil ?_
  repeat (first | refine Safe.seq ?_ | refine Safe.skip ?_ | with_reducible refine thenQ.n ?_ | with_reducible refine blockQ.n ?_)
  refine Safe.block ?_
  repeat (first | refine Safe.seq ?_ | refine Safe.skip ?_ | with_reducible refine thenQ.n ?_ | with_reducible refine blockQ.n ?_)
  refine Safe.loopW (fun (v7_786 : Int) => ⟨Try.f11.ntmps, [(0, V.sl 1 (rws (fun l => [V.sl 3 (rws api_Instr.cells l)]) a0_765)), (5, V.sl 1 (rws (fun l => [V.sl 3 (rws api_Instr.cells l)]) a0_765)), (6, V.int .i64 (a0_765.length : Int)), (7, V.int .i64 v7_786)], [], [], []⟩) h (.cov ⟨rfl, rfl, (upT_cons (.refl _) (upT_cons (.refl _) (upT_cons (.refl _) (upT_cons (.refl _) upT_nil)))), upOb_nil, upOut_nil, rfl⟩) ?_
  intro v7_786 ohr787 h hr787
  replace h : go_ravelref04_Few_s1 a0_765 v7_786 = some ohr787 := h
  rw [go_ravelref04_Few_s1] at h
  repeat (first | refine Safe.seq ?_ | refine Safe.skip ?_ | with_reducible refine thenQ.n ?_ | with_reducible refine blockQ.n ?_)
  refine Safe.region ?_
  refine SafeOps.quiet0 E_good rfl rfl rfl (v := V.bool (decide (v7_786 < (a0_765.length : Int)))) (.fn rfl) ?_
  refine SafeOps.nil ?_
  repeat (first | refine Safe.seq ?_ | refine Safe.skip ?_ | with_reducible refine thenQ.n ?_ | with_reducible refine blockQ.n ?_)
  refine ifG h (fun hc788 h => ?_) (fun hc788 h => ?_)
  · skip
    refine Safe.condK rfl hc788 ?_
    repeat (first | refine Safe.seq ?_ | refine Safe.skip ?_ | with_reducible refine thenQ.n ?_ | with_reducible refine blockQ.n ?_)
    refine Safe.block ?_
    repeat (first | refine Safe.seq ?_ | refine Safe.skip ?_ | with_reducible refine thenQ.n ?_ | with_reducible refine blockQ.n ?_)
    refine Safe.region ?_
    refine okG h (fun hb789 h => ?_)
    refine SafeOps.quiet0 E_good rfl rfl rfl (v := V.spt 1 (rws (fun l => [V.sl 3 (rws api_Instr.cells l)]) a0_765) (Int.toNat v7_786) 0) (.idxSlM (f := (fun l => [V.sl 3 (rws api_Instr.cells l)])) rfl rfl rfl rfl rfl hb789) ?_
    refine SafeOps.quiet0 E_good rfl rfl rfl (v := V.sl 3 (rws api_Instr.cells (gt a0_765 v7_786))) (.load rfl rfl (.sptM (f := (fun l => [V.sl 3 (rws api_Instr.cells l)])) hb789 rfl) rfl) ?_
    refine SafeOps.quiet0 E_good rfl rfl rfl (v := V.sl 3 (rws api_Instr.cells (gt a0_765 v7_786))) (.fn rfl) ?_
    refine SafeOps.nil ?_
    repeat (first | refine Safe.seq ?_ | refine Safe.skip ?_ | with_reducible refine thenQ.n ?_ | with_reducible refine blockQ.n ?_)
    refine Safe.region ?_
    refine SafeOps.quiet0 E_good rfl rfl rfl (v := V.sl 3 (rws api_Instr.cells (gt a0_765 v7_786))) (.fn rfl) ?_
    refine SafeOps.quiet0 E_good rfl rfl rfl (v := V.int .i64 ((gt a0_765 v7_786).length : Int)) (.fnE rfl lenE) ?_
    refine SafeOps.quiet0 E_good rfl rfl rfl (v := V.bool (decide (((gt a0_765 v7_786).length : Int) > 100))) (.fn rfl) ?_
    refine SafeOps.nil ?_
    repeat (first | refine Safe.seq ?_ | refine Safe.skip ?_ | with_reducible refine thenQ.n ?_ | with_reducible refine blockQ.n ?_)
    refine ifG h (fun hc790 h => ?_) (fun hc790 h => ?_)
    · skip
      refine Safe.condK rfl hc790 ?_
      repeat (first | refine Safe.seq ?_ | refine Safe.skip ?_ | with_reducible refine thenQ.n ?_ | with_reducible refine blockQ.n ?_)
      refine Safe.region ?_
      refine SafeOps.quiet0 E_good rfl rfl rfl (v := V.bool false) (.fn rfl) ?_
      refine SafeOps.nil ?_
      repeat (first | refine Safe.seq ?_ | refine Safe.skip ?_ | with_reducible refine thenQ.n ?_ | with_reducible refine blockQ.n ?_)
      refine Safe.ret ?_
      repeat (first | with_reducible refine thenQ.r ?_ | with_reducible refine blockQ.r ?_)
      replace h := inr_out h hr787
      obtain rfl := Option.some.inj h
      exact retQ.gen (vs := [V.bool false]) rfl (.tmp (v := V.bool false) rfl .nil) (.free rfl) (by simp) (.inr rfl)
    · skip
      refine Safe.condN rfl hc790 ?_
      repeat (first | refine Safe.seq ?_ | refine Safe.skip ?_ | with_reducible refine thenQ.n ?_ | with_reducible refine blockQ.n ?_)
      refine Safe.region ?_
      refine SafeOps.quiet0 E_good rfl rfl rfl (v := V.int .i64 (IntKind.i64.wrap (v7_786 + 1))) (.fn rfl) ?_
      refine SafeOps.quiet0 E_good rfl rfl rfl (v := V.int .i64 (IntKind.i64.wrap (v7_786 + 1))) (.fn rfl) ?_
      refine SafeOps.nil ?_
      repeat (first | refine Safe.seq ?_ | refine Safe.skip ?_ | with_reducible refine thenQ.n ?_ | with_reducible refine blockQ.n ?_)
      exact ⟨_, next_out h, (.cov ⟨rfl, rfl, (upT_cons (.refl _) (upT_cons (.refl _) (upT_cons (.refl _) (upT_cons (.refl _) upT_nil)))), upOb_nil, upOut_nil, rfl⟩)⟩
  · skip
    refine Safe.condN rfl hc788 ?_
    repeat (first | refine Safe.seq ?_ | refine Safe.skip ?_ | with_reducible refine thenQ.n ?_ | with_reducible refine blockQ.n ?_)
    refine Safe.exit ?_
    repeat (first | with_reducible refine thenQ.e ?_ | with_reducible refine blockQ.x rfl ?_ | with_reducible refine blockQ.y rfl ?_)
    replace h := inr_out h hr787
    repeat (first | refine Safe.seq ?_ | refine Safe.skip ?_ | with_reducible refine thenQ.n ?_ | with_reducible refine blockQ.n ?_)
    refine Safe.region ?_
    refine SafeOps.quiet0 E_good rfl rfl rfl (v := V.sl 1 (rws (fun l => [V.sl 3 (rws api_Instr.cells l)]) a0_765)) (.fn rfl) ?_
    refine SafeOps.quiet0 E_good rfl rfl rfl (v := V.int .i64 (a0_765.length : Int)) (.fnE rfl lenE) ?_
    refine SafeOps.quiet0 E_good rfl rfl rfl (v := V.bool (decide ((a0_765.length : Int) ≤ 100))) (.fn rfl) ?_
    refine SafeOps.quiet0 E_good rfl rfl rfl (v := V.bool (decide ((a0_765.length : Int) ≤ 100))) (.fn rfl) ?_
    refine SafeOps.nil ?_
    repeat (first | refine Safe.seq ?_ | refine Safe.skip ?_ | with_reducible refine thenQ.n ?_ | with_reducible refine blockQ.n ?_)
    refine Safe.ret ?_
    repeat (first | with_reducible refine thenQ.r ?_ | with_reducible refine blockQ.r ?_)
    obtain rfl := Option.some.inj h
    exact retQ.gen (vs := [V.bool (decide ((a0_765.length : Int) ≤ 100))]) rfl (.tmp (v := V.bool (decide ((a0_765.length : Int) ≤ 100))) rfl .nil) (.free rfl) (by simp) (.inr rfl)
end Go.Proofs.Ytdlpecjbafadkaa
