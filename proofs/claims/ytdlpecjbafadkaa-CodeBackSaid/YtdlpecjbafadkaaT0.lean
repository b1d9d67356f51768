/- Helper lemmas for the claim's theorem: an abstract machine over the model, proved sound; no condition beyond each lemma's own. -/
import Derived.Test.YtdlpecjbafadkaaSEnv
set_option linter.unusedVariables false
set_option linter.unusedSimpArgs false
set_option linter.unnecessarySimpa false
set_option linter.unusedSectionVars false
namespace Go.Proofs.Ytdlpecjbafadkaa
open Go Go.AM
set_option maxRecDepth 100000
set_option maxHeartbeats 1000000
set_option linter.unusedVariables false
set_option linter.unusedSimpArgs false
variable {gl : List (Nat × List V)}
@[ext] structure api_Instr where
  Op : Int
  A : Int
  B : Int
  deriving Inhabited
def api_Instr.cells (x : api_Instr) : List V := [V.int .i64 x.Op, V.int .i64 x.A, V.int .i64 x.B]
def api_Instr.zero : api_Instr := ⟨0, 0, 0⟩
def api_Instr.beq (x y : api_Instr) : Bool := ((x.Op == y.Op) && ((x.A == y.A) && ((x.B == y.B) && true)))

def go_code_within (a0_25 : Int) (a1_26 : Int) : Bool :=
  ((decide (a0_25 ≥ 0)) && (decide (a0_25 < a1_26)))

theorem go_code_within_sc (a0_25 : Int) (a1_26 : Int) (r : Bool) (h : go_code_within a0_25 a1_26 = r) : SC Try.prog gl 26 [V.int .i64 a0_25, V.int .i64 a1_26] (V.bool r) := by
  rw [go_code_within] at h
  refine SC.of E_good Try.func26 rfl (fun _ _ => Try.call26 _ _) rfl ?_
  repeat (first | refine Safe.seq ?_ | refine Safe.skip ?_ | with_reducible refine thenQ.n ?_ | with_reducible refine blockQ.n ?_)
  refine Safe.region ?_
  refine SafeOps.quiet0 E_good rfl rfl rfl (v := V.bool false) (.fn rfl) ?_
  refine SafeOps.nil ?_
  repeat (first | refine Safe.seq ?_ | refine Safe.skip ?_ | with_reducible refine thenQ.n ?_ | with_reducible refine blockQ.n ?_)
  refine Safe.region ?_
  refine SafeOps.quiet0 E_good rfl rfl rfl (v := V.int .i64 a0_25) (.fn rfl) ?_
  refine SafeOps.quiet0 E_good rfl rfl rfl (v := V.bool (decide (a0_25 ≥ 0))) (.fn rfl) ?_
  refine SafeOps.quiet0 E_good rfl rfl rfl (v := V.bool (decide (a0_25 ≥ 0))) (.fn rfl) ?_
  refine SafeOps.bjoin 4 11 (b := ((decide (a0_25 ≥ 0)) && (decide (a0_25 < a1_26)))) (b1 := decide (a0_25 < a1_26)) (b0 := false) (fun hc28 K => ?_) (fun hc28 K => ?_) bj_and ?_
  · skip
    refine SafeOps.quiet0 E_good (congrArg some hc28) rfl rfl (v := V.int .i64 a0_25) (.fn rfl) ?_
    refine SafeOps.quiet0 E_good (congrArg some hc28) rfl rfl (v := V.int .i64 a1_26) (.fn rfl) ?_
    refine SafeOps.quiet0 E_good (congrArg some hc28) rfl rfl (v := V.bool (decide (a0_25 < a1_26))) (.fn rfl) ?_
    refine SafeOps.quiet0 E_good rfl rfl rfl (v := V.bool (decide (a0_25 < a1_26))) (.pickK rfl hc28 rfl) ?_
    exact SafeOps.drop' 4 rfl rfl rfl K
  · skip
    refine SafeOps.skip (congrArg some hc28) rfl rfl ?_
    refine SafeOps.skip (congrArg some hc28) rfl rfl ?_
    refine SafeOps.skip (congrArg some hc28) rfl rfl ?_
    refine SafeOps.quiet0 E_good rfl rfl rfl (v := V.bool false) (.pickK rfl hc28 rfl) ?_
    exact SafeOps.drop' 4 rfl rfl rfl K
  refine SafeOps.quiet0 E_good rfl rfl rfl (v := V.bool ((decide (a0_25 ≥ 0)) && (decide (a0_25 < a1_26)))) (.fn rfl) ?_
  refine SafeOps.nil ?_
  repeat (first | refine Safe.seq ?_ | refine Safe.skip ?_ | with_reducible refine thenQ.n ?_ | with_reducible refine blockQ.n ?_)
  refine Safe.ret ?_
  repeat (first | with_reducible refine thenQ.r ?_ | with_reducible refine blockQ.r ?_)
  obtain rfl := h
  exact retQ.gen (vs := [V.bool ((decide (a0_25 ≥ 0)) && (decide (a0_25 < a1_26)))]) rfl (.tmp (v := V.bool ((decide (a0_25 ≥ 0)) && (decide (a0_25 < a1_26)))) rfl .nil) (.free rfl) (by simp) (.inr rfl)

def go_code_odd_j2 (v3_71 : Bool) (v4_72 : Bool) : Bool :=
  ((!v3_71) || (!v4_72))

def go_code_odd_j4 (a0_23 : api_Instr) (v46_83 : Bool) : Bool :=
  if v46_83 = true then
    go_code_odd_j2 (go_code_within a0_23.A 8) (a0_23.B == 0)
  else
    true

def go_code_odd_j3 (a0_23 : api_Instr) (v27_77 : Bool) : Bool :=
  if v27_77 = true then
    go_code_odd_j2 (a0_23.A == 0) (a0_23.B == 0)
  else
    if (a0_23.Op == 4) = true then
      go_code_odd_j2 (go_code_within (IntKind.i64.wrap (a0_23.A - 1)) 1000) (a0_23.B == 0)
    else
      if (a0_23.Op == 5) = true then
        go_code_odd_j2 (go_code_within a0_23.A 16) (a0_23.B == 0)
      else
        if (a0_23.Op == 6) = true then
          go_code_odd_j2 (go_code_within a0_23.A 4) (a0_23.B == 0)
        else
          if (a0_23.Op == 7) = true then
            go_code_odd_j4 a0_23 (a0_23.Op == 7)
          else
            go_code_odd_j4 a0_23 (a0_23.Op == 8)

def go_code_odd (a0_23 : api_Instr) : Bool :=
  if (a0_23.Op == 1) = true then
    go_code_odd_j2 (go_code_within (IntKind.i64.wrap (a0_23.A - 1)) 100) (a0_23.B == 0)
  else
    if (a0_23.Op == 2) = true then
      go_code_odd_j2 (go_code_within a0_23.A 16) (go_code_within a0_23.B 4)
    else
      if (a0_23.Op == 3) = true then
        go_code_odd_j3 a0_23 (a0_23.Op == 3)
      else
        go_code_odd_j3 a0_23 (a0_23.Op == 9)

theorem go_code_odd_sc (a0_23 : api_Instr) (r : Bool) (h : go_code_odd a0_23 = r) : SC Try.prog gl 31 [V.agg [V.int .i64 a0_23.Op, V.int .i64 a0_23.A, V.int .i64 a0_23.B]] (V.bool r) := by
  rw [go_code_odd] at h
  refine SC.of E_good Try.func31 rfl (fun _ _ => Try.call31 _ _) rfl ?_
  repeat (first | refine Safe.seq ?_ | refine Safe.skip ?_ | with_reducible refine thenQ.n ?_ | with_reducible refine blockQ.n ?_)
  refine Safe.region ?_
  refine SafeOps.quiet1 E_good rfl rfl rfl (.box rfl rfl) rfl ?_
  refine SafeOps.quiet0 E_good rfl rfl rfl (v := V.bool false) (.fn rfl) ?_
  refine SafeOps.nil ?_
  repeat (first | refine Safe.seq ?_ | refine Safe.skip ?_ | with_reducible refine thenQ.n ?_ | with_reducible refine blockQ.n ?_)
  refine Safe.regionD (n := 8) [] [] E_good mixed rfl ?_
  refine DAny.take (i := 0) rfl (by kernel_rfl) [] (by kernel_rfl) (by kernel_rfl) (by kernel_rfl) rfl rfl rfl (v := V.ptr [1] 0 1) (fun _ hz => (.fn rfl)) ?_
  refine DAny.take (i := 1) rfl (by kernel_rfl) [] (by kernel_rfl) (by kernel_rfl) (by kernel_rfl) rfl rfl rfl (v := V.int .i64 a0_23.A) (fun _ hz => (.load rfl rfl (.box (hz _ _ rfl rfl) rfl) rfl)) ?_
  refine DAny.take (i := 2) rfl (by kernel_rfl) [] (by kernel_rfl) (by kernel_rfl) (by kernel_rfl) rfl rfl rfl (v := V.bool (a0_23.A == 0)) (fun _ hz => (.fn rfl)) ?_
  refine DAny.take (i := 3) rfl (by kernel_rfl) [] (by kernel_rfl) (by kernel_rfl) (by kernel_rfl) rfl rfl rfl (v := V.ptr [1] 0 2) (fun _ hz => (.fn rfl)) ?_
  refine DAny.take (i := 4) rfl (by kernel_rfl) [] (by kernel_rfl) (by kernel_rfl) (by kernel_rfl) rfl rfl rfl (v := V.int .i64 a0_23.B) (fun _ hz => (.load rfl rfl (.box (hz _ _ rfl rfl) rfl) rfl)) ?_
  refine DAny.take (i := 5) rfl (by kernel_rfl) [] (by kernel_rfl) (by kernel_rfl) (by kernel_rfl) rfl rfl rfl (v := V.bool (a0_23.B == 0)) (fun _ hz => (.fn rfl)) ?_
  refine DAny.take (i := 6) rfl (by kernel_rfl) [] (by kernel_rfl) (by kernel_rfl) (by kernel_rfl) rfl rfl rfl (v := V.bool (a0_23.A == 0)) (fun _ hz => (.fn rfl)) ?_
  refine DAny.take (i := 7) rfl (by kernel_rfl) [] (by kernel_rfl) (by kernel_rfl) (by kernel_rfl) rfl rfl rfl (v := V.bool (a0_23.B == 0)) (fun _ hz => (.fn rfl)) ?_
  refine DAny.nil (by kernel_rfl) ?_
  repeat (first | refine Safe.seq ?_ | refine Safe.skip ?_ | with_reducible refine thenQ.n ?_ | with_reducible refine blockQ.n ?_)
  refine Safe.region ?_
  refine SafeOps.quiet0 E_good rfl rfl rfl (v := V.ptr [1] 0 0) (.fn rfl) ?_
  refine SafeOps.quiet0 E_good rfl rfl rfl (v := V.int .i64 a0_23.Op) (.load rfl rfl (.box rfl rfl) rfl) ?_
  refine SafeOps.nil ?_
  repeat (first | refine Safe.seq ?_ | refine Safe.skip ?_ | with_reducible refine thenQ.n ?_ | with_reducible refine blockQ.n ?_)
  refine Safe.joinT (fun ((v3_71, v4_72) : Bool × Bool) => go_code_odd_j2 v3_71 v4_72 = r) (fun ((v3_71, v4_72) : Bool × Bool) => ⟨Try.f31.ntmps, [(3, V.bool v3_71), (4, V.bool v4_72)], [], [], []⟩) ?_ (fun HJ73 => ?_)
  · rintro ⟨v3_71, v4_72⟩ h
    replace h : go_code_odd_j2 v3_71 v4_72 = r := h
    rw [go_code_odd_j2] at h
    repeat (first | refine Safe.seq ?_ | refine Safe.skip ?_ | with_reducible refine thenQ.n ?_ | with_reducible refine blockQ.n ?_)
    refine Safe.region ?_
    refine SafeOps.quiet0 E_good rfl rfl rfl (v := V.bool v3_71) (.fn rfl) ?_
    refine SafeOps.quiet0 E_good rfl rfl rfl (v := V.bool (!v3_71)) (.fn rfl) ?_
    refine SafeOps.quiet0 E_good rfl rfl rfl (v := V.bool (!v3_71)) (.fn rfl) ?_
    refine SafeOps.bjoin 3 57 (b := ((!v3_71) || (!v4_72))) (b1 := true) (b0 := (!v4_72)) (fun hc74 K => ?_) (fun hc74 K => ?_) bj_or ?_
    · skip
      refine SafeOps.skip (congrArg (fun b => some (!b)) hc74) rfl rfl ?_
      refine SafeOps.skip (congrArg (fun b => some (!b)) hc74) rfl rfl ?_
      refine SafeOps.quiet0 E_good rfl rfl rfl (v := V.bool true) (.pickK rfl hc74 rfl) ?_
      exact SafeOps.drop' 3 rfl rfl rfl K
    · skip
      refine SafeOps.quiet0 E_good (congrArg (fun b => some (!b)) hc74) rfl rfl (v := V.bool v4_72) (.fn rfl) ?_
      refine SafeOps.quiet0 E_good (congrArg (fun b => some (!b)) hc74) rfl rfl (v := V.bool (!v4_72)) (.fn rfl) ?_
      refine SafeOps.quiet0 E_good rfl rfl rfl (v := V.bool (!v4_72)) (.pickK rfl hc74 rfl) ?_
      exact SafeOps.drop' 3 rfl rfl rfl K
    refine SafeOps.quiet0 E_good rfl rfl rfl (v := V.bool ((!v3_71) || (!v4_72))) (.fn rfl) ?_
    refine SafeOps.nil ?_
    repeat (first | refine Safe.seq ?_ | refine Safe.skip ?_ | with_reducible refine thenQ.n ?_ | with_reducible refine blockQ.n ?_)
    refine Safe.ret ?_
    repeat (first | with_reducible refine thenQ.r ?_ | with_reducible refine blockQ.r ?_)
    obtain rfl := h
    exact retQ.gen (vs := [V.bool ((!v3_71) || (!v4_72))]) rfl (.tmp (v := V.bool ((!v3_71) || (!v4_72))) rfl .nil) (.free rfl) (by simp) (.inr rfl)
  · skip
    refine Safe.block ?_
    repeat (first | refine Safe.seq ?_ | refine Safe.skip ?_ | with_reducible refine thenQ.n ?_ | with_reducible refine blockQ.n ?_)
    refine Safe.region ?_
    refine SafeOps.quiet0 E_good rfl rfl rfl (v := V.bool (a0_23.Op == 1)) (.fn rfl) ?_
    refine SafeOps.quiet0 E_good rfl rfl rfl (v := V.bool (a0_23.Op == 1)) (.fn rfl) ?_
    refine SafeOps.nil ?_
    repeat (first | refine Safe.seq ?_ | refine Safe.skip ?_ | with_reducible refine thenQ.n ?_ | with_reducible refine blockQ.n ?_)
    refine ifG h (fun hc75 h => ?_) (fun hc75 h => ?_)
    · skip
      refine Safe.condK rfl hc75 ?_
      repeat (first | refine Safe.seq ?_ | refine Safe.skip ?_ | with_reducible refine thenQ.n ?_ | with_reducible refine blockQ.n ?_)
      refine Safe.region ?_
      refine SafeOps.quiet0 E_good rfl rfl rfl (v := V.ptr [1] 0 1) (.fn rfl) ?_
      refine SafeOps.quiet0 E_good rfl rfl rfl (v := V.int .i64 a0_23.A) (.load rfl rfl (.box rfl rfl) rfl) ?_
      refine SafeOps.quiet0 E_good rfl rfl rfl (v := V.int .i64 (IntKind.i64.wrap (a0_23.A - 1))) (.fn rfl) ?_
      refine SafeOps.quiet0 E_good rfl rfl rfl (v := V.bool (go_code_within (IntKind.i64.wrap (a0_23.A - 1)) 100)) (.callP rfl rfl (go_code_within_sc (IntKind.i64.wrap (a0_23.A - 1)) 100 _ rfl) rfl) ?_
      refine SafeOps.quiet0 E_good rfl rfl rfl (v := V.bool (go_code_within (IntKind.i64.wrap (a0_23.A - 1)) 100)) (.fn rfl) ?_
      refine SafeOps.nil ?_
      repeat (first | refine Safe.skip ?_ | with_reducible refine thenQ.n ?_ | with_reducible refine blockQ.n ?_)
      exact Safe.got (HJ73 (go_code_within (IntKind.i64.wrap (a0_23.A - 1)) 100, (a0_23.B == 0)) h) (.cov ⟨rfl, rfl, (upT_cons (.refl _) (upT_cons (.refl _) upT_nil)), upOb_nil, upOut_nil, rfl⟩)
    · skip
      refine Safe.condN rfl hc75 ?_
      repeat (first | refine Safe.seq ?_ | refine Safe.skip ?_ | with_reducible refine thenQ.n ?_ | with_reducible refine blockQ.n ?_)
      refine Safe.region ?_
      refine SafeOps.quiet0 E_good rfl rfl rfl (v := V.bool (a0_23.Op == 2)) (.fn rfl) ?_
      refine SafeOps.quiet0 E_good rfl rfl rfl (v := V.bool (a0_23.Op == 2)) (.fn rfl) ?_
      refine SafeOps.nil ?_
      repeat (first | refine Safe.seq ?_ | refine Safe.skip ?_ | with_reducible refine thenQ.n ?_ | with_reducible refine blockQ.n ?_)
      refine ifG h (fun hc76 h => ?_) (fun hc76 h => ?_)
      · skip
        refine Safe.condK rfl hc76 ?_
        repeat (first | refine Safe.seq ?_ | refine Safe.skip ?_ | with_reducible refine thenQ.n ?_ | with_reducible refine blockQ.n ?_)
        refine Safe.regionD (n := 8) [] [] E_good mixed rfl ?_
        refine DAny.take (i := 0) rfl (by kernel_rfl) [] (by kernel_rfl) (by kernel_rfl) (by kernel_rfl) rfl rfl rfl (v := V.ptr [1] 0 1) (fun _ hz => (.fn rfl)) ?_
        refine DAny.take (i := 1) rfl (by kernel_rfl) [] (by kernel_rfl) (by kernel_rfl) (by kernel_rfl) rfl rfl rfl (v := V.int .i64 a0_23.A) (fun _ hz => (.load rfl rfl (.box (hz _ _ rfl rfl) rfl) rfl)) ?_
        refine DAny.take (i := 2) rfl (by kernel_rfl) [] (by kernel_rfl) (by kernel_rfl) (by kernel_rfl) rfl rfl rfl (v := V.bool (go_code_within a0_23.A 16)) (fun _ hz => (.callP rfl rfl (go_code_within_sc a0_23.A 16 _ rfl) rfl)) ?_
        refine DAny.take (i := 3) rfl (by kernel_rfl) [] (by kernel_rfl) (by kernel_rfl) (by kernel_rfl) rfl rfl rfl (v := V.ptr [1] 0 2) (fun _ hz => (.fn rfl)) ?_
        refine DAny.take (i := 4) rfl (by kernel_rfl) [] (by kernel_rfl) (by kernel_rfl) (by kernel_rfl) rfl rfl rfl (v := V.int .i64 a0_23.B) (fun _ hz => (.load rfl rfl (.box (hz _ _ rfl rfl) rfl) rfl)) ?_
        refine DAny.take (i := 5) rfl (by kernel_rfl) [] (by kernel_rfl) (by kernel_rfl) (by kernel_rfl) rfl rfl rfl (v := V.bool (go_code_within a0_23.B 4)) (fun _ hz => (.callP rfl rfl (go_code_within_sc a0_23.B 4 _ rfl) rfl)) ?_
        refine DAny.take (i := 6) rfl (by kernel_rfl) [] (by kernel_rfl) (by kernel_rfl) (by kernel_rfl) rfl rfl rfl (v := V.bool (go_code_within a0_23.A 16)) (fun _ hz => (.fn rfl)) ?_
        refine DAny.take (i := 7) rfl (by kernel_rfl) [] (by kernel_rfl) (by kernel_rfl) (by kernel_rfl) rfl rfl rfl (v := V.bool (go_code_within a0_23.B 4)) (fun _ hz => (.fn rfl)) ?_
        refine DAny.nil (by kernel_rfl) ?_
        repeat (first | refine Safe.skip ?_ | with_reducible refine thenQ.n ?_ | with_reducible refine blockQ.n ?_)
        exact Safe.got (HJ73 (go_code_within a0_23.A 16, go_code_within a0_23.B 4) h) (.cov ⟨rfl, rfl, (upT_cons (.refl _) (upT_cons (.refl _) upT_nil)), upOb_nil, upOut_nil, rfl⟩)
      · skip
        refine Safe.condN rfl hc76 ?_
        repeat (first | refine Safe.seq ?_ | refine Safe.skip ?_ | with_reducible refine thenQ.n ?_ | with_reducible refine blockQ.n ?_)
        refine Safe.region ?_
        refine SafeOps.quiet0 E_good rfl rfl rfl (v := V.bool (a0_23.Op == 3)) (.fn rfl) ?_
        refine SafeOps.quiet0 E_good rfl rfl rfl (v := V.bool (a0_23.Op == 3)) (.fn rfl) ?_
        refine SafeOps.nil ?_
        repeat (first | refine Safe.seq ?_ | refine Safe.skip ?_ | with_reducible refine thenQ.n ?_ | with_reducible refine blockQ.n ?_)
        refine Safe.joinT (fun (v27_77 : Bool) => go_code_odd_j3 a0_23 v27_77 = r) (fun (v27_77 : Bool) => ⟨Try.f31.ntmps, [(1, V.ptr [1] 0 0), (3, V.bool (a0_23.A == 0)), (4, V.bool (a0_23.B == 0)), (12, V.int .i64 a0_23.Op), (27, V.bool v27_77)], [([1], Obj.box [V.int .i64 a0_23.Op, V.int .i64 a0_23.A, V.int .i64 a0_23.B])], [], []⟩) ?_ (fun HJ78 => ?_)
        · intro v27_77 h
          replace h : go_code_odd_j3 a0_23 v27_77 = r := h
          rw [go_code_odd_j3] at h
          repeat (first | refine Safe.seq ?_ | refine Safe.skip ?_ | with_reducible refine thenQ.n ?_ | with_reducible refine blockQ.n ?_)
          refine ifG h (fun hc79 h => ?_) (fun hc79 h => ?_)
          · skip
            refine Safe.condK rfl hc79 ?_
            repeat (first | refine Safe.skip ?_ | with_reducible refine thenQ.n ?_ | with_reducible refine blockQ.n ?_)
            exact Safe.got (HJ73 ((a0_23.A == 0), (a0_23.B == 0)) h) (.cov ⟨rfl, rfl, (upT_cons (.refl _) (upT_cons (.refl _) upT_nil)), upOb_nil, upOut_nil, rfl⟩)
          · skip
            refine Safe.condN rfl hc79 ?_
            repeat (first | refine Safe.seq ?_ | refine Safe.skip ?_ | with_reducible refine thenQ.n ?_ | with_reducible refine blockQ.n ?_)
            refine Safe.region ?_
            refine SafeOps.quiet0 E_good rfl rfl rfl (v := V.bool (a0_23.Op == 4)) (.fn rfl) ?_
            refine SafeOps.quiet0 E_good rfl rfl rfl (v := V.bool (a0_23.Op == 4)) (.fn rfl) ?_
            refine SafeOps.nil ?_
            repeat (first | refine Safe.seq ?_ | refine Safe.skip ?_ | with_reducible refine thenQ.n ?_ | with_reducible refine blockQ.n ?_)
            refine ifG h (fun hc80 h => ?_) (fun hc80 h => ?_)
            · skip
              refine Safe.condK rfl hc80 ?_
              repeat (first | refine Safe.seq ?_ | refine Safe.skip ?_ | with_reducible refine thenQ.n ?_ | with_reducible refine blockQ.n ?_)
              refine Safe.region ?_
              refine SafeOps.quiet0 E_good rfl rfl rfl (v := V.ptr [1] 0 1) (.fn rfl) ?_
              refine SafeOps.quiet0 E_good rfl rfl rfl (v := V.int .i64 a0_23.A) (.load rfl rfl (.box rfl rfl) rfl) ?_
              refine SafeOps.quiet0 E_good rfl rfl rfl (v := V.int .i64 (IntKind.i64.wrap (a0_23.A - 1))) (.fn rfl) ?_
              refine SafeOps.quiet0 E_good rfl rfl rfl (v := V.bool (go_code_within (IntKind.i64.wrap (a0_23.A - 1)) 1000)) (.callP rfl rfl (go_code_within_sc (IntKind.i64.wrap (a0_23.A - 1)) 1000 _ rfl) rfl) ?_
              refine SafeOps.quiet0 E_good rfl rfl rfl (v := V.bool (go_code_within (IntKind.i64.wrap (a0_23.A - 1)) 1000)) (.fn rfl) ?_
              refine SafeOps.nil ?_
              repeat (first | refine Safe.skip ?_ | with_reducible refine thenQ.n ?_ | with_reducible refine blockQ.n ?_)
              exact Safe.got (HJ73 (go_code_within (IntKind.i64.wrap (a0_23.A - 1)) 1000, (a0_23.B == 0)) h) (.cov ⟨rfl, rfl, (upT_cons (.refl _) (upT_cons (.refl _) upT_nil)), upOb_nil, upOut_nil, rfl⟩)
            · skip
              refine Safe.condN rfl hc80 ?_
              repeat (first | refine Safe.seq ?_ | refine Safe.skip ?_ | with_reducible refine thenQ.n ?_ | with_reducible refine blockQ.n ?_)
              refine Safe.region ?_
              refine SafeOps.quiet0 E_good rfl rfl rfl (v := V.bool (a0_23.Op == 5)) (.fn rfl) ?_
              refine SafeOps.quiet0 E_good rfl rfl rfl (v := V.bool (a0_23.Op == 5)) (.fn rfl) ?_
              refine SafeOps.nil ?_
              repeat (first | refine Safe.seq ?_ | refine Safe.skip ?_ | with_reducible refine thenQ.n ?_ | with_reducible refine blockQ.n ?_)
              refine ifG h (fun hc81 h => ?_) (fun hc81 h => ?_)
              · skip
                refine Safe.condK rfl hc81 ?_
                repeat (first | refine Safe.seq ?_ | refine Safe.skip ?_ | with_reducible refine thenQ.n ?_ | with_reducible refine blockQ.n ?_)
                refine Safe.region ?_
                refine SafeOps.quiet0 E_good rfl rfl rfl (v := V.ptr [1] 0 1) (.fn rfl) ?_
                refine SafeOps.quiet0 E_good rfl rfl rfl (v := V.int .i64 a0_23.A) (.load rfl rfl (.box rfl rfl) rfl) ?_
                refine SafeOps.quiet0 E_good rfl rfl rfl (v := V.bool (go_code_within a0_23.A 16)) (.callP rfl rfl (go_code_within_sc a0_23.A 16 _ rfl) rfl) ?_
                refine SafeOps.quiet0 E_good rfl rfl rfl (v := V.bool (go_code_within a0_23.A 16)) (.fn rfl) ?_
                refine SafeOps.nil ?_
                repeat (first | refine Safe.skip ?_ | with_reducible refine thenQ.n ?_ | with_reducible refine blockQ.n ?_)
                exact Safe.got (HJ73 (go_code_within a0_23.A 16, (a0_23.B == 0)) h) (.cov ⟨rfl, rfl, (upT_cons (.refl _) (upT_cons (.refl _) upT_nil)), upOb_nil, upOut_nil, rfl⟩)
              · skip
                refine Safe.condN rfl hc81 ?_
                repeat (first | refine Safe.seq ?_ | refine Safe.skip ?_ | with_reducible refine thenQ.n ?_ | with_reducible refine blockQ.n ?_)
                refine Safe.region ?_
                refine SafeOps.quiet0 E_good rfl rfl rfl (v := V.bool (a0_23.Op == 6)) (.fn rfl) ?_
                refine SafeOps.quiet0 E_good rfl rfl rfl (v := V.bool (a0_23.Op == 6)) (.fn rfl) ?_
                refine SafeOps.nil ?_
                repeat (first | refine Safe.seq ?_ | refine Safe.skip ?_ | with_reducible refine thenQ.n ?_ | with_reducible refine blockQ.n ?_)
                refine ifG h (fun hc82 h => ?_) (fun hc82 h => ?_)
                · skip
                  refine Safe.condK rfl hc82 ?_
                  repeat (first | refine Safe.seq ?_ | refine Safe.skip ?_ | with_reducible refine thenQ.n ?_ | with_reducible refine blockQ.n ?_)
                  refine Safe.region ?_
                  refine SafeOps.quiet0 E_good rfl rfl rfl (v := V.ptr [1] 0 1) (.fn rfl) ?_
                  refine SafeOps.quiet0 E_good rfl rfl rfl (v := V.int .i64 a0_23.A) (.load rfl rfl (.box rfl rfl) rfl) ?_
                  refine SafeOps.quiet0 E_good rfl rfl rfl (v := V.bool (go_code_within a0_23.A 4)) (.callP rfl rfl (go_code_within_sc a0_23.A 4 _ rfl) rfl) ?_
                  refine SafeOps.quiet0 E_good rfl rfl rfl (v := V.bool (go_code_within a0_23.A 4)) (.fn rfl) ?_
                  refine SafeOps.nil ?_
                  repeat (first | refine Safe.skip ?_ | with_reducible refine thenQ.n ?_ | with_reducible refine blockQ.n ?_)
                  exact Safe.got (HJ73 (go_code_within a0_23.A 4, (a0_23.B == 0)) h) (.cov ⟨rfl, rfl, (upT_cons (.refl _) (upT_cons (.refl _) upT_nil)), upOb_nil, upOut_nil, rfl⟩)
                · skip
                  refine Safe.condN rfl hc82 ?_
                  repeat (first | refine Safe.seq ?_ | refine Safe.skip ?_ | with_reducible refine thenQ.n ?_ | with_reducible refine blockQ.n ?_)
                  refine Safe.region ?_
                  refine SafeOps.quiet0 E_good rfl rfl rfl (v := V.bool (a0_23.Op == 7)) (.fn rfl) ?_
                  refine SafeOps.quiet0 E_good rfl rfl rfl (v := V.bool (a0_23.Op == 7)) (.fn rfl) ?_
                  refine SafeOps.nil ?_
                  repeat (first | refine Safe.seq ?_ | refine Safe.skip ?_ | with_reducible refine thenQ.n ?_ | with_reducible refine blockQ.n ?_)
                  refine Safe.joinT (fun (v46_83 : Bool) => go_code_odd_j4 a0_23 v46_83 = r) (fun (v46_83 : Bool) => ⟨Try.f31.ntmps, [(1, V.ptr [1] 0 0), (4, V.bool (a0_23.B == 0)), (46, V.bool v46_83)], [([1], Obj.box [V.int .i64 a0_23.Op, V.int .i64 a0_23.A, V.int .i64 a0_23.B])], [], []⟩) ?_ (fun HJ84 => ?_)
                  · intro v46_83 h
                    replace h : go_code_odd_j4 a0_23 v46_83 = r := h
                    rw [go_code_odd_j4] at h
                    repeat (first | refine Safe.seq ?_ | refine Safe.skip ?_ | with_reducible refine thenQ.n ?_ | with_reducible refine blockQ.n ?_)
                    refine ifG h (fun hc85 h => ?_) (fun hc85 h => ?_)
                    · skip
                      refine Safe.condK rfl hc85 ?_
                      repeat (first | refine Safe.seq ?_ | refine Safe.skip ?_ | with_reducible refine thenQ.n ?_ | with_reducible refine blockQ.n ?_)
                      refine Safe.region ?_
                      refine SafeOps.quiet0 E_good rfl rfl rfl (v := V.ptr [1] 0 1) (.fn rfl) ?_
                      refine SafeOps.quiet0 E_good rfl rfl rfl (v := V.int .i64 a0_23.A) (.load rfl rfl (.box rfl rfl) rfl) ?_
                      refine SafeOps.quiet0 E_good rfl rfl rfl (v := V.bool (go_code_within a0_23.A 8)) (.callP rfl rfl (go_code_within_sc a0_23.A 8 _ rfl) rfl) ?_
                      refine SafeOps.quiet0 E_good rfl rfl rfl (v := V.bool (go_code_within a0_23.A 8)) (.fn rfl) ?_
                      refine SafeOps.nil ?_
                      repeat (first | refine Safe.skip ?_ | with_reducible refine thenQ.n ?_ | with_reducible refine blockQ.n ?_)
                      exact Safe.got (HJ73 (go_code_within a0_23.A 8, (a0_23.B == 0)) h) (.cov ⟨rfl, rfl, (upT_cons (.refl _) (upT_cons (.refl _) upT_nil)), upOb_nil, upOut_nil, rfl⟩)
                    · skip
                      refine Safe.condN rfl hc85 ?_
                      repeat (first | refine Safe.seq ?_ | refine Safe.skip ?_ | with_reducible refine thenQ.n ?_ | with_reducible refine blockQ.n ?_)
                      refine Safe.region ?_
                      refine SafeOps.quiet0 E_good rfl rfl rfl (v := V.bool true) (.fn rfl) ?_
                      refine SafeOps.nil ?_
                      repeat (first | refine Safe.seq ?_ | refine Safe.skip ?_ | with_reducible refine thenQ.n ?_ | with_reducible refine blockQ.n ?_)
                      refine Safe.ret ?_
                      repeat (first | with_reducible refine thenQ.r ?_ | with_reducible refine blockQ.r ?_)
                      obtain rfl := h
                      exact retQ.gen (vs := [V.bool true]) rfl (.tmp (v := V.bool true) rfl .nil) (.free rfl) (by simp) (.inr rfl)
                  · skip
                    refine ifG h (fun hc86 h => ?_) (fun hc86 h => ?_)
                    · skip
                      refine Safe.condK rfl hc86 ?_
                      repeat (first | refine Safe.skip ?_ | with_reducible refine thenQ.n ?_ | with_reducible refine blockQ.n ?_)
                      exact Safe.got (HJ84 ((a0_23.Op == 7)) h) (.cov ⟨rfl, rfl, (upT_cons (.refl _) (upT_cons (.refl _) (upT_cons (.refl _) upT_nil))), (upOb_cons rfl (.refl _) upOb_nil), upOut_nil, rfl⟩)
                    · skip
                      refine Safe.condN rfl hc86 ?_
                      repeat (first | refine Safe.seq ?_ | refine Safe.skip ?_ | with_reducible refine thenQ.n ?_ | with_reducible refine blockQ.n ?_)
                      refine Safe.region ?_
                      refine SafeOps.quiet0 E_good rfl rfl rfl (v := V.bool (a0_23.Op == 8)) (.fn rfl) ?_
                      refine SafeOps.quiet0 E_good rfl rfl rfl (v := V.bool (a0_23.Op == 8)) (.fn rfl) ?_
                      refine SafeOps.nil ?_
                      repeat (first | refine Safe.skip ?_ | with_reducible refine thenQ.n ?_ | with_reducible refine blockQ.n ?_)
                      exact Safe.got (HJ84 ((a0_23.Op == 8)) h) (.cov ⟨rfl, rfl, (upT_cons (.refl _) (upT_cons (.refl _) (upT_cons (.refl _) upT_nil))), (upOb_cons rfl (.refl _) upOb_nil), upOut_nil, rfl⟩)
        · skip
          refine ifG h (fun hc87 h => ?_) (fun hc87 h => ?_)
          · skip
            refine Safe.condK rfl hc87 ?_
            repeat (first | refine Safe.skip ?_ | with_reducible refine thenQ.n ?_ | with_reducible refine blockQ.n ?_)
            exact Safe.got (HJ78 ((a0_23.Op == 3)) h) (.cov ⟨rfl, rfl, (upT_cons (.refl _) (upT_cons (.refl _) (upT_cons (.refl _) (upT_cons (.refl _) (upT_cons (.refl _) upT_nil))))), (upOb_cons rfl (.refl _) upOb_nil), upOut_nil, rfl⟩)
          · skip
            refine Safe.condN rfl hc87 ?_
            repeat (first | refine Safe.seq ?_ | refine Safe.skip ?_ | with_reducible refine thenQ.n ?_ | with_reducible refine blockQ.n ?_)
            refine Safe.region ?_
            refine SafeOps.quiet0 E_good rfl rfl rfl (v := V.bool (a0_23.Op == 9)) (.fn rfl) ?_
            refine SafeOps.quiet0 E_good rfl rfl rfl (v := V.bool (a0_23.Op == 9)) (.fn rfl) ?_
            refine SafeOps.nil ?_
            repeat (first | refine Safe.skip ?_ | with_reducible refine thenQ.n ?_ | with_reducible refine blockQ.n ?_)
            exact Safe.got (HJ78 ((a0_23.Op == 9)) h) (.cov ⟨rfl, rfl, (upT_cons (.refl _) (upT_cons (.refl _) (upT_cons (.refl _) (upT_cons (.refl _) (upT_cons (.refl _) upT_nil))))), (upOb_cons rfl (.refl _) upOb_nil), upOut_nil, rfl⟩)

noncomputable def go_slices_IndexFunc_api_Instr_api_Instr_odd31_s1 (a0_19 : List api_Instr) : (Int) → Option ((Int) ⊕ (Int))
  | v8_105 =>
    if (decide (v8_105 < (a0_19.length : Int))) = true then
      if 0 ≤ v8_105 ∧ v8_105 < (a0_19.length : Int) then
        if (go_code_odd (gt a0_19 v8_105)) = true then
          inrO (
            some v8_105)
        else
          nextO (IntKind.i64.wrap (v8_105 + 1))
      else none
    else
      inrO (
        some (-1))

noncomputable def go_slices_IndexFunc_api_Instr_api_Instr_odd31 (a0_19 : List api_Instr) : Option Int :=
  whileO (go_slices_IndexFunc_api_Instr_api_Instr_odd31_s1 a0_19) 0

theorem go_slices_IndexFunc_api_Instr_api_Instr_odd31_sc (a0_19 : List api_Instr) (r : Int) (h : go_slices_IndexFunc_api_Instr_api_Instr_odd31 a0_19 = some r) : SC Try.prog gl 39 [V.sl 3 (rws api_Instr.cells a0_19), V.fn 31 []] (V.int .i64 r) := by
  rw [go_slices_IndexFunc_api_Instr_api_Instr_odd31] at h
  refine SC.of E_good Try.func39 rfl (fun _ _ => Try.call39 _ _) rfl ?_
  repeat (first | refine Safe.seq ?_ | refine Safe.skip ?_ | with_reducible refine thenQ.n ?_ | with_reducible refine blockQ.n ?_)
  refine Safe.region ?_
  refine SafeOps.quiet0 E_good rfl rfl rfl (v := V.int .i64 0) (.fn rfl) ?_
  refine SafeOps.nil ?_
  repeat (first | refine Safe.seq ?_ | refine Safe.skip ?_ | with_reducible refine thenQ.n ?_ | with_reducible refine blockQ.n ?_)
  refine Safe.region ?_
  refine SafeOps.quiet0 E_good rfl rfl rfl (v := V.sl 3 (rws api_Instr.cells a0_19)) (.fn rfl) ?_
  refine SafeOps.quiet0 E_good rfl rfl rfl (v := V.int .i64 (a0_19.length : Int)) (.fnE rfl lenE) ?_
  refine SafeOps.quiet0 E_good rfl rfl rfl (v := V.int .i64 0) (.fn rfl) ?_
  refine SafeOps.nil ?_
  repeat (first | refine Safe.seq ?_ | refine Safe.skip ?_ | with_reducible refine thenQ.n ?_ | with_reducible refine blockQ.n ?_)
  refine Safe.block ?_
  repeat (first | refine Safe.seq ?_ | refine Safe.skip ?_ | with_reducible refine thenQ.n ?_ | with_reducible refine blockQ.n ?_)
  refine Safe.loopW (fun (v8_105 : Int) => ⟨Try.f39.ntmps, [(0, V.sl 3 (rws api_Instr.cells a0_19)), (1, V.fn 31 []), (7, V.int .i64 (a0_19.length : Int)), (8, V.int .i64 v8_105)], [], [], []⟩) h (.cov ⟨rfl, rfl, (upT_cons (.refl _) (upT_cons (.refl _) (upT_cons (.refl _) (upT_cons (.refl _) upT_nil)))), upOb_nil, upOut_nil, rfl⟩) ?_
  intro v8_105 ohr106 h hr106
  replace h : go_slices_IndexFunc_api_Instr_api_Instr_odd31_s1 a0_19 v8_105 = some ohr106 := h
  rw [go_slices_IndexFunc_api_Instr_api_Instr_odd31_s1] at h
  repeat (first | refine Safe.seq ?_ | refine Safe.skip ?_ | with_reducible refine thenQ.n ?_ | with_reducible refine blockQ.n ?_)
  refine Safe.region ?_
  refine SafeOps.quiet0 E_good rfl rfl rfl (v := V.bool (decide (v8_105 < (a0_19.length : Int)))) (.fn rfl) ?_
  refine SafeOps.nil ?_
  repeat (first | refine Safe.seq ?_ | refine Safe.skip ?_ | with_reducible refine thenQ.n ?_ | with_reducible refine blockQ.n ?_)
  refine ifG h (fun hc107 h => ?_) (fun hc107 h => ?_)
  · skip
    refine Safe.condK rfl hc107 ?_
    repeat (first | refine Safe.seq ?_ | refine Safe.skip ?_ | with_reducible refine thenQ.n ?_ | with_reducible refine blockQ.n ?_)
    refine Safe.block ?_
    repeat (first | refine Safe.seq ?_ | refine Safe.skip ?_ | with_reducible refine thenQ.n ?_ | with_reducible refine blockQ.n ?_)
    refine Safe.region ?_
    refine SafeOps.quiet0 E_good rfl rfl rfl (v := V.int .i64 v8_105) (.fn rfl) ?_
    refine SafeOps.quiet0 E_good rfl rfl rfl (v := V.int .i64 v8_105) (.fn rfl) ?_
    refine SafeOps.nil ?_
    repeat (first | refine Safe.seq ?_ | refine Safe.skip ?_ | with_reducible refine thenQ.n ?_ | with_reducible refine blockQ.n ?_)
    refine Safe.region ?_
    refine SafeOps.quiet0 E_good rfl rfl rfl (v := V.fn 31 []) (.fn rfl) ?_
    refine SafeOps.quiet0 E_good rfl rfl rfl (v := V.sl 3 (rws api_Instr.cells a0_19)) (.fn rfl) ?_
    refine SafeOps.quiet0 E_good rfl rfl rfl (v := V.int .i64 v8_105) (.fn rfl) ?_
    refine okG h (fun hb108 h => ?_)
    refine SafeOps.quiet0 E_good rfl rfl rfl (v := V.spt 3 (rws api_Instr.cells a0_19) (Int.toNat v8_105) 0) (.idxSlM (f := api_Instr.cells) rfl rfl rfl rfl rfl hb108) ?_
    refine SafeOps.quiet0 E_good rfl rfl rfl (v := V.agg [V.int .i64 ((gt a0_19 v8_105).Op), V.int .i64 ((gt a0_19 v8_105).A), V.int .i64 ((gt a0_19 v8_105).B)]) (.load rfl rfl (.sptM (f := api_Instr.cells) hb108 rfl) rfl) ?_
    refine SafeOps.quiet0 E_good rfl rfl rfl (v := V.bool (go_code_odd (gt a0_19 v8_105))) (.callP rfl rfl (go_code_odd_sc (gt a0_19 v8_105) _ rfl) rfl) ?_
    refine SafeOps.nil ?_
    repeat (first | refine Safe.seq ?_ | refine Safe.skip ?_ | with_reducible refine thenQ.n ?_ | with_reducible refine blockQ.n ?_)
    refine ifG h (fun hc109 h => ?_) (fun hc109 h => ?_)
    · skip
      refine Safe.condK rfl hc109 ?_
      repeat (first | refine Safe.seq ?_ | refine Safe.skip ?_ | with_reducible refine thenQ.n ?_ | with_reducible refine blockQ.n ?_)
      refine Safe.region ?_
      refine SafeOps.quiet0 E_good rfl rfl rfl (v := V.int .i64 v8_105) (.fn rfl) ?_
      refine SafeOps.quiet0 E_good rfl rfl rfl (v := V.int .i64 v8_105) (.fn rfl) ?_
      refine SafeOps.nil ?_
      repeat (first | refine Safe.seq ?_ | refine Safe.skip ?_ | with_reducible refine thenQ.n ?_ | with_reducible refine blockQ.n ?_)
      refine Safe.ret ?_
      repeat (first | with_reducible refine thenQ.r ?_ | with_reducible refine blockQ.r ?_)
      replace h := inr_out h hr106
      obtain rfl := Option.some.inj h
      exact retQ.gen (vs := [V.int .i64 v8_105]) rfl (.tmp (v := V.int .i64 v8_105) rfl .nil) (.free rfl) (by simp) (.inr rfl)
    · skip
      refine Safe.condN rfl hc109 ?_
      repeat (first | refine Safe.seq ?_ | refine Safe.skip ?_ | with_reducible refine thenQ.n ?_ | with_reducible refine blockQ.n ?_)
      refine Safe.region ?_
      refine SafeOps.quiet0 E_good rfl rfl rfl (v := V.int .i64 (IntKind.i64.wrap (v8_105 + 1))) (.fn rfl) ?_
      refine SafeOps.quiet0 E_good rfl rfl rfl (v := V.int .i64 (IntKind.i64.wrap (v8_105 + 1))) (.fn rfl) ?_
      refine SafeOps.nil ?_
      repeat (first | refine Safe.seq ?_ | refine Safe.skip ?_ | with_reducible refine thenQ.n ?_ | with_reducible refine blockQ.n ?_)
      exact ⟨_, next_out h, (.cov ⟨rfl, rfl, (upT_cons (.refl _) (upT_cons (.refl _) (upT_cons (.refl _) (upT_cons (.refl _) upT_nil)))), upOb_nil, upOut_nil, rfl⟩)⟩
  · skip
    refine Safe.condN rfl hc107 ?_
    repeat (first | refine Safe.seq ?_ | refine Safe.skip ?_ | with_reducible refine thenQ.n ?_ | with_reducible refine blockQ.n ?_)
    refine Safe.exit ?_
    repeat (first | with_reducible refine thenQ.e ?_ | with_reducible refine blockQ.x rfl ?_ | with_reducible refine blockQ.y rfl ?_)
    replace h := inr_out h hr106
    repeat (first | refine Safe.seq ?_ | refine Safe.skip ?_ | with_reducible refine thenQ.n ?_ | with_reducible refine blockQ.n ?_)
    refine Safe.region ?_
    refine SafeOps.quiet0 E_good rfl rfl rfl (v := V.int .i64 (-1)) (.fn rfl) ?_
    refine SafeOps.nil ?_
    repeat (first | refine Safe.seq ?_ | refine Safe.skip ?_ | with_reducible refine thenQ.n ?_ | with_reducible refine blockQ.n ?_)
    refine Safe.ret ?_
    repeat (first | with_reducible refine thenQ.r ?_ | with_reducible refine blockQ.r ?_)
    obtain rfl := Option.some.inj h
    exact retQ.gen (vs := [V.int .i64 (-1)]) rfl (.tmp (v := V.int .i64 (-1)) rfl .nil) (.free rfl) (by simp) (.inr rfl)

noncomputable def go_slices_ContainsFunc_api_Instr_api_Instr_odd31 (a0_18 : List api_Instr) : Option Bool :=
  (go_slices_IndexFunc_api_Instr_api_Instr_odd31 a0_18).bind fun x_112 =>
  some (decide (x_112 ≥ 0))

theorem go_slices_ContainsFunc_api_Instr_api_Instr_odd31_sc (a0_18 : List api_Instr) (r : Bool) (h : go_slices_ContainsFunc_api_Instr_api_Instr_odd31 a0_18 = some r) : SC Try.prog gl 30 [V.sl 3 (rws api_Instr.cells a0_18), V.fn 31 []] (V.bool r) := by
  rw [go_slices_ContainsFunc_api_Instr_api_Instr_odd31] at h
  refine SC.of E_good Try.func30 rfl (fun _ _ => Try.call30 _ _) rfl ?_
  repeat (first | refine Safe.seq ?_ | refine Safe.skip ?_ | with_reducible refine thenQ.n ?_ | with_reducible refine blockQ.n ?_)
  refine Safe.region ?_
  refine SafeOps.quiet0 E_good rfl rfl rfl (v := V.bool false) (.fn rfl) ?_
  refine SafeOps.nil ?_
  repeat (first | refine Safe.seq ?_ | refine Safe.skip ?_ | with_reducible refine thenQ.n ?_ | with_reducible refine blockQ.n ?_)
  refine Safe.region ?_
  refine SafeOps.quiet0 E_good rfl rfl rfl (v := V.sl 3 (rws api_Instr.cells a0_18)) (.fn rfl) ?_
  refine SafeOps.quiet0 E_good rfl rfl rfl (v := V.fn 31 []) (.fn rfl) ?_
  refine bindG h ?_
  intro x_112 he113 h
  refine SafeOps.quiet0 E_good rfl rfl rfl (v := V.int .i64 x_112) (.callP rfl rfl (go_slices_IndexFunc_api_Instr_api_Instr_odd31_sc a0_18 _ he113) rfl) ?_
  refine SafeOps.quiet0 E_good rfl rfl rfl (v := V.bool (decide (x_112 ≥ 0))) (.fn rfl) ?_
  refine SafeOps.quiet0 E_good rfl rfl rfl (v := V.bool (decide (x_112 ≥ 0))) (.fn rfl) ?_
  refine SafeOps.nil ?_
  repeat (first | refine Safe.seq ?_ | refine Safe.skip ?_ | with_reducible refine thenQ.n ?_ | with_reducible refine blockQ.n ?_)
  refine Safe.ret ?_
  repeat (first | with_reducible refine thenQ.r ?_ | with_reducible refine blockQ.r ?_)
  obtain rfl := Option.some.inj h
  exact retQ.gen (vs := [V.bool (decide (x_112 ≥ 0))]) rfl (.tmp (v := V.bool (decide (x_112 ≥ 0))) rfl .nil) (.free rfl) (by simp) (.inr rfl)

noncomputable def go_code_Check (a0_15 : List api_Instr) : Option Int :=
  if ((decide ((a0_15.length : Int) < 1)) || (decide ((a0_15.length : Int) > 32))) = true then
    some 1
  else
    (go_slices_ContainsFunc_api_Instr_api_Instr_odd31 a0_15).bind fun x_128 =>
    if x_128 = true then
      some 1
    else
      some 0

theorem go_code_Check_sc (a0_15 : List api_Instr) (r : Int) (h : go_code_Check a0_15 = some r) : SC Try.prog gl 15 [V.sl 3 (rws api_Instr.cells a0_15)] (V.int .i64 r) := by
  rw [go_code_Check] at h
  refine SC.of E_good Try.func15 rfl (fun _ _ => Try.call15 _ _) rfl ?_
  repeat (first | refine Safe.seq ?_ | refine Safe.skip ?_ | with_reducible refine thenQ.n ?_ | with_reducible refine blockQ.n ?_)
  refine Safe.region ?_
  refine SafeOps.quiet0 E_good rfl rfl rfl (v := V.int .i64 0) (.fn rfl) ?_
  refine SafeOps.nil ?_
  repeat (first | refine Safe.seq ?_ | refine Safe.skip ?_ | with_reducible refine thenQ.n ?_ | with_reducible refine blockQ.n ?_)
  refine Safe.region ?_
  refine SafeOps.quiet0 E_good rfl rfl rfl (v := V.sl 3 (rws api_Instr.cells a0_15)) (.fn rfl) ?_
  refine SafeOps.quiet0 E_good rfl rfl rfl (v := V.int .i64 (a0_15.length : Int)) (.fnE rfl lenE) ?_
  refine SafeOps.quiet0 E_good rfl rfl rfl (v := V.bool (decide ((a0_15.length : Int) < 1))) (.fn rfl) ?_
  refine SafeOps.quiet0 E_good rfl rfl rfl (v := V.bool (decide ((a0_15.length : Int) < 1))) (.fn rfl) ?_
  refine SafeOps.bjoin 4 10 (b := ((decide ((a0_15.length : Int) < 1)) || (decide ((a0_15.length : Int) > 32)))) (b1 := true) (b0 := decide ((a0_15.length : Int) > 32)) (fun hc124 K => ?_) (fun hc124 K => ?_) bj_or ?_
  · skip
    refine SafeOps.skip (congrArg (fun b => some (!b)) hc124) rfl rfl ?_
    refine SafeOps.skip (congrArg (fun b => some (!b)) hc124) rfl rfl ?_
    refine SafeOps.skip (congrArg (fun b => some (!b)) hc124) rfl rfl ?_
    refine SafeOps.quiet0 E_good rfl rfl rfl (v := V.bool true) (.pickK rfl hc124 rfl) ?_
    exact SafeOps.drop' 4 rfl rfl rfl K
  · skip
    refine SafeOps.quiet0 E_good (congrArg (fun b => some (!b)) hc124) rfl rfl (v := V.sl 3 (rws api_Instr.cells a0_15)) (.fn rfl) ?_
    refine SafeOps.quiet0 E_good (congrArg (fun b => some (!b)) hc124) rfl rfl (v := V.int .i64 (a0_15.length : Int)) (.fnE rfl lenE) ?_
    refine SafeOps.quiet0 E_good (congrArg (fun b => some (!b)) hc124) rfl rfl (v := V.bool (decide ((a0_15.length : Int) > 32))) (.fn rfl) ?_
    refine SafeOps.quiet0 E_good rfl rfl rfl (v := V.bool (decide ((a0_15.length : Int) > 32))) (.pickK rfl hc124 rfl) ?_
    exact SafeOps.drop' 4 rfl rfl rfl K
  refine SafeOps.quiet0 E_good rfl rfl rfl (v := V.bool ((decide ((a0_15.length : Int) < 1)) || (decide ((a0_15.length : Int) > 32)))) (.fn rfl) ?_
  refine ifG h (fun hc125 h => ?_) (fun hc125 h => ?_)
  · skip
    refine SafeOps.skip (congrArg (fun b => some (!b)) hc125) rfl rfl ?_
    refine SafeOps.skip (congrArg (fun b => some (!b)) hc125) rfl rfl ?_
    refine SafeOps.quiet0 E_good rfl rfl rfl (v := V.bool true) (.pickK rfl hc125 rfl) ?_
    refine SafeOps.nil ?_
    repeat (first | refine Safe.seq ?_ | refine Safe.skip ?_ | with_reducible refine thenQ.n ?_ | with_reducible refine blockQ.n ?_)
    refine Safe.condK rfl rfl ?_
    repeat (first | refine Safe.seq ?_ | refine Safe.skip ?_ | with_reducible refine thenQ.n ?_ | with_reducible refine blockQ.n ?_)
    refine Safe.region ?_
    refine SafeOps.quiet0 E_good rfl rfl rfl (v := V.int .i64 1) (.fn rfl) ?_
    refine SafeOps.nil ?_
    repeat (first | refine Safe.seq ?_ | refine Safe.skip ?_ | with_reducible refine thenQ.n ?_ | with_reducible refine blockQ.n ?_)
    refine Safe.ret ?_
    repeat (first | with_reducible refine thenQ.r ?_ | with_reducible refine blockQ.r ?_)
    obtain rfl := Option.some.inj h
    exact retQ.gen (vs := [V.int .i64 1]) rfl (.tmp (v := V.int .i64 1) rfl .nil) (.free rfl) (by simp) (.inr rfl)
  · skip
    refine SafeOps.quiet0 E_good (congrArg (fun b => some (!b)) hc125) rfl rfl (v := V.sl 3 (rws api_Instr.cells a0_15)) (.fn rfl) ?_
    refine bindG h ?_
    intro x_128 he129 h
    refine SafeOps.quiet0 E_good (congrArg (fun b => some (!b)) hc125) rfl rfl (v := V.bool x_128) (.callP rfl rfl (go_slices_ContainsFunc_api_Instr_api_Instr_odd31_sc a0_15 _ he129) rfl) ?_
    refine SafeOps.quiet0 E_good rfl rfl rfl (v := V.bool x_128) (.pickK rfl hc125 rfl) ?_
    refine SafeOps.nil ?_
    repeat (first | refine Safe.seq ?_ | refine Safe.skip ?_ | with_reducible refine thenQ.n ?_ | with_reducible refine blockQ.n ?_)
    refine ifG h (fun hc130 h => ?_) (fun hc130 h => ?_)
    · skip
      refine Safe.condK rfl hc130 ?_
      repeat (first | refine Safe.seq ?_ | refine Safe.skip ?_ | with_reducible refine thenQ.n ?_ | with_reducible refine blockQ.n ?_)
      refine Safe.region ?_
      refine SafeOps.quiet0 E_good rfl rfl rfl (v := V.int .i64 1) (.fn rfl) ?_
      refine SafeOps.nil ?_
      repeat (first | refine Safe.seq ?_ | refine Safe.skip ?_ | with_reducible refine thenQ.n ?_ | with_reducible refine blockQ.n ?_)
      refine Safe.ret ?_
      repeat (first | with_reducible refine thenQ.r ?_ | with_reducible refine blockQ.r ?_)
      obtain rfl := Option.some.inj h
      exact retQ.gen (vs := [V.int .i64 1]) rfl (.tmp (v := V.int .i64 1) rfl .nil) (.free rfl) (by simp) (.inr rfl)
    · skip
      refine Safe.condN rfl hc130 ?_
      repeat (first | refine Safe.seq ?_ | refine Safe.skip ?_ | with_reducible refine thenQ.n ?_ | with_reducible refine blockQ.n ?_)
      refine Safe.region ?_
      refine SafeOps.quiet0 E_good rfl rfl rfl (v := V.int .i64 0) (.fn rfl) ?_
      refine SafeOps.nil ?_
      repeat (first | refine Safe.seq ?_ | refine Safe.skip ?_ | with_reducible refine thenQ.n ?_ | with_reducible refine blockQ.n ?_)
      refine Safe.ret ?_
      repeat (first | with_reducible refine thenQ.r ?_ | with_reducible refine blockQ.r ?_)
      obtain rfl := Option.some.inj h
      exact retQ.gen (vs := [V.int .i64 0]) rfl (.tmp (v := V.int .i64 0) rfl .nil) (.free rfl) (by simp) (.inr rfl)

noncomputable def go_code_CheckAll_s4 (a0_5 : List (List api_Instr)) (v17_315 : Int) : (Int) → Option ((Int) ⊕ ((Int) ⊕ (Int)))
  | v8_346 =>
    if (decide (v8_346 < ((gt a0_5 v17_315).length : Int))) = true then
      if 0 ≤ v8_346 ∧ v8_346 < ((gt a0_5 v17_315).length : Int) then
        if ((((gt (gt a0_5 v17_315) v8_346).Op) == 2) && (decide (((gt (gt a0_5 v17_315) v8_346).A) ≥ (a0_5.length : Int)))) = true then
          inrO (
            if (decide (v8_346 ≥ 0)) = true then
              inrO (
                some 1)
            else
              nextO (IntKind.i64.wrap (v17_315 + 1)))
        else
          nextO (IntKind.i64.wrap (v8_346 + 1))
      else none
    else
      inrO (
        nextO (IntKind.i64.wrap (v17_315 + 1)))

noncomputable def go_code_CheckAll_s3 (a0_5 : List (List api_Instr)) : (Int) → Option ((Int) ⊕ (Int))
  | v17_315 =>
    if (decide (v17_315 < (a0_5.length : Int))) = true then
      if 0 ≤ v17_315 ∧ v17_315 < (a0_5.length : Int) then
        (go_code_Check (gt a0_5 v17_315)).bind fun x_319 =>
        if (x_319 != 0) = true then
          inrO (
            some 1)
        else
          whileO (go_code_CheckAll_s4 a0_5 v17_315) 0
      else none
    else
      inrO (
        some 0)

noncomputable def go_code_CheckAll (a0_5 : List (List api_Instr)) : Option Int :=
  if ((decide ((a0_5.length : Int) < 1)) || (decide ((a0_5.length : Int) > 16))) = true then
    some 1
  else
    whileO (go_code_CheckAll_s3 a0_5) 0

theorem go_code_CheckAll_sc (a0_5 : List (List api_Instr)) (r : Int) (h : go_code_CheckAll a0_5 = some r) : SC Try.prog gl 13 [V.sl 1 (rws (fun l => [V.sl 3 (rws api_Instr.cells l)]) a0_5)] (V.int .i64 r) := by
  rw [go_code_CheckAll] at h
  refine SC.of E_good Try.func13 rfl (fun _ _ => Try.call13 _ _) rfl ?_
  repeat (first | refine Safe.seq ?_ | refine Safe.skip ?_ | with_reducible refine thenQ.n ?_ | with_reducible refine blockQ.n ?_)
  refine Safe.region ?_
  refine SafeOps.quiet1 E_good rfl rfl rfl (.box rfl rfl) rfl ?_
  refine SafeOps.quiet0 E_good rfl rfl rfl (v := V.int .i64 0) (.fn rfl) ?_
  refine SafeOps.nil ?_
  repeat (first | refine Safe.seq ?_ | refine Safe.skip ?_ | with_reducible refine thenQ.n ?_ | with_reducible refine blockQ.n ?_)
  refine Safe.region ?_
  refine SafeOps.quiet0 E_good rfl rfl rfl (v := V.sl 1 (rws (fun l => [V.sl 3 (rws api_Instr.cells l)]) a0_5)) (.load rfl rfl (.box rfl rfl) rfl) ?_
  refine SafeOps.quiet0 E_good rfl rfl rfl (v := V.int .i64 (a0_5.length : Int)) (.fnE rfl lenE) ?_
  refine SafeOps.quiet0 E_good rfl rfl rfl (v := V.bool (decide ((a0_5.length : Int) < 1))) (.fn rfl) ?_
  refine SafeOps.quiet0 E_good rfl rfl rfl (v := V.bool (decide ((a0_5.length : Int) < 1))) (.fn rfl) ?_
  refine SafeOps.bjoin 4 13 (b := ((decide ((a0_5.length : Int) < 1)) || (decide ((a0_5.length : Int) > 16)))) (b1 := true) (b0 := decide ((a0_5.length : Int) > 16)) (fun hc240 K => ?_) (fun hc240 K => ?_) bj_or ?_
  · skip
    refine SafeOps.skip (congrArg (fun b => some (!b)) hc240) rfl rfl ?_
    refine SafeOps.skip (congrArg (fun b => some (!b)) hc240) rfl rfl ?_
    refine SafeOps.skip (congrArg (fun b => some (!b)) hc240) rfl rfl ?_
    refine SafeOps.quiet0 E_good rfl rfl rfl (v := V.bool true) (.pickK rfl hc240 rfl) ?_
    exact SafeOps.drop' 4 rfl rfl rfl K
  · skip
    refine SafeOps.quiet0 E_good (congrArg (fun b => some (!b)) hc240) rfl rfl (v := V.sl 1 (rws (fun l => [V.sl 3 (rws api_Instr.cells l)]) a0_5)) (.load rfl rfl (.box rfl rfl) rfl) ?_
    refine SafeOps.quiet0 E_good (congrArg (fun b => some (!b)) hc240) rfl rfl (v := V.int .i64 (a0_5.length : Int)) (.fnE rfl lenE) ?_
    refine SafeOps.quiet0 E_good (congrArg (fun b => some (!b)) hc240) rfl rfl (v := V.bool (decide ((a0_5.length : Int) > 16))) (.fn rfl) ?_
    refine SafeOps.quiet0 E_good rfl rfl rfl (v := V.bool (decide ((a0_5.length : Int) > 16))) (.pickK rfl hc240 rfl) ?_
    exact SafeOps.drop' 4 rfl rfl rfl K
  refine SafeOps.nil ?_
  repeat (first | refine Safe.seq ?_ | refine Safe.skip ?_ | with_reducible refine thenQ.n ?_ | with_reducible refine blockQ.n ?_)
  refine ifG h (fun hc241 h => ?_) (fun hc241 h => ?_)
  · skip
    refine Safe.condK rfl hc241 ?_
    repeat (first | refine Safe.seq ?_ | refine Safe.skip ?_ | with_reducible refine thenQ.n ?_ | with_reducible refine blockQ.n ?_)
    refine Safe.region ?_
    refine SafeOps.quiet0 E_good rfl rfl rfl (v := V.int .i64 1) (.fn rfl) ?_
    refine SafeOps.nil ?_
    repeat (first | refine Safe.seq ?_ | refine Safe.skip ?_ | with_reducible refine thenQ.n ?_ | with_reducible refine blockQ.n ?_)
    refine Safe.ret ?_
    repeat (first | with_reducible refine thenQ.r ?_ | with_reducible refine blockQ.r ?_)
    obtain rfl := Option.some.inj h
    exact retQ.gen (vs := [V.int .i64 1]) rfl (.tmp (v := V.int .i64 1) rfl .nil) (.free rfl) (by simp) (.inr rfl)
  · skip
    refine Safe.condN rfl hc241 ?_
    repeat (first | refine Safe.seq ?_ | refine Safe.skip ?_ | with_reducible refine thenQ.n ?_ | with_reducible refine blockQ.n ?_)
    refine Safe.region ?_
    refine SafeOps.quiet0 E_good rfl rfl rfl (v := V.fn 29 [V.ptr [1] 0 0]) (.fn rfl) ?_
    refine SafeOps.quiet0 E_good rfl rfl rfl (v := V.fn 29 [V.ptr [1] 0 0]) (.fn rfl) ?_
    refine SafeOps.nil ?_
    repeat (first | refine Safe.seq ?_ | refine Safe.skip ?_ | with_reducible refine thenQ.n ?_ | with_reducible refine blockQ.n ?_)
    refine Safe.region ?_
    refine SafeOps.quiet0 E_good rfl rfl rfl (v := V.sl 1 (rws (fun l => [V.sl 3 (rws api_Instr.cells l)]) a0_5)) (.load rfl rfl (.box rfl rfl) rfl) ?_
    refine SafeOps.quiet0 E_good rfl rfl rfl (v := V.int .i64 (a0_5.length : Int)) (.fnE rfl lenE) ?_
    refine SafeOps.quiet0 E_good rfl rfl rfl (v := V.int .i64 0) (.fn rfl) ?_
    refine SafeOps.nil ?_
    repeat (first | refine Safe.seq ?_ | refine Safe.skip ?_ | with_reducible refine thenQ.n ?_ | with_reducible refine blockQ.n ?_)
    refine Safe.block ?_
    repeat (first | refine Safe.seq ?_ | refine Safe.skip ?_ | with_reducible refine thenQ.n ?_ | with_reducible refine blockQ.n ?_)
    refine Safe.loopW (fun (v17_315 : Int) => ⟨Try.f13.ntmps, [(3, V.fn 29 [V.ptr [1] 0 0]), (15, V.sl 1 (rws (fun l => [V.sl 3 (rws api_Instr.cells l)]) a0_5)), (16, V.int .i64 (a0_5.length : Int)), (17, V.int .i64 v17_315)], [([1], Obj.box [V.sl 1 (rws (fun l => [V.sl 3 (rws api_Instr.cells l)]) a0_5)])], [], []⟩) h (.cov ⟨rfl, rfl, (upT_cons (.refl _) (upT_cons (.refl _) (upT_cons (.refl _) (upT_cons (.refl _) upT_nil)))), (upOb_cons rfl (.refl _) upOb_nil), upOut_nil, rfl⟩) ?_
    intro v17_315 ohr316 h hr316
    replace h : go_code_CheckAll_s3 a0_5 v17_315 = some ohr316 := h
    rw [go_code_CheckAll_s3] at h
    repeat (first | refine Safe.seq ?_ | refine Safe.skip ?_ | with_reducible refine thenQ.n ?_ | with_reducible refine blockQ.n ?_)
    refine Safe.region ?_
    refine SafeOps.quiet0 E_good rfl rfl rfl (v := V.bool (decide (v17_315 < (a0_5.length : Int)))) (.fn rfl) ?_
    refine SafeOps.nil ?_
    repeat (first | refine Safe.seq ?_ | refine Safe.skip ?_ | with_reducible refine thenQ.n ?_ | with_reducible refine blockQ.n ?_)
    refine ifG h (fun hc317 h => ?_) (fun hc317 h => ?_)
    · skip
      refine Safe.condK rfl hc317 ?_
      repeat (first | refine Safe.seq ?_ | refine Safe.skip ?_ | with_reducible refine thenQ.n ?_ | with_reducible refine blockQ.n ?_)
      refine Safe.block ?_
      repeat (first | refine Safe.seq ?_ | refine Safe.skip ?_ | with_reducible refine thenQ.n ?_ | with_reducible refine blockQ.n ?_)
      refine Safe.region ?_
      refine okG h (fun hb318 h => ?_)
      refine SafeOps.quiet0 E_good rfl rfl rfl (v := V.spt 1 (rws (fun l => [V.sl 3 (rws api_Instr.cells l)]) a0_5) (Int.toNat v17_315) 0) (.idxSlM (f := (fun l => [V.sl 3 (rws api_Instr.cells l)])) rfl rfl rfl rfl rfl hb318) ?_
      refine SafeOps.quiet0 E_good rfl rfl rfl (v := V.sl 3 (rws api_Instr.cells (gt a0_5 v17_315))) (.load rfl rfl (.sptM (f := (fun l => [V.sl 3 (rws api_Instr.cells l)])) hb318 rfl) rfl) ?_
      refine SafeOps.quiet0 E_good rfl rfl rfl (v := V.sl 3 (rws api_Instr.cells (gt a0_5 v17_315))) (.fn rfl) ?_
      refine SafeOps.nil ?_
      repeat (first | refine Safe.seq ?_ | refine Safe.skip ?_ | with_reducible refine thenQ.n ?_ | with_reducible refine blockQ.n ?_)
      refine Safe.region ?_
      refine SafeOps.quiet0 E_good rfl rfl rfl (v := V.sl 3 (rws api_Instr.cells (gt a0_5 v17_315))) (.fn rfl) ?_
      refine bindG h ?_
      intro x_319 he320 h
      refine SafeOps.quiet0 E_good rfl rfl rfl (v := V.int .i64 x_319) (.callP rfl rfl (go_code_Check_sc (gt a0_5 v17_315) _ he320) rfl) ?_
      refine SafeOps.quiet0 E_good rfl rfl rfl (v := V.bool (x_319 != 0)) (.fn rfl) ?_
      refine SafeOps.quiet0 E_good rfl rfl rfl (v := V.bool (x_319 != 0)) (.fn rfl) ?_
      refine ifG h (fun hc321 h => ?_) (fun hc321 h => ?_)
      · skip
        refine SafeOps.skip (congrArg (fun b => some (!b)) hc321) rfl rfl ?_
        refine SafeOps.skip (congrArg (fun b => some (!b)) hc321) rfl rfl ?_
        refine SafeOps.skip (congrArg (fun b => some (!b)) hc321) rfl rfl ?_
        refine SafeOps.quiet0 E_good rfl rfl rfl (v := V.bool true) (.pickK rfl hc321 rfl) ?_
        refine SafeOps.nil ?_
        repeat (first | refine Safe.seq ?_ | refine Safe.skip ?_ | with_reducible refine thenQ.n ?_ | with_reducible refine blockQ.n ?_)
        refine Safe.condK rfl rfl ?_
        repeat (first | refine Safe.seq ?_ | refine Safe.skip ?_ | with_reducible refine thenQ.n ?_ | with_reducible refine blockQ.n ?_)
        refine Safe.region ?_
        refine SafeOps.quiet0 E_good rfl rfl rfl (v := V.int .i64 1) (.fn rfl) ?_
        refine SafeOps.nil ?_
        repeat (first | refine Safe.seq ?_ | refine Safe.skip ?_ | with_reducible refine thenQ.n ?_ | with_reducible refine blockQ.n ?_)
        refine Safe.ret ?_
        repeat (first | with_reducible refine thenQ.r ?_ | with_reducible refine blockQ.r ?_)
        replace h := inr_out h hr316
        obtain rfl := Option.some.inj h
        exact retQ.gen (vs := [V.int .i64 1]) rfl (.tmp (v := V.int .i64 1) rfl .nil) (.free rfl) (by simp) (.inr rfl)
      · skip
        refine SafeOps.quiet0 E_good (congrArg (fun b => some (!b)) hc321) rfl rfl (v := V.sl 3 (rws api_Instr.cells (gt a0_5 v17_315))) (.fn rfl) ?_
        refine SafeOps.quiet0 E_good (congrArg (fun b => some (!b)) hc321) rfl rfl (v := V.fn 29 [V.ptr [1] 0 0]) (.fn rfl) ?_
        refine SafeOps.inline E_good (congrArg (fun b => some (!b)) hc321) rfl rfl rfl rfl Try.func30 rfl (fun _ _ => Try.call30 _ _) rfl ?_
        repeat (first | refine Safe.seq ?_ | refine Safe.skip ?_ | with_reducible refine thenQ.n ?_ | with_reducible refine blockQ.n ?_)
        refine Safe.region ?_
        refine SafeOps.quiet0 E_good rfl rfl rfl (v := V.bool false) (.fn rfl) ?_
        refine SafeOps.nil ?_
        repeat (first | refine Safe.seq ?_ | refine Safe.skip ?_ | with_reducible refine thenQ.n ?_ | with_reducible refine blockQ.n ?_)
        refine Safe.region ?_
        refine SafeOps.quiet0 E_good rfl rfl rfl (v := V.sl 3 (rws api_Instr.cells (gt a0_5 v17_315))) (.fn rfl) ?_
        refine SafeOps.quiet0 E_good rfl rfl rfl (v := V.fn 29 [V.ptr [1] 0 0]) (.fn rfl) ?_
        refine SafeOps.inline E_good rfl rfl rfl rfl rfl Try.func39 rfl (fun _ _ => Try.call39 _ _) rfl ?_
        repeat (first | refine Safe.seq ?_ | refine Safe.skip ?_ | with_reducible refine thenQ.n ?_ | with_reducible refine blockQ.n ?_)
        refine Safe.region ?_
        refine SafeOps.quiet0 E_good rfl rfl rfl (v := V.int .i64 0) (.fn rfl) ?_
        refine SafeOps.nil ?_
        repeat (first | refine Safe.seq ?_ | refine Safe.skip ?_ | with_reducible refine thenQ.n ?_ | with_reducible refine blockQ.n ?_)
        refine Safe.region ?_
        refine SafeOps.quiet0 E_good rfl rfl rfl (v := V.sl 3 (rws api_Instr.cells (gt a0_5 v17_315))) (.fn rfl) ?_
        refine SafeOps.quiet0 E_good rfl rfl rfl (v := V.int .i64 ((gt a0_5 v17_315).length : Int)) (.fnE rfl lenE) ?_
        refine SafeOps.quiet0 E_good rfl rfl rfl (v := V.int .i64 0) (.fn rfl) ?_
        refine SafeOps.nil ?_
        repeat (first | refine Safe.seq ?_ | refine Safe.skip ?_ | with_reducible refine thenQ.n ?_ | with_reducible refine blockQ.n ?_)
        refine Safe.block ?_
        repeat (first | refine Safe.seq ?_ | refine Safe.skip ?_ | with_reducible refine thenQ.n ?_ | with_reducible refine blockQ.n ?_)
        refine Safe.loopW (fun (v8_346 : Int) => ⟨Try.f39.ntmps, [(0, V.sl 3 (rws api_Instr.cells (gt a0_5 v17_315))), (1, V.fn 29 [V.ptr [1] 0 0]), (7, V.int .i64 ((gt a0_5 v17_315).length : Int)), (8, V.int .i64 v8_346)], [([1], Obj.box [V.sl 1 (rws (fun l => [V.sl 3 (rws api_Instr.cells l)]) a0_5)])], [(Try.f30.ntmps, []), (Try.f13.ntmps, [(3, V.fn 29 [V.ptr [1] 0 0]), (15, V.sl 1 (rws (fun l => [V.sl 3 (rws api_Instr.cells l)]) a0_5)), (16, V.int .i64 (a0_5.length : Int)), (17, V.int .i64 v17_315), (24, V.bool (x_319 != 0)), (25, V.sl 3 (rws api_Instr.cells (gt a0_5 v17_315))), (26, V.fn 29 [V.ptr [1] 0 0])])], [27, 7]⟩) h (.cov ⟨rfl, rfl, (upT_cons (.refl _) (upT_cons (.refl _) (upT_cons (.refl _) (upT_cons (.refl _) upT_nil)))), (upOb_cons rfl (.refl _) upOb_nil), (upOut_cons rfl upT_nil (upOut_cons rfl (upT_cons (.refl _) (upT_cons (.refl _) (upT_cons (.refl _) (upT_cons (.refl _) (upT_cons (.refl _) (upT_cons (.refl _) (upT_cons (.refl _) upT_nil))))))) upOut_nil)), rfl⟩) ?_
        intro v8_346 ohr347 h hr347
        replace h : go_code_CheckAll_s4 a0_5 v17_315 v8_346 = some ohr347 := h
        rw [go_code_CheckAll_s4] at h
        repeat (first | refine Safe.seq ?_ | refine Safe.skip ?_ | with_reducible refine thenQ.n ?_ | with_reducible refine blockQ.n ?_)
        refine Safe.region ?_
        refine SafeOps.quiet0 E_good rfl rfl rfl (v := V.bool (decide (v8_346 < ((gt a0_5 v17_315).length : Int)))) (.fn rfl) ?_
        refine SafeOps.nil ?_
        repeat (first | refine Safe.seq ?_ | refine Safe.skip ?_ | with_reducible refine thenQ.n ?_ | with_reducible refine blockQ.n ?_)
        refine ifG h (fun hc348 h => ?_) (fun hc348 h => ?_)
        · skip
          refine Safe.condK rfl hc348 ?_
          repeat (first | refine Safe.seq ?_ | refine Safe.skip ?_ | with_reducible refine thenQ.n ?_ | with_reducible refine blockQ.n ?_)
          refine Safe.block ?_
          repeat (first | refine Safe.seq ?_ | refine Safe.skip ?_ | with_reducible refine thenQ.n ?_ | with_reducible refine blockQ.n ?_)
          refine Safe.region ?_
          refine SafeOps.quiet0 E_good rfl rfl rfl (v := V.int .i64 v8_346) (.fn rfl) ?_
          refine SafeOps.quiet0 E_good rfl rfl rfl (v := V.int .i64 v8_346) (.fn rfl) ?_
          refine SafeOps.nil ?_
          repeat (first | refine Safe.seq ?_ | refine Safe.skip ?_ | with_reducible refine thenQ.n ?_ | with_reducible refine blockQ.n ?_)
          refine Safe.region ?_
          refine SafeOps.quiet0 E_good rfl rfl rfl (v := V.fn 29 [V.ptr [1] 0 0]) (.fn rfl) ?_
          refine SafeOps.quiet0 E_good rfl rfl rfl (v := V.sl 3 (rws api_Instr.cells (gt a0_5 v17_315))) (.fn rfl) ?_
          refine SafeOps.quiet0 E_good rfl rfl rfl (v := V.int .i64 v8_346) (.fn rfl) ?_
          refine okG h (fun hb349 h => ?_)
          refine SafeOps.quiet0 E_good rfl rfl rfl (v := V.spt 3 (rws api_Instr.cells (gt a0_5 v17_315)) (Int.toNat v8_346) 0) (.idxSlM (f := api_Instr.cells) rfl rfl rfl rfl rfl hb349) ?_
          refine SafeOps.quiet0 E_good rfl rfl rfl (v := V.agg [V.int .i64 ((gt (gt a0_5 v17_315) v8_346).Op), V.int .i64 ((gt (gt a0_5 v17_315) v8_346).A), V.int .i64 ((gt (gt a0_5 v17_315) v8_346).B)]) (.load rfl rfl (.sptM (f := api_Instr.cells) hb349 rfl) rfl) ?_
          refine SafeOps.inline E_good rfl rfl rfl rfl rfl Try.func29 rfl (fun _ _ => Try.call29 _ _) rfl ?_
          repeat (first | refine Safe.seq ?_ | refine Safe.skip ?_ | with_reducible refine thenQ.n ?_ | with_reducible refine blockQ.n ?_)
          refine Safe.region ?_
          refine SafeOps.quiet1 E_good rfl rfl rfl (.box rfl rfl) rfl ?_
          refine SafeOps.quiet0 E_good rfl rfl rfl (v := V.bool false) (.fn rfl) ?_
          refine SafeOps.nil ?_
          repeat (first | refine Safe.seq ?_ | refine Safe.skip ?_ | with_reducible refine thenQ.n ?_ | with_reducible refine blockQ.n ?_)
          refine Safe.region ?_
          refine SafeOps.quiet0 E_good rfl rfl rfl (v := V.ptr [27, 7, 16, 2] 0 0) (.fn rfl) ?_
          refine SafeOps.quiet0 E_good rfl rfl rfl (v := V.int .i64 ((gt (gt a0_5 v17_315) v8_346).Op)) (.load rfl rfl (.box rfl rfl) rfl) ?_
          refine SafeOps.quiet0 E_good rfl rfl rfl (v := V.bool (((gt (gt a0_5 v17_315) v8_346).Op) == 2)) (.fn rfl) ?_
          refine SafeOps.quiet0 E_good rfl rfl rfl (v := V.bool (((gt (gt a0_5 v17_315) v8_346).Op) == 2)) (.fn rfl) ?_
          refine SafeOps.bjoin 6 13 (b := ((((gt (gt a0_5 v17_315) v8_346).Op) == 2) && (decide (((gt (gt a0_5 v17_315) v8_346).A) ≥ (a0_5.length : Int))))) (b1 := decide (((gt (gt a0_5 v17_315) v8_346).A) ≥ (a0_5.length : Int))) (b0 := false) (fun hc350 K => ?_) (fun hc350 K => ?_) bj_and ?_
          · skip
            refine SafeOps.quiet0 E_good (congrArg some hc350) rfl rfl (v := V.ptr [27, 7, 16, 2] 0 1) (.fn rfl) ?_
            refine SafeOps.quiet0 E_good (congrArg some hc350) rfl rfl (v := V.int .i64 ((gt (gt a0_5 v17_315) v8_346).A)) (.load rfl rfl (.box rfl rfl) rfl) ?_
            refine SafeOps.quiet0 E_good (congrArg some hc350) rfl rfl (v := V.sl 1 (rws (fun l => [V.sl 3 (rws api_Instr.cells l)]) a0_5)) (.load rfl rfl (.box rfl rfl) rfl) ?_
            refine SafeOps.quiet0 E_good (congrArg some hc350) rfl rfl (v := V.int .i64 (a0_5.length : Int)) (.fnE rfl lenE) ?_
            refine SafeOps.quiet0 E_good (congrArg some hc350) rfl rfl (v := V.bool (decide (((gt (gt a0_5 v17_315) v8_346).A) ≥ (a0_5.length : Int)))) (.fn rfl) ?_
            refine SafeOps.quiet0 E_good rfl rfl rfl (v := V.bool (decide (((gt (gt a0_5 v17_315) v8_346).A) ≥ (a0_5.length : Int)))) (.pickK rfl hc350 rfl) ?_
            exact SafeOps.drop' 6 rfl rfl rfl K
          · skip
            refine SafeOps.skip (congrArg some hc350) rfl rfl ?_
            refine SafeOps.skip (congrArg some hc350) rfl rfl ?_
            refine SafeOps.skip (congrArg some hc350) rfl rfl ?_
            refine SafeOps.skip (congrArg some hc350) rfl rfl ?_
            refine SafeOps.skip (congrArg some hc350) rfl rfl ?_
            refine SafeOps.quiet0 E_good rfl rfl rfl (v := V.bool false) (.pickK rfl hc350 rfl) ?_
            exact SafeOps.drop' 6 rfl rfl rfl K
          refine SafeOps.quiet0 E_good rfl rfl rfl (v := V.bool ((((gt (gt a0_5 v17_315) v8_346).Op) == 2) && (decide (((gt (gt a0_5 v17_315) v8_346).A) ≥ (a0_5.length : Int))))) (.fn rfl) ?_
          refine SafeOps.nil ?_
          repeat (first | refine Safe.seq ?_ | refine Safe.skip ?_ | with_reducible refine thenQ.n ?_ | with_reducible refine blockQ.n ?_)
          refine Safe.ret ?_
          repeat (first | with_reducible refine thenQ.r ?_ | with_reducible refine blockQ.r ?_)
          refine inQ.gen (vs := [V.bool ((((gt (gt a0_5 v17_315) v8_346).Op) == 2) && (decide (((gt (gt a0_5 v17_315) v8_346).A) ≥ (a0_5.length : Int))))]) (v := V.bool ((((gt (gt a0_5 v17_315) v8_346).Op) == 2) && (decide (((gt (gt a0_5 v17_315) v8_346).A) ≥ (a0_5.length : Int))))) (.inr rfl) rfl (.tmp (v := V.bool ((((gt (gt a0_5 v17_315) v8_346).Op) == 2) && (decide (((gt (gt a0_5 v17_315) v8_346).A) ≥ (a0_5.length : Int))))) rfl .nil) rfl ?_
          refine SafeOps.nil ?_
          repeat (first | refine Safe.seq ?_ | refine Safe.skip ?_ | with_reducible refine thenQ.n ?_ | with_reducible refine blockQ.n ?_)
          refine ifG h (fun hc351 h => ?_) (fun hc351 h => ?_)
          · skip
            refine Safe.condK rfl hc351 ?_
            repeat (first | refine Safe.seq ?_ | refine Safe.skip ?_ | with_reducible refine thenQ.n ?_ | with_reducible refine blockQ.n ?_)
            refine Safe.region ?_
            refine SafeOps.quiet0 E_good rfl rfl rfl (v := V.int .i64 v8_346) (.fn rfl) ?_
            refine SafeOps.quiet0 E_good rfl rfl rfl (v := V.int .i64 v8_346) (.fn rfl) ?_
            refine SafeOps.nil ?_
            repeat (first | refine Safe.seq ?_ | refine Safe.skip ?_ | with_reducible refine thenQ.n ?_ | with_reducible refine blockQ.n ?_)
            refine Safe.ret ?_
            repeat (first | with_reducible refine thenQ.r ?_ | with_reducible refine blockQ.r ?_)
            refine inQ.gen (vs := [V.int .i64 v8_346]) (v := V.int .i64 v8_346) (.inr rfl) rfl (.tmp (v := V.int .i64 v8_346) rfl .nil) rfl ?_
            replace h := inr_out h hr347
            refine SafeOps.quiet0 E_good rfl rfl rfl (v := V.bool (decide (v8_346 ≥ 0))) (.fn rfl) ?_
            refine SafeOps.quiet0 E_good rfl rfl rfl (v := V.bool (decide (v8_346 ≥ 0))) (.fn rfl) ?_
            refine SafeOps.nil ?_
            repeat (first | refine Safe.seq ?_ | refine Safe.skip ?_ | with_reducible refine thenQ.n ?_ | with_reducible refine blockQ.n ?_)
            refine Safe.ret ?_
            repeat (first | with_reducible refine thenQ.r ?_ | with_reducible refine blockQ.r ?_)
            refine inQ.gen (vs := [V.bool (decide (v8_346 ≥ 0))]) (v := V.bool (decide (v8_346 ≥ 0))) (.inr rfl) rfl (.tmp (v := V.bool (decide (v8_346 ≥ 0))) rfl .nil) rfl ?_
            refine SafeOps.quiet0 E_good rfl rfl rfl (v := V.bool (decide (v8_346 ≥ 0))) (.pickK rfl hc321 rfl) ?_
            refine SafeOps.nil ?_
            repeat (first | refine Safe.seq ?_ | refine Safe.skip ?_ | with_reducible refine thenQ.n ?_ | with_reducible refine blockQ.n ?_)
            refine ifG h (fun hc352 h => ?_) (fun hc352 h => ?_)
            · skip
              refine Safe.condK rfl hc352 ?_
              repeat (first | refine Safe.seq ?_ | refine Safe.skip ?_ | with_reducible refine thenQ.n ?_ | with_reducible refine blockQ.n ?_)
              refine Safe.region ?_
              refine SafeOps.quiet0 E_good rfl rfl rfl (v := V.int .i64 1) (.fn rfl) ?_
              refine SafeOps.nil ?_
              repeat (first | refine Safe.seq ?_ | refine Safe.skip ?_ | with_reducible refine thenQ.n ?_ | with_reducible refine blockQ.n ?_)
              refine Safe.ret ?_
              repeat (first | with_reducible refine thenQ.r ?_ | with_reducible refine blockQ.r ?_)
              replace h := inr_out h hr316
              obtain rfl := Option.some.inj h
              exact retQ.gen (vs := [V.int .i64 1]) rfl (.tmp (v := V.int .i64 1) rfl .nil) (.free rfl) (by simp) (.inr rfl)
            · skip
              refine Safe.condN rfl hc352 ?_
              repeat (first | refine Safe.seq ?_ | refine Safe.skip ?_ | with_reducible refine thenQ.n ?_ | with_reducible refine blockQ.n ?_)
              refine Safe.region ?_
              refine SafeOps.quiet0 E_good rfl rfl rfl (v := V.int .i64 (IntKind.i64.wrap (v17_315 + 1))) (.fn rfl) ?_
              refine SafeOps.quiet0 E_good rfl rfl rfl (v := V.int .i64 (IntKind.i64.wrap (v17_315 + 1))) (.fn rfl) ?_
              refine SafeOps.nil ?_
              repeat (first | refine Safe.seq ?_ | refine Safe.skip ?_ | with_reducible refine thenQ.n ?_ | with_reducible refine blockQ.n ?_)
              exact ⟨_, next_out h, (.cov ⟨rfl, rfl, (upT_cons (.refl _) (upT_cons (.refl _) (upT_cons (.refl _) (upT_cons (.refl _) upT_nil)))), (upOb_cons rfl (.refl _) upOb_nil), upOut_nil, rfl⟩)⟩
          · skip
            refine Safe.condN rfl hc351 ?_
            repeat (first | refine Safe.seq ?_ | refine Safe.skip ?_ | with_reducible refine thenQ.n ?_ | with_reducible refine blockQ.n ?_)
            refine Safe.region ?_
            refine SafeOps.quiet0 E_good rfl rfl rfl (v := V.int .i64 (IntKind.i64.wrap (v8_346 + 1))) (.fn rfl) ?_
            refine SafeOps.quiet0 E_good rfl rfl rfl (v := V.int .i64 (IntKind.i64.wrap (v8_346 + 1))) (.fn rfl) ?_
            refine SafeOps.nil ?_
            repeat (first | refine Safe.seq ?_ | refine Safe.skip ?_ | with_reducible refine thenQ.n ?_ | with_reducible refine blockQ.n ?_)
            exact ⟨_, next_out h, (.cov ⟨rfl, rfl, (upT_cons (.refl _) (upT_cons (.refl _) (upT_cons (.refl _) (upT_cons (.refl _) upT_nil)))), (upOb_cons rfl (.refl _) upOb_nil), (upOut_cons rfl upT_nil (upOut_cons rfl (upT_cons (.refl _) (upT_cons (.refl _) (upT_cons (.refl _) (upT_cons (.refl _) (upT_cons (.refl _) (upT_cons (.refl _) (upT_cons (.refl _) upT_nil))))))) upOut_nil)), rfl⟩)⟩
        · skip
          refine Safe.condN rfl hc348 ?_
          repeat (first | refine Safe.seq ?_ | refine Safe.skip ?_ | with_reducible refine thenQ.n ?_ | with_reducible refine blockQ.n ?_)
          refine Safe.exit ?_
          repeat (first | with_reducible refine thenQ.e ?_ | with_reducible refine blockQ.x rfl ?_ | with_reducible refine blockQ.y rfl ?_)
          replace h := inr_out h hr347
          repeat (first | refine Safe.seq ?_ | refine Safe.skip ?_ | with_reducible refine thenQ.n ?_ | with_reducible refine blockQ.n ?_)
          refine Safe.region ?_
          refine SafeOps.quiet0 E_good rfl rfl rfl (v := V.int .i64 (-1)) (.fn rfl) ?_
          refine SafeOps.nil ?_
          repeat (first | refine Safe.seq ?_ | refine Safe.skip ?_ | with_reducible refine thenQ.n ?_ | with_reducible refine blockQ.n ?_)
          refine Safe.ret ?_
          repeat (first | with_reducible refine thenQ.r ?_ | with_reducible refine blockQ.r ?_)
          refine inQ.gen (vs := [V.int .i64 (-1)]) (v := V.int .i64 (-1)) (.inr rfl) rfl (.tmp (v := V.int .i64 (-1)) rfl .nil) rfl ?_
          refine SafeOps.quiet0 E_good rfl rfl rfl (v := V.bool false) (.fn rfl) ?_
          refine SafeOps.quiet0 E_good rfl rfl rfl (v := V.bool false) (.fn rfl) ?_
          refine SafeOps.nil ?_
          repeat (first | refine Safe.seq ?_ | refine Safe.skip ?_ | with_reducible refine thenQ.n ?_ | with_reducible refine blockQ.n ?_)
          refine Safe.ret ?_
          repeat (first | with_reducible refine thenQ.r ?_ | with_reducible refine blockQ.r ?_)
          refine inQ.gen (vs := [V.bool false]) (v := V.bool false) (.inr rfl) rfl (.tmp (v := V.bool false) rfl .nil) rfl ?_
          refine SafeOps.quiet0 E_good rfl rfl rfl (v := V.bool false) (.pickK rfl hc321 rfl) ?_
          refine SafeOps.nil ?_
          repeat (first | refine Safe.seq ?_ | refine Safe.skip ?_ | with_reducible refine thenQ.n ?_ | with_reducible refine blockQ.n ?_)
          refine Safe.condN rfl rfl ?_
          repeat (first | refine Safe.seq ?_ | refine Safe.skip ?_ | with_reducible refine thenQ.n ?_ | with_reducible refine blockQ.n ?_)
          refine Safe.region ?_
          refine SafeOps.quiet0 E_good rfl rfl rfl (v := V.int .i64 (IntKind.i64.wrap (v17_315 + 1))) (.fn rfl) ?_
          refine SafeOps.quiet0 E_good rfl rfl rfl (v := V.int .i64 (IntKind.i64.wrap (v17_315 + 1))) (.fn rfl) ?_
          refine SafeOps.nil ?_
          repeat (first | refine Safe.seq ?_ | refine Safe.skip ?_ | with_reducible refine thenQ.n ?_ | with_reducible refine blockQ.n ?_)
          exact ⟨_, next_out h, (.cov ⟨rfl, rfl, (upT_cons (.refl _) (upT_cons (.refl _) (upT_cons (.refl _) (upT_cons (.refl _) upT_nil)))), (upOb_cons rfl (.refl _) upOb_nil), upOut_nil, rfl⟩)⟩
    · skip
      refine Safe.condN rfl hc317 ?_
      repeat (first | refine Safe.seq ?_ | refine Safe.skip ?_ | with_reducible refine thenQ.n ?_ | with_reducible refine blockQ.n ?_)
      refine Safe.exit ?_
      repeat (first | with_reducible refine thenQ.e ?_ | with_reducible refine blockQ.x rfl ?_ | with_reducible refine blockQ.y rfl ?_)
      replace h := inr_out h hr316
      repeat (first | refine Safe.seq ?_ | refine Safe.skip ?_ | with_reducible refine thenQ.n ?_ | with_reducible refine blockQ.n ?_)
      refine Safe.region ?_
      refine SafeOps.quiet0 E_good rfl rfl rfl (v := V.int .i64 0) (.fn rfl) ?_
      refine SafeOps.nil ?_
      repeat (first | refine Safe.seq ?_ | refine Safe.skip ?_ | with_reducible refine thenQ.n ?_ | with_reducible refine blockQ.n ?_)
      refine Safe.ret ?_
      repeat (first | with_reducible refine thenQ.r ?_ | with_reducible refine blockQ.r ?_)
      obtain rfl := Option.some.inj h
      exact retQ.gen (vs := [V.int .i64 0]) rfl (.tmp (v := V.int .i64 0) rfl .nil) (.free rfl) (by simp) (.inr rfl)

def go_code_reached_1 (a0_370 : api_Instr) : Bool :=
  (a0_370.Op == 9)

theorem go_code_reached_1_sc (a0_370 : api_Instr) (r : Bool) (h : go_code_reached_1 a0_370 = r) : SC Try.prog gl 40 [V.agg [V.int .i64 a0_370.Op, V.int .i64 a0_370.A, V.int .i64 a0_370.B]] (V.bool r) := by
  rw [go_code_reached_1] at h
  refine SC.of E_good Try.func40 rfl (fun _ _ => Try.call40 _ _) rfl ?_
  repeat (first | refine Safe.seq ?_ | refine Safe.skip ?_ | with_reducible refine thenQ.n ?_ | with_reducible refine blockQ.n ?_)
  refine Safe.region ?_
  refine SafeOps.quiet1 E_good rfl rfl rfl (.box rfl rfl) rfl ?_
  refine SafeOps.quiet0 E_good rfl rfl rfl (v := V.bool false) (.fn rfl) ?_
  refine SafeOps.nil ?_
  repeat (first | refine Safe.seq ?_ | refine Safe.skip ?_ | with_reducible refine thenQ.n ?_ | with_reducible refine blockQ.n ?_)
  refine Safe.region ?_
  refine SafeOps.quiet0 E_good rfl rfl rfl (v := V.ptr [1] 0 0) (.fn rfl) ?_
  refine SafeOps.quiet0 E_good rfl rfl rfl (v := V.int .i64 a0_370.Op) (.load rfl rfl (.box rfl rfl) rfl) ?_
  refine SafeOps.quiet0 E_good rfl rfl rfl (v := V.bool (a0_370.Op == 9)) (.fn rfl) ?_
  refine SafeOps.quiet0 E_good rfl rfl rfl (v := V.bool (a0_370.Op == 9)) (.fn rfl) ?_
  refine SafeOps.nil ?_
  repeat (first | refine Safe.seq ?_ | refine Safe.skip ?_ | with_reducible refine thenQ.n ?_ | with_reducible refine blockQ.n ?_)
  refine Safe.ret ?_
  repeat (first | with_reducible refine thenQ.r ?_ | with_reducible refine blockQ.r ?_)
  obtain rfl := h
  exact retQ.gen (vs := [V.bool (a0_370.Op == 9)]) rfl (.tmp (v := V.bool (a0_370.Op == 9)) rfl .nil) (.free rfl) (by simp) (.inr rfl)

noncomputable def go_slices_IndexFunc_api_Instr_api_Instr_140_s1 (a0_366 : List api_Instr) : (Int) → Option ((Int) ⊕ (Int))
  | v8_388 =>
    if (decide (v8_388 < (a0_366.length : Int))) = true then
      if 0 ≤ v8_388 ∧ v8_388 < (a0_366.length : Int) then
        if (go_code_reached_1 (gt a0_366 v8_388)) = true then
          inrO (
            some v8_388)
        else
          nextO (IntKind.i64.wrap (v8_388 + 1))
      else none
    else
      inrO (
        some (-1))

noncomputable def go_slices_IndexFunc_api_Instr_api_Instr_140 (a0_366 : List api_Instr) : Option Int :=
  whileO (go_slices_IndexFunc_api_Instr_api_Instr_140_s1 a0_366) 0

theorem go_slices_IndexFunc_api_Instr_api_Instr_140_sc (a0_366 : List api_Instr) (r : Int) (h : go_slices_IndexFunc_api_Instr_api_Instr_140 a0_366 = some r) : SC Try.prog gl 39 [V.sl 3 (rws api_Instr.cells a0_366), V.fn 40 []] (V.int .i64 r) := by
  rw [go_slices_IndexFunc_api_Instr_api_Instr_140] at h
  refine SC.of E_good Try.func39 rfl (fun _ _ => Try.call39 _ _) rfl ?_
  repeat (first | refine Safe.seq ?_ | refine Safe.skip ?_ | with_reducible refine thenQ.n ?_ | with_reducible refine blockQ.n ?_)
  refine Safe.region ?_
  refine SafeOps.quiet0 E_good rfl rfl rfl (v := V.int .i64 0) (.fn rfl) ?_
  refine SafeOps.nil ?_
  repeat (first | refine Safe.seq ?_ | refine Safe.skip ?_ | with_reducible refine thenQ.n ?_ | with_reducible refine blockQ.n ?_)
  refine Safe.region ?_
  refine SafeOps.quiet0 E_good rfl rfl rfl (v := V.sl 3 (rws api_Instr.cells a0_366)) (.fn rfl) ?_
  refine SafeOps.quiet0 E_good rfl rfl rfl (v := V.int .i64 (a0_366.length : Int)) (.fnE rfl lenE) ?_
  refine SafeOps.quiet0 E_good rfl rfl rfl (v := V.int .i64 0) (.fn rfl) ?_
  refine SafeOps.nil ?_
  repeat (first | refine Safe.seq ?_ | refine Safe.skip ?_ | with_reducible refine thenQ.n ?_ | with_reducible refine blockQ.n ?_)
  refine Safe.block ?_
  repeat (first | refine Safe.seq ?_ | refine Safe.skip ?_ | with_reducible refine thenQ.n ?_ | with_reducible refine blockQ.n ?_)
  refine Safe.loopW (fun (v8_388 : Int) => ⟨Try.f39.ntmps, [(0, V.sl 3 (rws api_Instr.cells a0_366)), (1, V.fn 40 []), (7, V.int .i64 (a0_366.length : Int)), (8, V.int .i64 v8_388)], [], [], []⟩) h (.cov ⟨rfl, rfl, (upT_cons (.refl _) (upT_cons (.refl _) (upT_cons (.refl _) (upT_cons (.refl _) upT_nil)))), upOb_nil, upOut_nil, rfl⟩) ?_
  intro v8_388 ohr389 h hr389
  replace h : go_slices_IndexFunc_api_Instr_api_Instr_140_s1 a0_366 v8_388 = some ohr389 := h
  rw [go_slices_IndexFunc_api_Instr_api_Instr_140_s1] at h
  repeat (first | refine Safe.seq ?_ | refine Safe.skip ?_ | with_reducible refine thenQ.n ?_ | with_reducible refine blockQ.n ?_)
  refine Safe.region ?_
  refine SafeOps.quiet0 E_good rfl rfl rfl (v := V.bool (decide (v8_388 < (a0_366.length : Int)))) (.fn rfl) ?_
  refine SafeOps.nil ?_
  repeat (first | refine Safe.seq ?_ | refine Safe.skip ?_ | with_reducible refine thenQ.n ?_ | with_reducible refine blockQ.n ?_)
  refine ifG h (fun hc390 h => ?_) (fun hc390 h => ?_)
  · skip
    refine Safe.condK rfl hc390 ?_
    repeat (first | refine Safe.seq ?_ | refine Safe.skip ?_ | with_reducible refine thenQ.n ?_ | with_reducible refine blockQ.n ?_)
    refine Safe.block ?_
    repeat (first | refine Safe.seq ?_ | refine Safe.skip ?_ | with_reducible refine thenQ.n ?_ | with_reducible refine blockQ.n ?_)
    refine Safe.region ?_
    refine SafeOps.quiet0 E_good rfl rfl rfl (v := V.int .i64 v8_388) (.fn rfl) ?_
    refine SafeOps.quiet0 E_good rfl rfl rfl (v := V.int .i64 v8_388) (.fn rfl) ?_
    refine SafeOps.nil ?_
    repeat (first | refine Safe.seq ?_ | refine Safe.skip ?_ | with_reducible refine thenQ.n ?_ | with_reducible refine blockQ.n ?_)
    refine Safe.region ?_
    refine SafeOps.quiet0 E_good rfl rfl rfl (v := V.fn 40 []) (.fn rfl) ?_
    refine SafeOps.quiet0 E_good rfl rfl rfl (v := V.sl 3 (rws api_Instr.cells a0_366)) (.fn rfl) ?_
    refine SafeOps.quiet0 E_good rfl rfl rfl (v := V.int .i64 v8_388) (.fn rfl) ?_
    refine okG h (fun hb391 h => ?_)
    refine SafeOps.quiet0 E_good rfl rfl rfl (v := V.spt 3 (rws api_Instr.cells a0_366) (Int.toNat v8_388) 0) (.idxSlM (f := api_Instr.cells) rfl rfl rfl rfl rfl hb391) ?_
    refine SafeOps.quiet0 E_good rfl rfl rfl (v := V.agg [V.int .i64 ((gt a0_366 v8_388).Op), V.int .i64 ((gt a0_366 v8_388).A), V.int .i64 ((gt a0_366 v8_388).B)]) (.load rfl rfl (.sptM (f := api_Instr.cells) hb391 rfl) rfl) ?_
    refine SafeOps.quiet0 E_good rfl rfl rfl (v := V.bool (go_code_reached_1 (gt a0_366 v8_388))) (.callP rfl rfl (go_code_reached_1_sc (gt a0_366 v8_388) _ rfl) rfl) ?_
    refine SafeOps.nil ?_
    repeat (first | refine Safe.seq ?_ | refine Safe.skip ?_ | with_reducible refine thenQ.n ?_ | with_reducible refine blockQ.n ?_)
    refine ifG h (fun hc392 h => ?_) (fun hc392 h => ?_)
    · skip
      refine Safe.condK rfl hc392 ?_
      repeat (first | refine Safe.seq ?_ | refine Safe.skip ?_ | with_reducible refine thenQ.n ?_ | with_reducible refine blockQ.n ?_)
      refine Safe.region ?_
      refine SafeOps.quiet0 E_good rfl rfl rfl (v := V.int .i64 v8_388) (.fn rfl) ?_
      refine SafeOps.quiet0 E_good rfl rfl rfl (v := V.int .i64 v8_388) (.fn rfl) ?_
      refine SafeOps.nil ?_
      repeat (first | refine Safe.seq ?_ | refine Safe.skip ?_ | with_reducible refine thenQ.n ?_ | with_reducible refine blockQ.n ?_)
      refine Safe.ret ?_
      repeat (first | with_reducible refine thenQ.r ?_ | with_reducible refine blockQ.r ?_)
      replace h := inr_out h hr389
      obtain rfl := Option.some.inj h
      exact retQ.gen (vs := [V.int .i64 v8_388]) rfl (.tmp (v := V.int .i64 v8_388) rfl .nil) (.free rfl) (by simp) (.inr rfl)
    · skip
      refine Safe.condN rfl hc392 ?_
      repeat (first | refine Safe.seq ?_ | refine Safe.skip ?_ | with_reducible refine thenQ.n ?_ | with_reducible refine blockQ.n ?_)
      refine Safe.region ?_
      refine SafeOps.quiet0 E_good rfl rfl rfl (v := V.int .i64 (IntKind.i64.wrap (v8_388 + 1))) (.fn rfl) ?_
      refine SafeOps.quiet0 E_good rfl rfl rfl (v := V.int .i64 (IntKind.i64.wrap (v8_388 + 1))) (.fn rfl) ?_
      refine SafeOps.nil ?_
      repeat (first | refine Safe.seq ?_ | refine Safe.skip ?_ | with_reducible refine thenQ.n ?_ | with_reducible refine blockQ.n ?_)
      exact ⟨_, next_out h, (.cov ⟨rfl, rfl, (upT_cons (.refl _) (upT_cons (.refl _) (upT_cons (.refl _) (upT_cons (.refl _) upT_nil)))), upOb_nil, upOut_nil, rfl⟩)⟩
  · skip
    refine Safe.condN rfl hc390 ?_
    repeat (first | refine Safe.seq ?_ | refine Safe.skip ?_ | with_reducible refine thenQ.n ?_ | with_reducible refine blockQ.n ?_)
    refine Safe.exit ?_
    repeat (first | with_reducible refine thenQ.e ?_ | with_reducible refine blockQ.x rfl ?_ | with_reducible refine blockQ.y rfl ?_)
    replace h := inr_out h hr389
    repeat (first | refine Safe.seq ?_ | refine Safe.skip ?_ | with_reducible refine thenQ.n ?_ | with_reducible refine blockQ.n ?_)
    refine Safe.region ?_
    refine SafeOps.quiet0 E_good rfl rfl rfl (v := V.int .i64 (-1)) (.fn rfl) ?_
    refine SafeOps.nil ?_
    repeat (first | refine Safe.seq ?_ | refine Safe.skip ?_ | with_reducible refine thenQ.n ?_ | with_reducible refine blockQ.n ?_)
    refine Safe.ret ?_
    repeat (first | with_reducible refine thenQ.r ?_ | with_reducible refine blockQ.r ?_)
    obtain rfl := Option.some.inj h
    exact retQ.gen (vs := [V.int .i64 (-1)]) rfl (.tmp (v := V.int .i64 (-1)) rfl .nil) (.free rfl) (by simp) (.inr rfl)

noncomputable def go_code_reached (a0_365 : List api_Instr) : Option (List api_Instr) :=
  (go_slices_IndexFunc_api_Instr_api_Instr_140 a0_365).bind fun x_397 =>
  if (decide (x_397 ≥ 0)) = true then
    if 0 ≤ (IntKind.i64.wrap (x_397 + 1)) ∧ (IntKind.i64.wrap (x_397 + 1)) ≤ (a0_365.length : Int) then
      some (sub a0_365 0 (IntKind.i64.wrap (x_397 + 1)))
    else none
  else
    some a0_365

theorem go_code_reached_sc (a0_365 : List api_Instr) (r : List api_Instr) (h : go_code_reached a0_365 = some r) : SC Try.prog gl 28 [V.sl 3 (rws api_Instr.cells a0_365)] (V.sl 3 (rws api_Instr.cells r)) := by
  rw [go_code_reached] at h
  refine SC.of E_good Try.func28 rfl (fun _ _ => Try.call28 _ _) rfl ?_
  repeat (first | refine Safe.seq ?_ | refine Safe.skip ?_ | with_reducible refine thenQ.n ?_ | with_reducible refine blockQ.n ?_)
  refine Safe.region ?_
  refine SafeOps.quiet0 E_good rfl rfl rfl (v := V.nils) (.fn rfl) ?_
  refine SafeOps.nil ?_
  repeat (first | refine Safe.seq ?_ | refine Safe.skip ?_ | with_reducible refine thenQ.n ?_ | with_reducible refine blockQ.n ?_)
  refine Safe.region ?_
  refine SafeOps.quiet0 E_good rfl rfl rfl (v := V.sl 3 (rws api_Instr.cells a0_365)) (.fn rfl) ?_
  refine bindG h ?_
  intro x_397 he398 h
  refine SafeOps.quiet0 E_good rfl rfl rfl (v := V.int .i64 x_397) (.callP rfl rfl (go_slices_IndexFunc_api_Instr_api_Instr_140_sc a0_365 _ he398) rfl) ?_
  refine SafeOps.quiet0 E_good rfl rfl rfl (v := V.int .i64 x_397) (.fn rfl) ?_
  refine SafeOps.nil ?_
  repeat (first | refine Safe.seq ?_ | refine Safe.skip ?_ | with_reducible refine thenQ.n ?_ | with_reducible refine blockQ.n ?_)
  refine Safe.region ?_
  refine SafeOps.quiet0 E_good rfl rfl rfl (v := V.int .i64 x_397) (.fn rfl) ?_
  refine SafeOps.quiet0 E_good rfl rfl rfl (v := V.bool (decide (x_397 ≥ 0))) (.fn rfl) ?_
  refine SafeOps.nil ?_
  repeat (first | refine Safe.seq ?_ | refine Safe.skip ?_ | with_reducible refine thenQ.n ?_ | with_reducible refine blockQ.n ?_)
  refine ifG h (fun hc399 h => ?_) (fun hc399 h => ?_)
  · skip
    refine Safe.condK rfl hc399 ?_
    repeat (first | refine Safe.seq ?_ | refine Safe.skip ?_ | with_reducible refine thenQ.n ?_ | with_reducible refine blockQ.n ?_)
    refine Safe.region ?_
    refine SafeOps.quiet0 E_good rfl rfl rfl (v := V.sl 3 (rws api_Instr.cells a0_365)) (.fn rfl) ?_
    refine SafeOps.quiet0 E_good rfl rfl rfl (v := V.int .i64 x_397) (.fn rfl) ?_
    refine SafeOps.quiet0 E_good rfl rfl rfl (v := V.int .i64 (IntKind.i64.wrap (x_397 + 1))) (.fn rfl) ?_
    refine okG h (fun hb400 h => ?_)
    refine SafeOps.quiet0 E_good rfl rfl rfl (v := V.sl 3 (rws api_Instr.cells (sub a0_365 0 (IntKind.i64.wrap (x_397 + 1))))) (.slH (f := api_Instr.cells) rfl rfl rfl rfl rfl hb400) ?_
    refine SafeOps.quiet0 E_good rfl rfl rfl (v := V.sl 3 (rws api_Instr.cells (sub a0_365 0 (IntKind.i64.wrap (x_397 + 1))))) (.fn rfl) ?_
    refine SafeOps.nil ?_
    repeat (first | refine Safe.seq ?_ | refine Safe.skip ?_ | with_reducible refine thenQ.n ?_ | with_reducible refine blockQ.n ?_)
    refine Safe.ret ?_
    repeat (first | with_reducible refine thenQ.r ?_ | with_reducible refine blockQ.r ?_)
    obtain rfl := Option.some.inj h
    exact retQ.gen (vs := [V.sl 3 (rws api_Instr.cells (sub a0_365 0 (IntKind.i64.wrap (x_397 + 1))))]) rfl (.tmp (v := V.sl 3 (rws api_Instr.cells (sub a0_365 0 (IntKind.i64.wrap (x_397 + 1))))) rfl .nil) (.free rfl) (by simp) (.inr rfl)
  · skip
    refine Safe.condN rfl hc399 ?_
    repeat (first | refine Safe.seq ?_ | refine Safe.skip ?_ | with_reducible refine thenQ.n ?_ | with_reducible refine blockQ.n ?_)
    refine Safe.region ?_
    refine SafeOps.quiet0 E_good rfl rfl rfl (v := V.sl 3 (rws api_Instr.cells a0_365)) (.fn rfl) ?_
    refine SafeOps.quiet0 E_good rfl rfl rfl (v := V.sl 3 (rws api_Instr.cells a0_365)) (.fn rfl) ?_
    refine SafeOps.nil ?_
    repeat (first | refine Safe.seq ?_ | refine Safe.skip ?_ | with_reducible refine thenQ.n ?_ | with_reducible refine blockQ.n ?_)
    refine Safe.ret ?_
    repeat (first | with_reducible refine thenQ.r ?_ | with_reducible refine blockQ.r ?_)
    obtain rfl := Option.some.inj h
    exact retQ.gen (vs := [V.sl 3 (rws api_Instr.cells a0_365)]) rfl (.tmp (v := V.sl 3 (rws api_Instr.cells a0_365)) rfl .nil) (.free rfl) (by simp) (.inr rfl)

noncomputable def go_code_Tasks_1_b_s2 (a0_357 : Int) (l_358 : List (List api_Instr)) (rec_361 : Int → (List (List api_Instr)) → (List (Int × Int)) → (List (Int × Bool)) → Option (Int × Int × (List (Int × Int)) × (List (Int × Bool)))) (x_401 : List api_Instr) : (Int × Int × (List (Int × Int)) × (List (Int × Bool))) → Option ((Int × Int × (List (Int × Int)) × (List (Int × Bool))) ⊕ (Int × Int × (List (Int × Int)) × (List (Int × Bool))))
  | (v10_461, v34_462, vm_463, vm_464) =>
    if (decide (v34_462 < (x_401.length : Int))) = true then
      if 0 ≤ v34_462 ∧ v34_462 < (x_401.length : Int) then
        if (((gt x_401 v34_462).Op) != 2) = true then
          nextO (v10_461, IntKind.i64.wrap (v34_462 + 1), vm_463, vm_464)
        else
          (rec_361 ((gt x_401 v34_462).A) l_358 vm_463 vm_464).bind fun (x_469, x_470, m_471, m_472) =>
          if (x_470 != 0) = true then
            inrO (
              some (0, x_470, m_471, m_472))
          else
            nextO ((if 1099511627777 < (IntKind.i64.wrap (v10_461 + x_469)) then 1099511627777 else IntKind.i64.wrap (v10_461 + x_469)), IntKind.i64.wrap (v34_462 + 1), m_471, m_472)
      else none
    else
      inrO (
        some (v10_461, 0, mput vm_463 a0_357 v10_461, mdel vm_464 a0_357))

noncomputable def go_code_Tasks_1_b (rec_361 : Int → (List (List api_Instr)) → (List (Int × Int)) → (List (Int × Bool)) → Option (Int × Int × (List (Int × Int)) × (List (Int × Bool)))) (a0_357 : Int) (l_358 : List (List api_Instr)) (m_359 : List (Int × Int)) (m_360 : List (Int × Bool)) : Option (Int × Int × (List (Int × Int)) × (List (Int × Bool))) :=
  if ((mget m_360 a0_357).getD false) = true then
    some (0, 9, m_359, m_360)
  else
    if ((mget m_359 a0_357).isSome) = true then
      some (((mget m_359 a0_357).getD 0), 0, m_359, m_360)
    else
      if 0 ≤ a0_357 ∧ a0_357 < (l_358.length : Int) then
        (go_code_reached (gt l_358 a0_357)).bind fun x_401 =>
        whileO (go_code_Tasks_1_b_s2 a0_357 l_358 rec_361 x_401) (1, 0, m_359, mput m_360 a0_357 true)
      else none

theorem go_code_Tasks_1_b_si (rec_361 : Int → (List (List api_Instr)) → (List (Int × Int)) → (List (Int × Bool)) → Option (Int × Int × (List (Int × Int)) × (List (Int × Bool)))) (HR_rec_361 : ∀ (a0_357 : Int) (l_358 : List (List api_Instr)) (m_359 : List (Int × Int)) (m_360 : List (Int × Bool)) (r : Int × Int × (List (Int × Int)) × (List (Int × Bool))), rec_361 a0_357 l_358 m_359 m_360 = some r → SI Try.prog gl 27 [V.int .i64 a0_357, V.ptr [7] 0 0, V.ptr [6] 0 0, V.ptr [2] 0 0, V.ptr [8] 0 0] [([2], Go.AM.Obj.box [V.sl 1 (rws (fun l => [V.sl 3 (rws api_Instr.cells l)]) l_358)]), ([6], Go.AM.Obj.box [V.mapr [21]]), ([7], Go.AM.Obj.box [V.mapr [22]]), ([8], Go.AM.Obj.box [V.fn 27 [V.ptr [7] 0 0, V.ptr [6] 0 0, V.ptr [2] 0 0, V.ptr [8] 0 0]]), ([21], Go.AM.Obj.map (mps (fun n : Int => V.int .i64 n) (fun n : Int => V.int .i64 n) m_359)), ([22], Go.AM.Obj.map (mps (fun n : Int => V.int .i64 n) (fun b : Bool => V.bool b) m_360))] [([2], Go.AM.Obj.box [V.sl 1 (rws (fun l => [V.sl 3 (rws api_Instr.cells l)]) l_358)]), ([6], Go.AM.Obj.box [V.mapr [21]]), ([7], Go.AM.Obj.box [V.mapr [22]]), ([8], Go.AM.Obj.box [V.fn 27 [V.ptr [7] 0 0, V.ptr [6] 0 0, V.ptr [2] 0 0, V.ptr [8] 0 0]]), ([21], Go.AM.Obj.map (mps (fun n : Int => V.int .i64 n) (fun n : Int => V.int .i64 n) r.2.2.1)), ([22], Go.AM.Obj.map (mps (fun n : Int => V.int .i64 n) (fun b : Bool => V.bool b) r.2.2.2))] (V.tup [V.int .i64 r.1, V.int .i64 r.2.1])) (a0_357 : Int) (l_358 : List (List api_Instr)) (m_359 : List (Int × Int)) (m_360 : List (Int × Bool)) (r : Int × Int × (List (Int × Int)) × (List (Int × Bool))) (h : go_code_Tasks_1_b rec_361 a0_357 l_358 m_359 m_360 = some r) : SI Try.prog gl 27 [V.int .i64 a0_357, V.ptr [7] 0 0, V.ptr [6] 0 0, V.ptr [2] 0 0, V.ptr [8] 0 0] [([2], Go.AM.Obj.box [V.sl 1 (rws (fun l => [V.sl 3 (rws api_Instr.cells l)]) l_358)]), ([6], Go.AM.Obj.box [V.mapr [21]]), ([7], Go.AM.Obj.box [V.mapr [22]]), ([8], Go.AM.Obj.box [V.fn 27 [V.ptr [7] 0 0, V.ptr [6] 0 0, V.ptr [2] 0 0, V.ptr [8] 0 0]]), ([21], Go.AM.Obj.map (mps (fun n : Int => V.int .i64 n) (fun n : Int => V.int .i64 n) m_359)), ([22], Go.AM.Obj.map (mps (fun n : Int => V.int .i64 n) (fun b : Bool => V.bool b) m_360))] [([2], Go.AM.Obj.box [V.sl 1 (rws (fun l => [V.sl 3 (rws api_Instr.cells l)]) l_358)]), ([6], Go.AM.Obj.box [V.mapr [21]]), ([7], Go.AM.Obj.box [V.mapr [22]]), ([8], Go.AM.Obj.box [V.fn 27 [V.ptr [7] 0 0, V.ptr [6] 0 0, V.ptr [2] 0 0, V.ptr [8] 0 0]]), ([21], Go.AM.Obj.map (mps (fun n : Int => V.int .i64 n) (fun n : Int => V.int .i64 n) r.2.2.1)), ([22], Go.AM.Obj.map (mps (fun n : Int => V.int .i64 n) (fun b : Bool => V.bool b) r.2.2.2))] (V.tup [V.int .i64 r.1, V.int .i64 r.2.1]) := by
  rw [go_code_Tasks_1_b] at h
  refine SI.of (pa := [9999]) E_good Try.func27 rfl (fun _ _ => Try.call27 _ _) rfl (.box (.box (.box (.box (.map (.map .nil)))))) rfl rfl rfl ?_
  repeat (first | refine Safe.seq ?_ | refine Safe.skip ?_ | with_reducible refine thenQ.n ?_ | with_reducible refine blockQ.n ?_)
  refine Safe.region ?_
  refine SafeOps.quiet0 E_good rfl rfl rfl (v := V.int .i64 0) (.fn rfl) ?_
  refine SafeOps.quiet0 E_good rfl rfl rfl (v := V.int .i64 0) (.fn rfl) ?_
  refine SafeOps.nil ?_
  repeat (first | refine Safe.seq ?_ | refine Safe.skip ?_ | with_reducible refine thenQ.n ?_ | with_reducible refine blockQ.n ?_)
  refine Safe.region ?_
  refine SafeOps.quiet0 E_good rfl rfl rfl (v := V.mapr [22]) (.load rfl rfl (.box rfl rfl) rfl) ?_
  refine SafeOps.quiet0 E_good rfl rfl rfl (v := V.int .i64 a0_357) (.fn rfl) ?_
  refine SafeOps.quiet0 E_good rfl rfl rfl (v := V.bool ((mget m_360 a0_357).getD false)) (.lookM (fv := (fun b : Bool => V.bool b)) (m := m_360) (kk := a0_357) (z0 := false) (keyI .i64) rfl rfl rfl rfl rfl rfl rfl rfl rfl rfl) ?_
  refine SafeOps.nil ?_
  repeat (first | refine Safe.seq ?_ | refine Safe.skip ?_ | with_reducible refine thenQ.n ?_ | with_reducible refine blockQ.n ?_)
  refine ifG h (fun hc362 h => ?_) (fun hc362 h => ?_)
  · skip
    refine Safe.condK rfl hc362 ?_
    repeat (first | refine Safe.seq ?_ | refine Safe.skip ?_ | with_reducible refine thenQ.n ?_ | with_reducible refine blockQ.n ?_)
    refine Safe.region ?_
    refine SafeOps.quiet0 E_good rfl rfl rfl (v := V.int .i64 0) (.fn rfl) ?_
    refine SafeOps.quiet0 E_good rfl rfl rfl (v := V.int .i64 9) (.fn rfl) ?_
    refine SafeOps.nil ?_
    repeat (first | refine Safe.seq ?_ | refine Safe.skip ?_ | with_reducible refine thenQ.n ?_ | with_reducible refine blockQ.n ?_)
    refine Safe.ret ?_
    repeat (first | with_reducible refine thenQ.r ?_ | with_reducible refine blockQ.r ?_)
    obtain rfl := Option.some.inj h
    refine siQ.gen (vs := [V.int .i64 0, V.int .i64 9]) rfl (.tmp (v := V.int .i64 0) rfl (.tmp (v := V.int .i64 9) rfl .nil)) rfl rfl ?_ (.inr rfl)
    exact ⟨rfl, rfl, rfl, rfl, rfl, rfl, trivial⟩
  · skip
    refine Safe.condN rfl hc362 ?_
    repeat (first | refine Safe.seq ?_ | refine Safe.skip ?_ | with_reducible refine thenQ.n ?_ | with_reducible refine blockQ.n ?_)
    refine Safe.region ?_
    refine SafeOps.quiet0 E_good rfl rfl rfl (v := V.mapr [21]) (.load rfl rfl (.box rfl rfl) rfl) ?_
    refine SafeOps.quiet0 E_good rfl rfl rfl (v := V.int .i64 a0_357) (.fn rfl) ?_
    refine SafeOps.quiet0 E_good rfl rfl rfl (v := V.tup [V.int .i64 ((mget m_359 a0_357).getD 0), V.bool ((mget m_359 a0_357).isSome)]) (.lookM2 (fv := (fun n : Int => V.int .i64 n)) (m := m_359) (kk := a0_357) (z0 := 0) (keyI .i64) rfl rfl rfl rfl rfl rfl rfl rfl rfl rfl) ?_
    refine SafeOps.quiet0 E_good rfl rfl rfl (v := V.tup [V.int .i64 ((mget m_359 a0_357).getD 0), V.bool ((mget m_359 a0_357).isSome)]) (.fn rfl) ?_
    refine SafeOps.quiet0 E_good rfl rfl rfl (v := V.int .i64 ((mget m_359 a0_357).getD 0)) (.fn rfl) ?_
    refine SafeOps.quiet0 E_good rfl rfl rfl (v := V.bool ((mget m_359 a0_357).isSome)) (.fn rfl) ?_
    refine SafeOps.quiet0 E_good rfl rfl rfl (v := V.int .i64 ((mget m_359 a0_357).getD 0)) (.fn rfl) ?_
    refine SafeOps.quiet0 E_good rfl rfl rfl (v := V.bool ((mget m_359 a0_357).isSome)) (.fn rfl) ?_
    refine SafeOps.nil ?_
    repeat (first | refine Safe.seq ?_ | refine Safe.skip ?_ | with_reducible refine thenQ.n ?_ | with_reducible refine blockQ.n ?_)
    refine Safe.region ?_
    refine SafeOps.quiet0 E_good rfl rfl rfl (v := V.bool ((mget m_359 a0_357).isSome)) (.fn rfl) ?_
    refine SafeOps.nil ?_
    repeat (first | refine Safe.seq ?_ | refine Safe.skip ?_ | with_reducible refine thenQ.n ?_ | with_reducible refine blockQ.n ?_)
    refine ifG h (fun hc363 h => ?_) (fun hc363 h => ?_)
    · skip
      refine Safe.condK rfl hc363 ?_
      repeat (first | refine Safe.seq ?_ | refine Safe.skip ?_ | with_reducible refine thenQ.n ?_ | with_reducible refine blockQ.n ?_)
      refine Safe.region ?_
      refine SafeOps.quiet0 E_good rfl rfl rfl (v := V.int .i64 ((mget m_359 a0_357).getD 0)) (.fn rfl) ?_
      refine SafeOps.quiet0 E_good rfl rfl rfl (v := V.int .i64 ((mget m_359 a0_357).getD 0)) (.fn rfl) ?_
      refine SafeOps.quiet0 E_good rfl rfl rfl (v := V.int .i64 0) (.fn rfl) ?_
      refine SafeOps.nil ?_
      repeat (first | refine Safe.seq ?_ | refine Safe.skip ?_ | with_reducible refine thenQ.n ?_ | with_reducible refine blockQ.n ?_)
      refine Safe.ret ?_
      repeat (first | with_reducible refine thenQ.r ?_ | with_reducible refine blockQ.r ?_)
      obtain rfl := Option.some.inj h
      refine siQ.gen (vs := [V.int .i64 ((mget m_359 a0_357).getD 0), V.int .i64 0]) rfl (.tmp (v := V.int .i64 ((mget m_359 a0_357).getD 0)) rfl (.tmp (v := V.int .i64 0) rfl .nil)) rfl rfl ?_ (.inr rfl)
      exact ⟨rfl, rfl, rfl, rfl, rfl, rfl, trivial⟩
    · skip
      refine Safe.condN rfl hc363 ?_
      repeat (first | refine Safe.seq ?_ | refine Safe.skip ?_ | with_reducible refine thenQ.n ?_ | with_reducible refine blockQ.n ?_)
      refine Safe.region ?_
      refine SafeOps.quiet0 E_good rfl rfl rfl (v := V.mapr [22]) (.load rfl rfl (.box rfl rfl) rfl) ?_
      refine SafeOps.quiet0 E_good rfl rfl rfl (v := V.int .i64 a0_357) (.fn rfl) ?_
      refine SafeOps.mputM (fun n : Int => V.int .i64 n) (fun b : Bool => V.bool b) m_360 a0_357 true E_good (keyI .i64) rfl (.inl rfl) rfl rfl rfl rfl rfl rfl rfl rfl rfl ?_
      refine SafeOps.nil ?_
      repeat (first | refine Safe.seq ?_ | refine Safe.skip ?_ | with_reducible refine thenQ.n ?_ | with_reducible refine blockQ.n ?_)
      refine Safe.region ?_
      refine SafeOps.quiet0 E_good rfl rfl rfl (v := V.int .i64 1) (.fn rfl) ?_
      refine SafeOps.nil ?_
      repeat (first | refine Safe.seq ?_ | refine Safe.skip ?_ | with_reducible refine thenQ.n ?_ | with_reducible refine blockQ.n ?_)
      refine Safe.region ?_
      refine SafeOps.quiet0 E_good rfl rfl rfl (v := V.sl 1 (rws (fun l => [V.sl 3 (rws api_Instr.cells l)]) l_358)) (.load rfl rfl (.box rfl rfl) rfl) ?_
      refine SafeOps.quiet0 E_good rfl rfl rfl (v := V.int .i64 a0_357) (.fn rfl) ?_
      refine okG h (fun hb364 h => ?_)
      refine SafeOps.quiet0 E_good rfl rfl rfl (v := V.spt 1 (rws (fun l => [V.sl 3 (rws api_Instr.cells l)]) l_358) (Int.toNat a0_357) 0) (.idxSlM (f := (fun l => [V.sl 3 (rws api_Instr.cells l)])) rfl rfl rfl rfl rfl hb364) ?_
      refine SafeOps.quiet0 E_good rfl rfl rfl (v := V.sl 3 (rws api_Instr.cells (gt l_358 a0_357))) (.load rfl rfl (.sptM (f := (fun l => [V.sl 3 (rws api_Instr.cells l)])) hb364 rfl) rfl) ?_
      refine bindG h ?_
      intro x_401 he402 h
      refine SafeOps.quiet0 E_good rfl rfl rfl (v := V.sl 3 (rws api_Instr.cells x_401)) (.callP rfl rfl (go_code_reached_sc (gt l_358 a0_357) _ he402) rfl) ?_
      refine SafeOps.quiet0 E_good rfl rfl rfl (v := V.int .i64 (x_401.length : Int)) (.fnE rfl lenE) ?_
      refine SafeOps.quiet0 E_good rfl rfl rfl (v := V.int .i64 0) (.fn rfl) ?_
      refine SafeOps.nil ?_
      repeat (first | refine Safe.seq ?_ | refine Safe.skip ?_ | with_reducible refine thenQ.n ?_ | with_reducible refine blockQ.n ?_)
      refine Safe.block ?_
      repeat (first | refine Safe.seq ?_ | refine Safe.skip ?_ | with_reducible refine thenQ.n ?_ | with_reducible refine blockQ.n ?_)
      refine Safe.loopW (fun ((v10_461, v34_462, vm_463, vm_464) : Int × Int × (List (Int × Int)) × (List (Int × Bool))) => ⟨Try.f27.ntmps, [(0, V.int .i64 a0_357), (1, V.ptr [7] 0 0), (2, V.ptr [6] 0 0), (4, V.ptr [8] 0 0), (10, V.int .i64 v10_461), (32, V.sl 3 (rws api_Instr.cells x_401)), (33, V.int .i64 (x_401.length : Int)), (34, V.int .i64 v34_462)], [([2], Obj.box [V.sl 1 (rws (fun l => [V.sl 3 (rws api_Instr.cells l)]) l_358)]), ([6], Obj.box [V.mapr [21]]), ([7], Obj.box [V.mapr [22]]), ([8], Obj.box [V.fn 27 [V.ptr [7] 0 0, V.ptr [6] 0 0, V.ptr [2] 0 0, V.ptr [8] 0 0]]), ([21], Go.AM.Obj.map (mps (fun n : Int => V.int .i64 n) (fun n : Int => V.int .i64 n) vm_463)), ([22], Go.AM.Obj.map (mps (fun n : Int => V.int .i64 n) (fun b : Bool => V.bool b) vm_464))], [(6, [(0, V.ptr [2] 0 0), (1, V.ptr [6] 0 0), (2, V.ptr [7] 0 0), (3, V.ptr [8] 0 0), (4, V.mapr [21]), (5, V.mapr [22])])], [9999]⟩) h (.cov ⟨rfl, rfl, (upT_cons (.refl _) (upT_cons (.refl _) (upT_cons (.refl _) (upT_cons (.refl _) (upT_cons (.refl _) (upT_cons (.refl _) (upT_cons (.refl _) (upT_cons (.refl _) upT_nil)))))))), (upOb_cons rfl (.refl _) (upOb_cons rfl (.refl _) (upOb_cons rfl (.refl _) (upOb_cons rfl (.refl _) (upOb_cons rfl (.refl _) (upOb_cons rfl (.refl _) upOb_nil)))))), (upOut_cons rfl (upT_cons (.refl _) (upT_cons (.refl _) (upT_cons (.refl _) (upT_cons (.refl _) (upT_cons (.refl _) (upT_cons (.refl _) upT_nil)))))) upOut_nil), rfl⟩) ?_
      rintro ⟨v10_461, v34_462, vm_463, vm_464⟩ ohr465 h hr465
      replace h : go_code_Tasks_1_b_s2 a0_357 l_358 rec_361 x_401 (v10_461, v34_462, vm_463, vm_464) = some ohr465 := h
      rw [go_code_Tasks_1_b_s2] at h
      repeat (first | refine Safe.seq ?_ | refine Safe.skip ?_ | with_reducible refine thenQ.n ?_ | with_reducible refine blockQ.n ?_)
      refine Safe.region ?_
      refine SafeOps.quiet0 E_good rfl rfl rfl (v := V.bool (decide (v34_462 < (x_401.length : Int)))) (.fn rfl) ?_
      refine SafeOps.nil ?_
      repeat (first | refine Safe.seq ?_ | refine Safe.skip ?_ | with_reducible refine thenQ.n ?_ | with_reducible refine blockQ.n ?_)
      refine ifG h (fun hc466 h => ?_) (fun hc466 h => ?_)
      · skip
        refine Safe.condK rfl hc466 ?_
        repeat (first | refine Safe.seq ?_ | refine Safe.skip ?_ | with_reducible refine thenQ.n ?_ | with_reducible refine blockQ.n ?_)
        refine Safe.block ?_
        repeat (first | refine Safe.seq ?_ | refine Safe.skip ?_ | with_reducible refine thenQ.n ?_ | with_reducible refine blockQ.n ?_)
        refine Safe.region ?_
        refine okG h (fun hb467 h => ?_)
        refine SafeOps.quiet0 E_good rfl rfl rfl (v := V.spt 3 (rws api_Instr.cells x_401) (Int.toNat v34_462) 0) (.idxSlM (f := api_Instr.cells) rfl rfl rfl rfl rfl hb467) ?_
        refine SafeOps.quiet0 E_good rfl rfl rfl (v := V.agg [V.int .i64 ((gt x_401 v34_462).Op), V.int .i64 ((gt x_401 v34_462).A), V.int .i64 ((gt x_401 v34_462).B)]) (.load rfl rfl (.sptM (f := api_Instr.cells) hb467 rfl) rfl) ?_
        refine SafeOps.quiet1 E_good rfl rfl rfl (.alloc rfl rfl) rfl ?_
        refine SafeOps.store (z := Obj.box [V.int .i64 ((gt x_401 v34_462).Op), V.int .i64 ((gt x_401 v34_462).A), V.int .i64 ((gt x_401 v34_462).B)]) E_good rfl rfl rfl rfl rfl rfl rfl (.boxM (c := 3) rfl rfl (Nat.le_of_ble_eq_true rfl) rfl) ?_
        refine SafeOps.nil ?_
        repeat (first | refine Safe.seq ?_ | refine Safe.skip ?_ | with_reducible refine thenQ.n ?_ | with_reducible refine blockQ.n ?_)
        refine Safe.region ?_
        refine SafeOps.quiet0 E_good rfl rfl rfl (v := V.ptr [9999, 12] 0 0) (.fn rfl) ?_
        refine SafeOps.quiet0 E_good rfl rfl rfl (v := V.int .i64 ((gt x_401 v34_462).Op)) (.load rfl rfl (.box rfl rfl) rfl) ?_
        refine SafeOps.quiet0 E_good rfl rfl rfl (v := V.bool (((gt x_401 v34_462).Op) != 2)) (.fn rfl) ?_
        refine SafeOps.nil ?_
        repeat (first | refine Safe.seq ?_ | refine Safe.skip ?_ | with_reducible refine thenQ.n ?_ | with_reducible refine blockQ.n ?_)
        refine ifG h (fun hc468 h => ?_) (fun hc468 h => ?_)
        · skip
          refine Safe.condK rfl hc468 ?_
          repeat (first | refine Safe.seq ?_ | refine Safe.skip ?_ | with_reducible refine thenQ.n ?_ | with_reducible refine blockQ.n ?_)
          refine Safe.exit ?_
          repeat (first | with_reducible refine thenQ.e ?_ | with_reducible refine blockQ.x rfl ?_ | with_reducible refine blockQ.y rfl ?_)
          repeat (first | refine Safe.seq ?_ | refine Safe.skip ?_ | with_reducible refine thenQ.n ?_ | with_reducible refine blockQ.n ?_)
          refine Safe.region ?_
          refine SafeOps.quiet0 E_good rfl rfl rfl (v := V.int .i64 (IntKind.i64.wrap (v34_462 + 1))) (.fn rfl) ?_
          refine SafeOps.quiet0 E_good rfl rfl rfl (v := V.int .i64 (IntKind.i64.wrap (v34_462 + 1))) (.fn rfl) ?_
          refine SafeOps.nil ?_
          repeat (first | refine Safe.seq ?_ | refine Safe.skip ?_ | with_reducible refine thenQ.n ?_ | with_reducible refine blockQ.n ?_)
          exact ⟨_, next_out h, (.cov ⟨rfl, rfl, (upT_cons (.refl _) (upT_cons (.refl _) (upT_cons (.refl _) (upT_cons (.refl _) (upT_cons (.refl _) (upT_cons (.refl _) (upT_cons (.refl _) (upT_cons (.refl _) upT_nil)))))))), (upOb_cons rfl (.refl _) (upOb_cons rfl (.refl _) (upOb_cons rfl (.refl _) (upOb_cons rfl (.refl _) (upOb_cons rfl (.refl _) (upOb_cons rfl (.refl _) upOb_nil)))))), (upOut_cons rfl (upT_cons (.refl _) (upT_cons (.refl _) (upT_cons (.refl _) (upT_cons (.refl _) (upT_cons (.refl _) (upT_cons (.refl _) upT_nil)))))) upOut_nil), rfl⟩)⟩
        · skip
          refine Safe.condN rfl hc468 ?_
          repeat (first | refine Safe.seq ?_ | refine Safe.skip ?_ | with_reducible refine thenQ.n ?_ | with_reducible refine blockQ.n ?_)
          refine Safe.region ?_
          refine SafeOps.quiet0 E_good rfl rfl rfl (v := V.fn 27 [V.ptr [7] 0 0, V.ptr [6] 0 0, V.ptr [2] 0 0, V.ptr [8] 0 0]) (.load rfl rfl (.box rfl rfl) rfl) ?_
          refine SafeOps.quiet0 E_good rfl rfl rfl (v := V.ptr [9999, 12] 0 1) (.fn rfl) ?_
          refine SafeOps.quiet0 E_good rfl rfl rfl (v := V.int .i64 ((gt x_401 v34_462).A)) (.load rfl rfl (.box rfl rfl) rfl) ?_
          refine bindG h ?_
          rintro ⟨x_469, x_470, m_471, m_472⟩ he473 h
          refine SafeOps.callI (obs := [([2], Obj.box [V.sl 1 (rws (fun l => [V.sl 3 (rws api_Instr.cells l)]) l_358)]), ([6], Obj.box [V.mapr [21]]), ([7], Obj.box [V.mapr [22]]), ([8], Obj.box [V.fn 27 [V.ptr [7] 0 0, V.ptr [6] 0 0, V.ptr [2] 0 0, V.ptr [8] 0 0]]), ([21], Go.AM.Obj.map (mps (fun n : Int => V.int .i64 n) (fun n : Int => V.int .i64 n) vm_463)), ([22], Go.AM.Obj.map (mps (fun n : Int => V.int .i64 n) (fun b : Bool => V.bool b) vm_464))]) (obs' := [([2], Obj.box [V.sl 1 (rws (fun l => [V.sl 3 (rws api_Instr.cells l)]) l_358)]), ([6], Obj.box [V.mapr [21]]), ([7], Obj.box [V.mapr [22]]), ([8], Obj.box [V.fn 27 [V.ptr [7] 0 0, V.ptr [6] 0 0, V.ptr [2] 0 0, V.ptr [8] 0 0]]), ([21], Go.AM.Obj.map (mps (fun n : Int => V.int .i64 n) (fun n : Int => V.int .i64 n) m_471)), ([22], Go.AM.Obj.map (mps (fun n : Int => V.int .i64 n) (fun b : Bool => V.bool b) m_472))]) rfl rfl rfl rfl rfl (HR_rec_361 ((gt x_401 v34_462).A) l_358 vm_463 vm_464 _ he473) (.box (.box (.box (.box (.map (.map .nil)))))) rfl ⟨rfl, rfl, rfl, rfl, rfl, rfl, trivial⟩ rfl rfl ?_
          refine SafeOps.quiet0 E_good rfl rfl rfl (v := V.tup [V.int .i64 x_469, V.int .i64 x_470]) (.fn rfl) ?_
          refine SafeOps.quiet0 E_good rfl rfl rfl (v := V.int .i64 x_469) (.fn rfl) ?_
          refine SafeOps.quiet0 E_good rfl rfl rfl (v := V.int .i64 x_470) (.fn rfl) ?_
          refine SafeOps.quiet0 E_good rfl rfl rfl (v := V.int .i64 x_469) (.fn rfl) ?_
          refine SafeOps.quiet0 E_good rfl rfl rfl (v := V.int .i64 x_470) (.fn rfl) ?_
          refine SafeOps.nil ?_
          repeat (first | refine Safe.seq ?_ | refine Safe.skip ?_ | with_reducible refine thenQ.n ?_ | with_reducible refine blockQ.n ?_)
          refine Safe.region ?_
          refine SafeOps.quiet0 E_good rfl rfl rfl (v := V.int .i64 x_470) (.fn rfl) ?_
          refine SafeOps.quiet0 E_good rfl rfl rfl (v := V.bool (x_470 != 0)) (.fn rfl) ?_
          refine SafeOps.nil ?_
          repeat (first | refine Safe.seq ?_ | refine Safe.skip ?_ | with_reducible refine thenQ.n ?_ | with_reducible refine blockQ.n ?_)
          refine ifG h (fun hc474 h => ?_) (fun hc474 h => ?_)
          · skip
            refine Safe.condK rfl hc474 ?_
            repeat (first | refine Safe.seq ?_ | refine Safe.skip ?_ | with_reducible refine thenQ.n ?_ | with_reducible refine blockQ.n ?_)
            refine Safe.region ?_
            refine SafeOps.quiet0 E_good rfl rfl rfl (v := V.int .i64 x_470) (.fn rfl) ?_
            refine SafeOps.quiet0 E_good rfl rfl rfl (v := V.int .i64 0) (.fn rfl) ?_
            refine SafeOps.quiet0 E_good rfl rfl rfl (v := V.int .i64 x_470) (.fn rfl) ?_
            refine SafeOps.nil ?_
            repeat (first | refine Safe.seq ?_ | refine Safe.skip ?_ | with_reducible refine thenQ.n ?_ | with_reducible refine blockQ.n ?_)
            refine Safe.ret ?_
            repeat (first | with_reducible refine thenQ.r ?_ | with_reducible refine blockQ.r ?_)
            replace h := inr_out h hr465
            obtain rfl := Option.some.inj h
            refine siQ.gen (vs := [V.int .i64 0, V.int .i64 x_470]) rfl (.tmp (v := V.int .i64 0) rfl (.tmp (v := V.int .i64 x_470) rfl .nil)) rfl rfl ?_ (.inr rfl)
            exact ⟨rfl, rfl, rfl, rfl, rfl, rfl, trivial⟩
          · skip
            refine Safe.condN rfl hc474 ?_
            repeat (first | refine Safe.seq ?_ | refine Safe.skip ?_ | with_reducible refine thenQ.n ?_ | with_reducible refine blockQ.n ?_)
            refine Safe.region ?_
            refine SafeOps.quiet0 E_good rfl rfl rfl (v := V.int .i64 v10_461) (.fn rfl) ?_
            refine SafeOps.quiet0 E_good rfl rfl rfl (v := V.int .i64 x_469) (.fn rfl) ?_
            refine SafeOps.quiet0 E_good rfl rfl rfl (v := V.int .i64 (IntKind.i64.wrap (v10_461 + x_469))) (.fn rfl) ?_
            refine SafeOps.quiet0 E_good rfl rfl rfl (v := V.int .i64 (if 1099511627777 < (IntKind.i64.wrap (v10_461 + x_469)) then 1099511627777 else IntKind.i64.wrap (v10_461 + x_469))) (.fn rfl) ?_
            refine SafeOps.quiet0 E_good rfl rfl rfl (v := V.int .i64 (if 1099511627777 < (IntKind.i64.wrap (v10_461 + x_469)) then 1099511627777 else IntKind.i64.wrap (v10_461 + x_469))) (.fn rfl) ?_
            refine SafeOps.nil ?_
            repeat (first | refine Safe.seq ?_ | refine Safe.skip ?_ | with_reducible refine thenQ.n ?_ | with_reducible refine blockQ.n ?_)
            refine Safe.region ?_
            refine SafeOps.quiet0 E_good rfl rfl rfl (v := V.int .i64 (IntKind.i64.wrap (v34_462 + 1))) (.fn rfl) ?_
            refine SafeOps.quiet0 E_good rfl rfl rfl (v := V.int .i64 (IntKind.i64.wrap (v34_462 + 1))) (.fn rfl) ?_
            refine SafeOps.nil ?_
            repeat (first | refine Safe.seq ?_ | refine Safe.skip ?_ | with_reducible refine thenQ.n ?_ | with_reducible refine blockQ.n ?_)
            exact ⟨_, next_out h, (.cov ⟨rfl, rfl, (upT_cons (.refl _) (upT_cons (.refl _) (upT_cons (.refl _) (upT_cons (.refl _) (upT_cons (.refl _) (upT_cons (.refl _) (upT_cons (.refl _) (upT_cons (.refl _) upT_nil)))))))), (upOb_cons rfl (.refl _) (upOb_cons rfl (.refl _) (upOb_cons rfl (.refl _) (upOb_cons rfl (.refl _) (upOb_cons rfl (.refl _) (upOb_cons rfl (.refl _) upOb_nil)))))), (upOut_cons rfl (upT_cons (.refl _) (upT_cons (.refl _) (upT_cons (.refl _) (upT_cons (.refl _) (upT_cons (.refl _) (upT_cons (.refl _) upT_nil)))))) upOut_nil), rfl⟩)⟩
      · skip
        refine Safe.condN rfl hc466 ?_
        repeat (first | refine Safe.seq ?_ | refine Safe.skip ?_ | with_reducible refine thenQ.n ?_ | with_reducible refine blockQ.n ?_)
        refine Safe.exit ?_
        repeat (first | with_reducible refine thenQ.e ?_ | with_reducible refine blockQ.x rfl ?_ | with_reducible refine blockQ.y rfl ?_)
        replace h := inr_out h hr465
        repeat (first | refine Safe.seq ?_ | refine Safe.skip ?_ | with_reducible refine thenQ.n ?_ | with_reducible refine blockQ.n ?_)
        refine Safe.region ?_
        refine SafeOps.quiet0 E_good rfl rfl rfl (v := V.mapr [22]) (.load rfl rfl (.box rfl rfl) rfl) ?_
        refine SafeOps.quiet0 E_good rfl rfl rfl (v := V.int .i64 a0_357) (.fn rfl) ?_
        refine SafeOps.mdelM (fun n : Int => V.int .i64 n) (fun b : Bool => V.bool b) vm_464 a0_357 E_good (keyI .i64) rfl rfl rfl rfl rfl rfl rfl rfl rfl ?_
        refine SafeOps.nil ?_
        repeat (first | refine Safe.seq ?_ | refine Safe.skip ?_ | with_reducible refine thenQ.n ?_ | with_reducible refine blockQ.n ?_)
        refine Safe.region ?_
        refine SafeOps.quiet0 E_good rfl rfl rfl (v := V.mapr [21]) (.load rfl rfl (.box rfl rfl) rfl) ?_
        refine SafeOps.quiet0 E_good rfl rfl rfl (v := V.int .i64 a0_357) (.fn rfl) ?_
        refine SafeOps.quiet0 E_good rfl rfl rfl (v := V.int .i64 v10_461) (.fn rfl) ?_
        refine SafeOps.mputM (fun n : Int => V.int .i64 n) (fun n : Int => V.int .i64 n) vm_463 a0_357 v10_461 E_good (keyI .i64) rfl (.inl rfl) rfl rfl rfl rfl rfl rfl rfl rfl rfl ?_
        refine SafeOps.nil ?_
        repeat (first | refine Safe.seq ?_ | refine Safe.skip ?_ | with_reducible refine thenQ.n ?_ | with_reducible refine blockQ.n ?_)
        refine Safe.region ?_
        refine SafeOps.quiet0 E_good rfl rfl rfl (v := V.int .i64 v10_461) (.fn rfl) ?_
        refine SafeOps.quiet0 E_good rfl rfl rfl (v := V.int .i64 v10_461) (.fn rfl) ?_
        refine SafeOps.quiet0 E_good rfl rfl rfl (v := V.int .i64 0) (.fn rfl) ?_
        refine SafeOps.nil ?_
        repeat (first | refine Safe.seq ?_ | refine Safe.skip ?_ | with_reducible refine thenQ.n ?_ | with_reducible refine blockQ.n ?_)
        refine Safe.ret ?_
        repeat (first | with_reducible refine thenQ.r ?_ | with_reducible refine blockQ.r ?_)
        obtain rfl := Option.some.inj h
        refine siQ.gen (vs := [V.int .i64 v10_461, V.int .i64 0]) rfl (.tmp (v := V.int .i64 v10_461) rfl (.tmp (v := V.int .i64 0) rfl .nil)) rfl rfl ?_ (.inr rfl)
        exact ⟨rfl, rfl, rfl, rfl, rfl, rfl, trivial⟩

noncomputable def go_code_Tasks_1 : Nat → Int → (List (List api_Instr)) → (List (Int × Int)) → (List (Int × Bool)) → Option (Int × Int × (List (Int × Int)) × (List (Int × Bool)))
  | 0 => fun _ _ _ _ => none
  | n + 1 => go_code_Tasks_1_b (go_code_Tasks_1 n)

theorem go_code_Tasks_1_si : ∀ (n : Nat) (a0_357 : Int) (l_358 : List (List api_Instr)) (m_359 : List (Int × Int)) (m_360 : List (Int × Bool)) (r : Int × Int × (List (Int × Int)) × (List (Int × Bool))), go_code_Tasks_1 n a0_357 l_358 m_359 m_360 = some r → SI Try.prog gl 27 [V.int .i64 a0_357, V.ptr [7] 0 0, V.ptr [6] 0 0, V.ptr [2] 0 0, V.ptr [8] 0 0] [([2], Go.AM.Obj.box [V.sl 1 (rws (fun l => [V.sl 3 (rws api_Instr.cells l)]) l_358)]), ([6], Go.AM.Obj.box [V.mapr [21]]), ([7], Go.AM.Obj.box [V.mapr [22]]), ([8], Go.AM.Obj.box [V.fn 27 [V.ptr [7] 0 0, V.ptr [6] 0 0, V.ptr [2] 0 0, V.ptr [8] 0 0]]), ([21], Go.AM.Obj.map (mps (fun n : Int => V.int .i64 n) (fun n : Int => V.int .i64 n) m_359)), ([22], Go.AM.Obj.map (mps (fun n : Int => V.int .i64 n) (fun b : Bool => V.bool b) m_360))] [([2], Go.AM.Obj.box [V.sl 1 (rws (fun l => [V.sl 3 (rws api_Instr.cells l)]) l_358)]), ([6], Go.AM.Obj.box [V.mapr [21]]), ([7], Go.AM.Obj.box [V.mapr [22]]), ([8], Go.AM.Obj.box [V.fn 27 [V.ptr [7] 0 0, V.ptr [6] 0 0, V.ptr [2] 0 0, V.ptr [8] 0 0]]), ([21], Go.AM.Obj.map (mps (fun n : Int => V.int .i64 n) (fun n : Int => V.int .i64 n) r.2.2.1)), ([22], Go.AM.Obj.map (mps (fun n : Int => V.int .i64 n) (fun b : Bool => V.bool b) r.2.2.2))] (V.tup [V.int .i64 r.1, V.int .i64 r.2.1])
  | 0, _, _, _, _, _, h => by cases h
  | n + 1, a0_357, l_358, m_359, m_360, r, h => go_code_Tasks_1_b_si (go_code_Tasks_1 n) (go_code_Tasks_1_si n) a0_357 l_358 m_359 m_360 r h

noncomputable def go_code_Tasks (a0_3 : List (List api_Instr)) (a1_4 : Int) : Option (Int × Int) :=
  (go_code_CheckAll a0_3).bind fun x_482 =>
  if ((x_482 != 0) || (!(go_code_within a1_4 (a0_3.length : Int)))) = true then
    some (0, 1)
  else
    (go_code_Tasks_1 1000 a1_4 a0_3 [] []).bind fun (x_486, x_487, m_488, m_489) =>
    if (x_487 != 0) = true then
      some (0, x_487)
    else
      if (decide (x_486 > 1099511627776)) = true then
        some (0, 4)
      else
        some (x_486, 0)

theorem go_code_Tasks_sc (a0_3 : List (List api_Instr)) (a1_4 : Int) (r : Int × Int) (h : go_code_Tasks a0_3 a1_4 = some r) : SC Try.prog gl 12 [V.sl 1 (rws (fun l => [V.sl 3 (rws api_Instr.cells l)]) a0_3), V.int .i64 a1_4] (V.tup [V.int .i64 r.1, V.int .i64 r.2]) := by
  rw [go_code_Tasks] at h
  refine SC.of E_good Try.func12 rfl (fun _ _ => Try.call12 _ _) rfl ?_
  repeat (first | refine Safe.seq ?_ | refine Safe.skip ?_ | with_reducible refine thenQ.n ?_ | with_reducible refine blockQ.n ?_)
  refine Safe.region ?_
  refine SafeOps.quiet1 E_good rfl rfl rfl (.box rfl rfl) rfl ?_
  refine SafeOps.quiet0 E_good rfl rfl rfl (v := V.int .i64 0) (.fn rfl) ?_
  refine SafeOps.quiet0 E_good rfl rfl rfl (v := V.int .i64 0) (.fn rfl) ?_
  refine SafeOps.nil ?_
  repeat (first | refine Safe.seq ?_ | refine Safe.skip ?_ | with_reducible refine thenQ.n ?_ | with_reducible refine blockQ.n ?_)
  refine Safe.region ?_
  refine SafeOps.quiet0 E_good rfl rfl rfl (v := V.sl 1 (rws (fun l => [V.sl 3 (rws api_Instr.cells l)]) a0_3)) (.load rfl rfl (.box rfl rfl) rfl) ?_
  refine bindG h ?_
  intro x_482 he483 h
  refine SafeOps.quiet0 E_good rfl rfl rfl (v := V.int .i64 x_482) (.callP rfl rfl (go_code_CheckAll_sc a0_3 _ he483) rfl) ?_
  refine SafeOps.quiet0 E_good rfl rfl rfl (v := V.bool (x_482 != 0)) (.fn rfl) ?_
  refine SafeOps.quiet0 E_good rfl rfl rfl (v := V.bool (x_482 != 0)) (.fn rfl) ?_
  refine SafeOps.bjoin 6 20 (b := ((x_482 != 0) || (!(go_code_within a1_4 (a0_3.length : Int))))) (b1 := true) (b0 := (!(go_code_within a1_4 (a0_3.length : Int)))) (fun hc484 K => ?_) (fun hc484 K => ?_) bj_or ?_
  · skip
    refine SafeOps.skip (congrArg (fun b => some (!b)) hc484) rfl rfl ?_
    refine SafeOps.skip (congrArg (fun b => some (!b)) hc484) rfl rfl ?_
    refine SafeOps.skip (congrArg (fun b => some (!b)) hc484) rfl rfl ?_
    refine SafeOps.skip (congrArg (fun b => some (!b)) hc484) rfl rfl ?_
    refine SafeOps.skip (congrArg (fun b => some (!b)) hc484) rfl rfl ?_
    refine SafeOps.quiet0 E_good rfl rfl rfl (v := V.bool true) (.pickK rfl hc484 rfl) ?_
    exact SafeOps.drop' 6 rfl rfl rfl K
  · skip
    refine SafeOps.quiet0 E_good (congrArg (fun b => some (!b)) hc484) rfl rfl (v := V.int .i64 a1_4) (.fn rfl) ?_
    refine SafeOps.quiet0 E_good (congrArg (fun b => some (!b)) hc484) rfl rfl (v := V.sl 1 (rws (fun l => [V.sl 3 (rws api_Instr.cells l)]) a0_3)) (.load rfl rfl (.box rfl rfl) rfl) ?_
    refine SafeOps.quiet0 E_good (congrArg (fun b => some (!b)) hc484) rfl rfl (v := V.int .i64 (a0_3.length : Int)) (.fnE rfl lenE) ?_
    refine SafeOps.quiet0 E_good (congrArg (fun b => some (!b)) hc484) rfl rfl (v := V.bool (go_code_within a1_4 (a0_3.length : Int))) (.callP rfl rfl (go_code_within_sc a1_4 (a0_3.length : Int) _ rfl) rfl) ?_
    refine SafeOps.quiet0 E_good (congrArg (fun b => some (!b)) hc484) rfl rfl (v := V.bool (!(go_code_within a1_4 (a0_3.length : Int)))) (.fn rfl) ?_
    refine SafeOps.quiet0 E_good rfl rfl rfl (v := V.bool (!(go_code_within a1_4 (a0_3.length : Int)))) (.pickK rfl hc484 rfl) ?_
    exact SafeOps.drop' 6 rfl rfl rfl K
  refine SafeOps.nil ?_
  repeat (first | refine Safe.seq ?_ | refine Safe.skip ?_ | with_reducible refine thenQ.n ?_ | with_reducible refine blockQ.n ?_)
  refine ifG h (fun hc485 h => ?_) (fun hc485 h => ?_)
  · skip
    refine Safe.condK rfl hc485 ?_
    repeat (first | refine Safe.seq ?_ | refine Safe.skip ?_ | with_reducible refine thenQ.n ?_ | with_reducible refine blockQ.n ?_)
    refine Safe.region ?_
    refine SafeOps.quiet0 E_good rfl rfl rfl (v := V.int .i64 0) (.fn rfl) ?_
    refine SafeOps.quiet0 E_good rfl rfl rfl (v := V.int .i64 1) (.fn rfl) ?_
    refine SafeOps.nil ?_
    repeat (first | refine Safe.seq ?_ | refine Safe.skip ?_ | with_reducible refine thenQ.n ?_ | with_reducible refine blockQ.n ?_)
    refine Safe.ret ?_
    repeat (first | with_reducible refine thenQ.r ?_ | with_reducible refine blockQ.r ?_)
    obtain rfl := Option.some.inj h
    exact retQ.gen (vs := [V.int .i64 0, V.int .i64 1]) rfl (.tmp (v := V.int .i64 0) rfl (.tmp (v := V.int .i64 1) rfl .nil)) (.free rfl) (by simp) (.inr rfl)
  · skip
    refine Safe.condN rfl hc485 ?_
    repeat (first | refine Safe.seq ?_ | refine Safe.skip ?_ | with_reducible refine thenQ.n ?_ | with_reducible refine blockQ.n ?_)
    refine Safe.region ?_
    refine SafeOps.quiet1 E_good rfl rfl rfl (.mkMapM (fun n : Int => V.int .i64 n) (fun n : Int => V.int .i64 n)) rfl ?_
    refine SafeOps.quiet1 E_good rfl rfl rfl (.mkMapM (fun n : Int => V.int .i64 n) (fun b : Bool => V.bool b)) rfl ?_
    refine SafeOps.quiet1 E_good rfl rfl rfl (.alloc rfl rfl) rfl ?_
    refine SafeOps.quiet1 E_good rfl rfl rfl (.alloc rfl rfl) rfl ?_
    refine SafeOps.store (z := Obj.box [V.mapr [21]]) E_good rfl rfl rfl rfl rfl rfl rfl (.boxM (c := 1) rfl rfl (Nat.le_of_ble_eq_true rfl) rfl) ?_
    refine SafeOps.store (z := Obj.box [V.mapr [22]]) E_good rfl rfl rfl rfl rfl rfl rfl (.boxM (c := 1) rfl rfl (Nat.le_of_ble_eq_true rfl) rfl) ?_
    refine SafeOps.nil ?_
    repeat (first | refine Safe.seq ?_ | refine Safe.skip ?_ | with_reducible refine thenQ.n ?_ | with_reducible refine blockQ.n ?_)
    refine Safe.region ?_
    refine SafeOps.quiet1 E_good rfl rfl rfl (.alloc rfl rfl) rfl ?_
    refine SafeOps.nil ?_
    repeat (first | refine Safe.seq ?_ | refine Safe.skip ?_ | with_reducible refine thenQ.n ?_ | with_reducible refine blockQ.n ?_)
    refine Safe.region ?_
    refine SafeOps.quiet0 E_good rfl rfl rfl (v := V.fn 27 [V.ptr [7] 0 0, V.ptr [6] 0 0, V.ptr [2] 0 0, V.ptr [8] 0 0]) (.fn rfl) ?_
    refine SafeOps.store (z := Obj.box [V.fn 27 [V.ptr [7] 0 0, V.ptr [6] 0 0, V.ptr [2] 0 0, V.ptr [8] 0 0]]) E_good rfl rfl rfl rfl rfl rfl rfl (.boxM (c := 1) rfl rfl (Nat.le_of_ble_eq_true rfl) rfl) ?_
    refine SafeOps.nil ?_
    repeat (first | refine Safe.seq ?_ | refine Safe.skip ?_ | with_reducible refine thenQ.n ?_ | with_reducible refine blockQ.n ?_)
    refine Safe.region ?_
    refine SafeOps.quiet0 E_good rfl rfl rfl (v := V.fn 27 [V.ptr [7] 0 0, V.ptr [6] 0 0, V.ptr [2] 0 0, V.ptr [8] 0 0]) (.load rfl rfl (.box rfl rfl) rfl) ?_
    refine SafeOps.quiet0 E_good rfl rfl rfl (v := V.int .i64 a1_4) (.fn rfl) ?_
    refine bindG h ?_
    rintro ⟨x_486, x_487, m_488, m_489⟩ he490 h
    refine SafeOps.callI (obs := [([2], Obj.box [V.sl 1 (rws (fun l => [V.sl 3 (rws api_Instr.cells l)]) a0_3)]), ([6], Obj.box [V.mapr [21]]), ([7], Obj.box [V.mapr [22]]), ([8], Obj.box [V.fn 27 [V.ptr [7] 0 0, V.ptr [6] 0 0, V.ptr [2] 0 0, V.ptr [8] 0 0]]), ([21], Go.AM.Obj.map (mps (fun n : Int => V.int .i64 n) (fun n : Int => V.int .i64 n) [])), ([22], Go.AM.Obj.map (mps (fun n : Int => V.int .i64 n) (fun b : Bool => V.bool b) []))]) (obs' := [([2], Obj.box [V.sl 1 (rws (fun l => [V.sl 3 (rws api_Instr.cells l)]) a0_3)]), ([6], Obj.box [V.mapr [21]]), ([7], Obj.box [V.mapr [22]]), ([8], Obj.box [V.fn 27 [V.ptr [7] 0 0, V.ptr [6] 0 0, V.ptr [2] 0 0, V.ptr [8] 0 0]]), ([21], Go.AM.Obj.map (mps (fun n : Int => V.int .i64 n) (fun n : Int => V.int .i64 n) m_488)), ([22], Go.AM.Obj.map (mps (fun n : Int => V.int .i64 n) (fun b : Bool => V.bool b) m_489))]) rfl rfl rfl rfl rfl (go_code_Tasks_1_si 1000 a1_4 a0_3 [] [] _ he490) (.box (.box (.box (.box (.map (.map .nil)))))) rfl ⟨rfl, rfl, rfl, rfl, rfl, rfl, trivial⟩ rfl rfl ?_
    refine SafeOps.quiet0 E_good rfl rfl rfl (v := V.tup [V.int .i64 x_486, V.int .i64 x_487]) (.fn rfl) ?_
    refine SafeOps.quiet0 E_good rfl rfl rfl (v := V.int .i64 x_486) (.fn rfl) ?_
    refine SafeOps.quiet0 E_good rfl rfl rfl (v := V.int .i64 x_487) (.fn rfl) ?_
    refine SafeOps.quiet0 E_good rfl rfl rfl (v := V.int .i64 x_486) (.fn rfl) ?_
    refine SafeOps.quiet0 E_good rfl rfl rfl (v := V.int .i64 x_487) (.fn rfl) ?_
    refine SafeOps.nil ?_
    repeat (first | refine Safe.seq ?_ | refine Safe.skip ?_ | with_reducible refine thenQ.n ?_ | with_reducible refine blockQ.n ?_)
    refine Safe.block ?_
    repeat (first | refine Safe.seq ?_ | refine Safe.skip ?_ | with_reducible refine thenQ.n ?_ | with_reducible refine blockQ.n ?_)
    refine Safe.region ?_
    refine SafeOps.quiet0 E_good rfl rfl rfl (v := V.int .i64 x_487) (.fn rfl) ?_
    refine SafeOps.quiet0 E_good rfl rfl rfl (v := V.bool (x_487 != 0)) (.fn rfl) ?_
    refine SafeOps.quiet0 E_good rfl rfl rfl (v := V.bool (x_487 != 0)) (.fn rfl) ?_
    refine SafeOps.nil ?_
    repeat (first | refine Safe.seq ?_ | refine Safe.skip ?_ | with_reducible refine thenQ.n ?_ | with_reducible refine blockQ.n ?_)
    refine ifG h (fun hc491 h => ?_) (fun hc491 h => ?_)
    · skip
      refine Safe.condK rfl hc491 ?_
      repeat (first | refine Safe.seq ?_ | refine Safe.skip ?_ | with_reducible refine thenQ.n ?_ | with_reducible refine blockQ.n ?_)
      refine Safe.region ?_
      refine SafeOps.quiet0 E_good rfl rfl rfl (v := V.int .i64 x_487) (.fn rfl) ?_
      refine SafeOps.quiet0 E_good rfl rfl rfl (v := V.int .i64 0) (.fn rfl) ?_
      refine SafeOps.quiet0 E_good rfl rfl rfl (v := V.int .i64 x_487) (.fn rfl) ?_
      refine SafeOps.nil ?_
      repeat (first | refine Safe.seq ?_ | refine Safe.skip ?_ | with_reducible refine thenQ.n ?_ | with_reducible refine blockQ.n ?_)
      refine Safe.ret ?_
      repeat (first | with_reducible refine thenQ.r ?_ | with_reducible refine blockQ.r ?_)
      obtain rfl := Option.some.inj h
      exact retQ.gen (vs := [V.int .i64 0, V.int .i64 x_487]) rfl (.tmp (v := V.int .i64 0) rfl (.tmp (v := V.int .i64 x_487) rfl .nil)) (.free rfl) (by simp) (.inr rfl)
    · skip
      refine Safe.condN rfl hc491 ?_
      repeat (first | refine Safe.seq ?_ | refine Safe.skip ?_ | with_reducible refine thenQ.n ?_ | with_reducible refine blockQ.n ?_)
      refine Safe.region ?_
      refine SafeOps.quiet0 E_good rfl rfl rfl (v := V.int .i64 x_486) (.fn rfl) ?_
      refine SafeOps.quiet0 E_good rfl rfl rfl (v := V.bool (decide (x_486 > 1099511627776))) (.fn rfl) ?_
      refine SafeOps.quiet0 E_good rfl rfl rfl (v := V.bool (decide (x_486 > 1099511627776))) (.fn rfl) ?_
      refine SafeOps.nil ?_
      repeat (first | refine Safe.seq ?_ | refine Safe.skip ?_ | with_reducible refine thenQ.n ?_ | with_reducible refine blockQ.n ?_)
      refine ifG h (fun hc492 h => ?_) (fun hc492 h => ?_)
      · skip
        refine Safe.condK rfl hc492 ?_
        repeat (first | refine Safe.seq ?_ | refine Safe.skip ?_ | with_reducible refine thenQ.n ?_ | with_reducible refine blockQ.n ?_)
        refine Safe.region ?_
        refine SafeOps.quiet0 E_good rfl rfl rfl (v := V.int .i64 0) (.fn rfl) ?_
        refine SafeOps.quiet0 E_good rfl rfl rfl (v := V.int .i64 4) (.fn rfl) ?_
        refine SafeOps.nil ?_
        repeat (first | refine Safe.seq ?_ | refine Safe.skip ?_ | with_reducible refine thenQ.n ?_ | with_reducible refine blockQ.n ?_)
        refine Safe.ret ?_
        repeat (first | with_reducible refine thenQ.r ?_ | with_reducible refine blockQ.r ?_)
        obtain rfl := Option.some.inj h
        exact retQ.gen (vs := [V.int .i64 0, V.int .i64 4]) rfl (.tmp (v := V.int .i64 0) rfl (.tmp (v := V.int .i64 4) rfl .nil)) (.free rfl) (by simp) (.inr rfl)
      · skip
        refine Safe.condN rfl hc492 ?_
        repeat (first | refine Safe.seq ?_ | refine Safe.skip ?_ | with_reducible refine thenQ.n ?_ | with_reducible refine blockQ.n ?_)
        refine Safe.region ?_
        refine SafeOps.quiet0 E_good rfl rfl rfl (v := V.int .i64 x_486) (.fn rfl) ?_
        refine SafeOps.quiet0 E_good rfl rfl rfl (v := V.int .i64 x_486) (.fn rfl) ?_
        refine SafeOps.quiet0 E_good rfl rfl rfl (v := V.int .i64 0) (.fn rfl) ?_
        refine SafeOps.nil ?_
        repeat (first | refine Safe.seq ?_ | refine Safe.skip ?_ | with_reducible refine thenQ.n ?_ | with_reducible refine blockQ.n ?_)
        refine Safe.ret ?_
        repeat (first | with_reducible refine thenQ.r ?_ | with_reducible refine blockQ.r ?_)
        obtain rfl := Option.some.inj h
        exact retQ.gen (vs := [V.int .i64 x_486, V.int .i64 0]) rfl (.tmp (v := V.int .i64 x_486) rfl (.tmp (v := V.int .i64 0) rfl .nil)) (.free rfl) (by simp) (.inr rfl)

noncomputable def go_ravellaw04_live  : Option Bool :=
  (go_code_Tasks [[(api_Instr.mk 2 1 0), (api_Instr.mk 2 1 1)], [(api_Instr.mk 1 2 0)]] 0).bind fun (x_502, x_503) =>
  if ((x_503 == 0) && (x_502 == 3)) = true then
    (go_code_CheckAll [[(api_Instr.mk 2 1 0), (api_Instr.mk 2 1 1)], [(api_Instr.mk 1 2 0)]]).bind fun x_509 =>
    some (x_509 == 0)
  else
    some false

theorem go_ravellaw04_live_sc  (r : Bool) (h : go_ravellaw04_live  = some r) : SC Try.prog gl 10 [] (V.bool r) := by
  rw [go_ravellaw04_live] at h
  refine SC.of E_good Try.func10 rfl (fun _ _ => Try.call10 _ _) rfl ?_
  repeat (first | refine Safe.seq ?_ | refine Safe.skip ?_ | with_reducible refine thenQ.n ?_ | with_reducible refine blockQ.n ?_)
  refine Safe.region ?_
  refine SafeOps.quiet0 E_good rfl rfl rfl (v := V.bool false) (.fn rfl) ?_
  refine SafeOps.nil ?_
  repeat (first | refine Safe.seq ?_ | refine Safe.skip ?_ | with_reducible refine thenQ.n ?_ | with_reducible refine blockQ.n ?_)
  refine Safe.region ?_
  refine SafeOps.quiet0 E_good rfl rfl rfl (v := V.agg [V.int .i64 2, V.int .i64 1, V.int .i64 0]) (.fn rfl) ?_
  refine SafeOps.quiet0 E_good rfl rfl rfl (v := V.agg [V.int .i64 2, V.int .i64 1, V.int .i64 1]) (.fn rfl) ?_
  refine SafeOps.quiet1 E_good rfl rfl rfl (.litM (f := api_Instr.cells) (xs := [(api_Instr.mk 2 1 0), (api_Instr.mk 2 1 1)]) rfl rfl (by decide) rfl rfl rfl rfl rfl) rfl ?_
  refine SafeOps.quiet0 E_good rfl rfl rfl (v := V.agg [V.int .i64 1, V.int .i64 2, V.int .i64 0]) (.fn rfl) ?_
  refine SafeOps.quiet1 E_good rfl rfl rfl (.litM (f := api_Instr.cells) (xs := [(api_Instr.mk 1 2 0)]) rfl rfl (by decide) rfl rfl rfl rfl rfl) rfl ?_
  refine SafeOps.freeze [6] rfl ?_
  refine SafeOps.see 6 (u := V.sl 3 (rws api_Instr.cells [(api_Instr.mk 2 1 0), (api_Instr.mk 2 1 1)])) rfl (.full rfl rfl) ?_
  refine SafeOps.freeze [8] rfl ?_
  refine SafeOps.see 8 (u := V.sl 3 (rws api_Instr.cells [(api_Instr.mk 1 2 0)])) rfl (.full rfl rfl) ?_
  refine SafeOps.quiet1 E_good rfl rfl rfl (.litM (f := (fun l => [V.sl 3 (rws api_Instr.cells l)])) (xs := [[(api_Instr.mk 2 1 0), (api_Instr.mk 2 1 1)], [(api_Instr.mk 1 2 0)]]) rfl rfl (by decide) rfl rfl rfl rfl rfl) rfl ?_
  refine SafeOps.quiet0 E_good rfl rfl rfl (v := V.ref [9] 0 (rws (fun l => [V.sl 3 (rws api_Instr.cells l)]) [[(api_Instr.mk 2 1 0), (api_Instr.mk 2 1 1)], [(api_Instr.mk 1 2 0)]]).length) (.fn rfl) ?_
  refine SafeOps.nil ?_
  repeat (first | refine Safe.seq ?_ | refine Safe.skip ?_ | with_reducible refine thenQ.n ?_ | with_reducible refine blockQ.n ?_)
  refine Safe.region ?_
  refine SafeOps.quiet0 E_good rfl rfl rfl (v := V.ref [9] 0 (rws (fun l => [V.sl 3 (rws api_Instr.cells l)]) [[(api_Instr.mk 2 1 0), (api_Instr.mk 2 1 1)], [(api_Instr.mk 1 2 0)]]).length) (.fn rfl) ?_
  refine bindG h ?_
  rintro ⟨x_502, x_503⟩ he504 h
  refine SafeOps.quiet0 E_good rfl rfl rfl (v := V.tup [V.int .i64 x_502, V.int .i64 x_503]) (.callS rfl (.cons (.full rfl rfl) (.cons (.free rfl) .nil)) (go_code_Tasks_sc [[(api_Instr.mk 2 1 0), (api_Instr.mk 2 1 1)], [(api_Instr.mk 1 2 0)]] 0 _ he504) (.tupL (.cons (.plain rfl) (.cons (.plain rfl) .nil))) rfl) ?_
  refine SafeOps.quiet0 E_good rfl rfl rfl (v := V.tup [V.int .i64 x_502, V.int .i64 x_503]) (.fn rfl) ?_
  refine SafeOps.quiet0 E_good rfl rfl rfl (v := V.int .i64 x_502) (.fn rfl) ?_
  refine SafeOps.quiet0 E_good rfl rfl rfl (v := V.int .i64 x_503) (.fn rfl) ?_
  refine SafeOps.quiet0 E_good rfl rfl rfl (v := V.int .i64 x_502) (.fn rfl) ?_
  refine SafeOps.quiet0 E_good rfl rfl rfl (v := V.int .i64 x_503) (.fn rfl) ?_
  refine SafeOps.nil ?_
  repeat (first | refine Safe.seq ?_ | refine Safe.skip ?_ | with_reducible refine thenQ.n ?_ | with_reducible refine blockQ.n ?_)
  refine Safe.region ?_
  refine SafeOps.quiet0 E_good rfl rfl rfl (v := V.int .i64 x_503) (.fn rfl) ?_
  refine SafeOps.quiet0 E_good rfl rfl rfl (v := V.bool (x_503 == 0)) (.fn rfl) ?_
  refine SafeOps.quiet0 E_good rfl rfl rfl (v := V.bool (x_503 == 0)) (.fn rfl) ?_
  refine SafeOps.bjoin 3 20 (b := ((x_503 == 0) && (x_502 == 3))) (b1 := (x_502 == 3)) (b0 := false) (fun hc505 K => ?_) (fun hc505 K => ?_) bj_and ?_
  · skip
    refine SafeOps.quiet0 E_good (congrArg some hc505) rfl rfl (v := V.int .i64 x_502) (.fn rfl) ?_
    refine SafeOps.quiet0 E_good (congrArg some hc505) rfl rfl (v := V.bool (x_502 == 3)) (.fn rfl) ?_
    refine SafeOps.quiet0 E_good rfl rfl rfl (v := V.bool (x_502 == 3)) (.pickK rfl hc505 rfl) ?_
    exact SafeOps.drop' 3 rfl rfl rfl K
  · skip
    refine SafeOps.skip (congrArg some hc505) rfl rfl ?_
    refine SafeOps.skip (congrArg some hc505) rfl rfl ?_
    refine SafeOps.quiet0 E_good rfl rfl rfl (v := V.bool false) (.pickK rfl hc505 rfl) ?_
    exact SafeOps.drop' 3 rfl rfl rfl K
  refine SafeOps.quiet0 E_good rfl rfl rfl (v := V.bool ((x_503 == 0) && (x_502 == 3))) (.fn rfl) ?_
  refine ifG h (fun hc506 h => ?_) (fun hc506 h => ?_)
  · skip
    refine SafeOps.quiet0 E_good (congrArg some hc506) rfl rfl (v := V.ref [9] 0 (rws (fun l => [V.sl 3 (rws api_Instr.cells l)]) [[(api_Instr.mk 2 1 0), (api_Instr.mk 2 1 1)], [(api_Instr.mk 1 2 0)]]).length) (.fn rfl) ?_
    refine bindG h ?_
    intro x_509 he510 h
    refine SafeOps.quiet0 E_good (congrArg some hc506) rfl rfl (v := V.int .i64 x_509) (.callS rfl (.cons (.full rfl rfl) .nil) (go_code_CheckAll_sc [[(api_Instr.mk 2 1 0), (api_Instr.mk 2 1 1)], [(api_Instr.mk 1 2 0)]] _ he510) (.plain rfl) rfl) ?_
    refine SafeOps.quiet0 E_good (congrArg some hc506) rfl rfl (v := V.bool (x_509 == 0)) (.fn rfl) ?_
    refine SafeOps.quiet0 E_good rfl rfl rfl (v := V.bool (x_509 == 0)) (.pickK rfl hc506 rfl) ?_
    refine SafeOps.quiet0 E_good rfl rfl rfl (v := V.bool (x_509 == 0)) (.fn rfl) ?_
    refine SafeOps.nil ?_
    repeat (first | refine Safe.seq ?_ | refine Safe.skip ?_ | with_reducible refine thenQ.n ?_ | with_reducible refine blockQ.n ?_)
    refine Safe.ret ?_
    repeat (first | with_reducible refine thenQ.r ?_ | with_reducible refine blockQ.r ?_)
    obtain rfl := Option.some.inj h
    exact retQ.gen (vs := [V.bool (x_509 == 0)]) rfl (.tmp (v := V.bool (x_509 == 0)) rfl .nil) (.free rfl) (by simp) (.inr rfl)
  · skip
    refine SafeOps.skip (congrArg some hc506) rfl rfl ?_
    refine SafeOps.skip (congrArg some hc506) rfl rfl ?_
    refine SafeOps.skip (congrArg some hc506) rfl rfl ?_
    refine SafeOps.quiet0 E_good rfl rfl rfl (v := V.bool false) (.pickK rfl hc506 rfl) ?_
    refine SafeOps.quiet0 E_good rfl rfl rfl (v := V.bool false) (.fn rfl) ?_
    refine SafeOps.nil ?_
    repeat (first | refine Safe.seq ?_ | refine Safe.skip ?_ | with_reducible refine thenQ.n ?_ | with_reducible refine blockQ.n ?_)
    refine Safe.ret ?_
    repeat (first | with_reducible refine thenQ.r ?_ | with_reducible refine blockQ.r ?_)
    obtain rfl := Option.some.inj h
    exact retQ.gen (vs := [V.bool false]) rfl (.tmp (v := V.bool false) rfl .nil) (.free rfl) (by simp) (.inr rfl)

noncomputable def go_ravelref04_Few_s1 (a0_790 : List (List api_Instr)) : (Int) → Option ((Int) ⊕ (Bool))
  | v7_811 =>
    if (decide (v7_811 < (a0_790.length : Int))) = true then
      if 0 ≤ v7_811 ∧ v7_811 < (a0_790.length : Int) then
        if (decide (((gt a0_790 v7_811).length : Int) > 100)) = true then
          inrO (
            some false)
        else
          nextO (IntKind.i64.wrap (v7_811 + 1))
      else none
    else
      inrO (
        some (decide ((a0_790.length : Int) ≤ 100)))

noncomputable def go_ravelref04_Few (a0_790 : List (List api_Instr)) : Option Bool :=
  whileO (go_ravelref04_Few_s1 a0_790) 0

theorem go_ravelref04_Few_sc (a0_790 : List (List api_Instr)) (r : Bool) (h : go_ravelref04_Few a0_790 = some r) : SC Try.prog gl 11 [V.sl 1 (rws (fun l => [V.sl 3 (rws api_Instr.cells l)]) a0_790)] (V.bool r) := by
  rw [go_ravelref04_Few] at h
  refine SC.of E_good Try.func11 rfl (fun _ _ => Try.call11 _ _) rfl ?_
  repeat (first | refine Safe.seq ?_ | refine Safe.skip ?_ | with_reducible refine thenQ.n ?_ | with_reducible refine blockQ.n ?_)
  refine Safe.region ?_
  refine SafeOps.quiet0 E_good rfl rfl rfl (v := V.bool false) (.fn rfl) ?_
  refine SafeOps.nil ?_
  repeat (first | refine Safe.seq ?_ | refine Safe.skip ?_ | with_reducible refine thenQ.n ?_ | with_reducible refine blockQ.n ?_)
  refine Safe.region ?_
  refine SafeOps.quiet0 E_good rfl rfl rfl (v := V.sl 1 (rws (fun l => [V.sl 3 (rws api_Instr.cells l)]) a0_790)) (.fn rfl) ?_
  refine SafeOps.quiet0 E_good rfl rfl rfl (v := V.int .i64 (a0_790.length : Int)) (.fnE rfl lenE) ?_
  refine SafeOps.quiet0 E_good rfl rfl rfl (v := V.int .i64 0) (.fn rfl) ?_
  refine SafeOps.nil ?_
  repeat (first | refine Safe.seq ?_ | refine Safe.skip ?_ | with_reducible refine thenQ.n ?_ | with_reducible refine blockQ.n ?_)
  refine Safe.block ?_
  repeat (first | refine Safe.seq ?_ | refine Safe.skip ?_ | with_reducible refine thenQ.n ?_ | with_reducible refine blockQ.n ?_)
  refine Safe.loopW (fun (v7_811 : Int) => ⟨Try.f11.ntmps, [(0, V.sl 1 (rws (fun l => [V.sl 3 (rws api_Instr.cells l)]) a0_790)), (5, V.sl 1 (rws (fun l => [V.sl 3 (rws api_Instr.cells l)]) a0_790)), (6, V.int .i64 (a0_790.length : Int)), (7, V.int .i64 v7_811)], [], [], []⟩) h (.cov ⟨rfl, rfl, (upT_cons (.refl _) (upT_cons (.refl _) (upT_cons (.refl _) (upT_cons (.refl _) upT_nil)))), upOb_nil, upOut_nil, rfl⟩) ?_
  intro v7_811 ohr812 h hr812
  replace h : go_ravelref04_Few_s1 a0_790 v7_811 = some ohr812 := h
  rw [go_ravelref04_Few_s1] at h
  repeat (first | refine Safe.seq ?_ | refine Safe.skip ?_ | with_reducible refine thenQ.n ?_ | with_reducible refine blockQ.n ?_)
  refine Safe.region ?_
  refine SafeOps.quiet0 E_good rfl rfl rfl (v := V.bool (decide (v7_811 < (a0_790.length : Int)))) (.fn rfl) ?_
  refine SafeOps.nil ?_
  repeat (first | refine Safe.seq ?_ | refine Safe.skip ?_ | with_reducible refine thenQ.n ?_ | with_reducible refine blockQ.n ?_)
  refine ifG h (fun hc813 h => ?_) (fun hc813 h => ?_)
  · skip
    refine Safe.condK rfl hc813 ?_
    repeat (first | refine Safe.seq ?_ | refine Safe.skip ?_ | with_reducible refine thenQ.n ?_ | with_reducible refine blockQ.n ?_)
    refine Safe.block ?_
    repeat (first | refine Safe.seq ?_ | refine Safe.skip ?_ | with_reducible refine thenQ.n ?_ | with_reducible refine blockQ.n ?_)
    refine Safe.region ?_
    refine okG h (fun hb814 h => ?_)
    refine SafeOps.quiet0 E_good rfl rfl rfl (v := V.spt 1 (rws (fun l => [V.sl 3 (rws api_Instr.cells l)]) a0_790) (Int.toNat v7_811) 0) (.idxSlM (f := (fun l => [V.sl 3 (rws api_Instr.cells l)])) rfl rfl rfl rfl rfl hb814) ?_
    refine SafeOps.quiet0 E_good rfl rfl rfl (v := V.sl 3 (rws api_Instr.cells (gt a0_790 v7_811))) (.load rfl rfl (.sptM (f := (fun l => [V.sl 3 (rws api_Instr.cells l)])) hb814 rfl) rfl) ?_
    refine SafeOps.quiet0 E_good rfl rfl rfl (v := V.sl 3 (rws api_Instr.cells (gt a0_790 v7_811))) (.fn rfl) ?_
    refine SafeOps.nil ?_
    repeat (first | refine Safe.seq ?_ | refine Safe.skip ?_ | with_reducible refine thenQ.n ?_ | with_reducible refine blockQ.n ?_)
    refine Safe.region ?_
    refine SafeOps.quiet0 E_good rfl rfl rfl (v := V.sl 3 (rws api_Instr.cells (gt a0_790 v7_811))) (.fn rfl) ?_
    refine SafeOps.quiet0 E_good rfl rfl rfl (v := V.int .i64 ((gt a0_790 v7_811).length : Int)) (.fnE rfl lenE) ?_
    refine SafeOps.quiet0 E_good rfl rfl rfl (v := V.bool (decide (((gt a0_790 v7_811).length : Int) > 100))) (.fn rfl) ?_
    refine SafeOps.nil ?_
    repeat (first | refine Safe.seq ?_ | refine Safe.skip ?_ | with_reducible refine thenQ.n ?_ | with_reducible refine blockQ.n ?_)
    refine ifG h (fun hc815 h => ?_) (fun hc815 h => ?_)
    · skip
      refine Safe.condK rfl hc815 ?_
      repeat (first | refine Safe.seq ?_ | refine Safe.skip ?_ | with_reducible refine thenQ.n ?_ | with_reducible refine blockQ.n ?_)
      refine Safe.region ?_
      refine SafeOps.quiet0 E_good rfl rfl rfl (v := V.bool false) (.fn rfl) ?_
      refine SafeOps.nil ?_
      repeat (first | refine Safe.seq ?_ | refine Safe.skip ?_ | with_reducible refine thenQ.n ?_ | with_reducible refine blockQ.n ?_)
      refine Safe.ret ?_
      repeat (first | with_reducible refine thenQ.r ?_ | with_reducible refine blockQ.r ?_)
      replace h := inr_out h hr812
      obtain rfl := Option.some.inj h
      exact retQ.gen (vs := [V.bool false]) rfl (.tmp (v := V.bool false) rfl .nil) (.free rfl) (by simp) (.inr rfl)
    · skip
      refine Safe.condN rfl hc815 ?_
      repeat (first | refine Safe.seq ?_ | refine Safe.skip ?_ | with_reducible refine thenQ.n ?_ | with_reducible refine blockQ.n ?_)
      refine Safe.region ?_
      refine SafeOps.quiet0 E_good rfl rfl rfl (v := V.int .i64 (IntKind.i64.wrap (v7_811 + 1))) (.fn rfl) ?_
      refine SafeOps.quiet0 E_good rfl rfl rfl (v := V.int .i64 (IntKind.i64.wrap (v7_811 + 1))) (.fn rfl) ?_
      refine SafeOps.nil ?_
      repeat (first | refine Safe.seq ?_ | refine Safe.skip ?_ | with_reducible refine thenQ.n ?_ | with_reducible refine blockQ.n ?_)
      exact ⟨_, next_out h, (.cov ⟨rfl, rfl, (upT_cons (.refl _) (upT_cons (.refl _) (upT_cons (.refl _) (upT_cons (.refl _) upT_nil)))), upOb_nil, upOut_nil, rfl⟩)⟩
  · skip
    refine Safe.condN rfl hc813 ?_
    repeat (first | refine Safe.seq ?_ | refine Safe.skip ?_ | with_reducible refine thenQ.n ?_ | with_reducible refine blockQ.n ?_)
    refine Safe.exit ?_
    repeat (first | with_reducible refine thenQ.e ?_ | with_reducible refine blockQ.x rfl ?_ | with_reducible refine blockQ.y rfl ?_)
    replace h := inr_out h hr812
    repeat (first | refine Safe.seq ?_ | refine Safe.skip ?_ | with_reducible refine thenQ.n ?_ | with_reducible refine blockQ.n ?_)
    refine Safe.region ?_
    refine SafeOps.quiet0 E_good rfl rfl rfl (v := V.sl 1 (rws (fun l => [V.sl 3 (rws api_Instr.cells l)]) a0_790)) (.fn rfl) ?_
    refine SafeOps.quiet0 E_good rfl rfl rfl (v := V.int .i64 (a0_790.length : Int)) (.fnE rfl lenE) ?_
    refine SafeOps.quiet0 E_good rfl rfl rfl (v := V.bool (decide ((a0_790.length : Int) ≤ 100))) (.fn rfl) ?_
    refine SafeOps.quiet0 E_good rfl rfl rfl (v := V.bool (decide ((a0_790.length : Int) ≤ 100))) (.fn rfl) ?_
    refine SafeOps.nil ?_
    repeat (first | refine Safe.seq ?_ | refine Safe.skip ?_ | with_reducible refine thenQ.n ?_ | with_reducible refine blockQ.n ?_)
    refine Safe.ret ?_
    repeat (first | with_reducible refine thenQ.r ?_ | with_reducible refine blockQ.r ?_)
    obtain rfl := Option.some.inj h
    exact retQ.gen (vs := [V.bool (decide ((a0_790.length : Int) ≤ 100))]) rfl (.tmp (v := V.bool (decide ((a0_790.length : Int) ≤ 100))) rfl .nil) (.free rfl) (by simp) (.inr rfl)
end Go.Proofs.Ytdlpecjbafadkaa
