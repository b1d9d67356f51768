/- Helper lemmas for the claim's theorem: an abstract machine over the model, proved sound; no condition beyond each lemma's own. -/
import Derived.Test.YtmobjkihhbnkhaaSEnv
set_option linter.unusedVariables false
set_option linter.unusedSimpArgs false
set_option linter.unnecessarySimpa false
set_option linter.unusedSectionVars false
namespace Go.Proofs.Ytmobjkihhbnkhaa
open Go Go.AM
set_option maxRecDepth 100000
set_option maxHeartbeats 1000000
set_option linter.unusedVariables false
set_option linter.unusedSimpArgs false
variable {gl : List (Nat × List V)}
@[ext] structure api_Instr where
  Op : Int
  A : Int
  B : Int
  deriving Inhabited
def api_Instr.cells (x : api_Instr) : List V := [V.int .i64 x.Op, V.int .i64 x.A, V.int .i64 x.B]
def api_Instr.zero : api_Instr := ⟨0, 0, 0⟩
def api_Instr.beq (x y : api_Instr) : Bool := ((x.Op == y.Op) && ((x.A == y.A) && ((x.B == y.B) && true)))

def go_code_within (a0_27 : Int) (a1_28 : Int) : Bool :=
  ((decide (a0_27 ≥ 0)) && (decide (a0_27 < a1_28)))

theorem go_code_within_sc (a0_27 : Int) (a1_28 : Int) (r : Bool) (h : go_code_within a0_27 a1_28 = r) : SC Try.prog gl 13 [V.int .i64 a0_27, V.int .i64 a1_28] (V.bool r) := by
  rw [go_code_within] at h
  refine SC.of E_good Try.func13 rfl (fun _ _ => Try.call13 _ _) rfl ?_
  repeat (first | refine Safe.seq ?_ | refine Safe.skip ?_ | with_reducible refine thenQ.n ?_ | with_reducible refine blockQ.n ?_)
  refine Safe.region ?_
  refine SafeOps.quiet0 E_good rfl rfl rfl (v := V.bool false) (.fn rfl) ?_
  refine SafeOps.nil ?_
  repeat (first | refine Safe.seq ?_ | refine Safe.skip ?_ | with_reducible refine thenQ.n ?_ | with_reducible refine blockQ.n ?_)
  refine Safe.region ?_
  refine SafeOps.quiet0 E_good rfl rfl rfl (v := V.int .i64 a0_27) (.fn rfl) ?_
  refine SafeOps.quiet0 E_good rfl rfl rfl (v := V.bool (decide (a0_27 ≥ 0))) (.fn rfl) ?_
  refine SafeOps.quiet0 E_good rfl rfl rfl (v := V.bool (decide (a0_27 ≥ 0))) (.fn rfl) ?_
  refine SafeOps.bjoin 4 11 (b := ((decide (a0_27 ≥ 0)) && (decide (a0_27 < a1_28)))) (b1 := decide (a0_27 < a1_28)) (b0 := false) (fun hc30 K => ?_) (fun hc30 K => ?_) bj_and ?_
  · skip
    refine SafeOps.quiet0 E_good (congrArg some hc30) rfl rfl (v := V.int .i64 a0_27) (.fn rfl) ?_
    refine SafeOps.quiet0 E_good (congrArg some hc30) rfl rfl (v := V.int .i64 a1_28) (.fn rfl) ?_
    refine SafeOps.quiet0 E_good (congrArg some hc30) rfl rfl (v := V.bool (decide (a0_27 < a1_28))) (.fn rfl) ?_
    refine SafeOps.quiet0 E_good rfl rfl rfl (v := V.bool (decide (a0_27 < a1_28))) (.pickK rfl hc30 rfl) ?_
    exact SafeOps.drop' 4 rfl rfl rfl K
  · skip
    refine SafeOps.skip (congrArg some hc30) rfl rfl ?_
    refine SafeOps.skip (congrArg some hc30) rfl rfl ?_
    refine SafeOps.skip (congrArg some hc30) rfl rfl ?_
    refine SafeOps.quiet0 E_good rfl rfl rfl (v := V.bool false) (.pickK rfl hc30 rfl) ?_
    exact SafeOps.drop' 4 rfl rfl rfl K
  refine SafeOps.quiet0 E_good rfl rfl rfl (v := V.bool ((decide (a0_27 ≥ 0)) && (decide (a0_27 < a1_28)))) (.fn rfl) ?_
  refine SafeOps.nil ?_
  repeat (first | refine Safe.seq ?_ | refine Safe.skip ?_ | with_reducible refine thenQ.n ?_ | with_reducible refine blockQ.n ?_)
  refine Safe.ret ?_
  repeat (first | with_reducible refine thenQ.r ?_ | with_reducible refine blockQ.r ?_)
  obtain rfl := h
  exact retQ.gen (vs := [V.bool ((decide (a0_27 ≥ 0)) && (decide (a0_27 < a1_28)))]) rfl (.tmp (v := V.bool ((decide (a0_27 ≥ 0)) && (decide (a0_27 < a1_28)))) rfl .nil) (.free rfl) (by simp) (.inr rfl)

def go_code_odd_j2 (v3_73 : Bool) (v4_74 : Bool) : Bool :=
  ((!v3_73) || (!v4_74))

def go_code_odd_j4 (a0_25 : api_Instr) (v46_85 : Bool) : Bool :=
  if v46_85 = true then
    go_code_odd_j2 (go_code_within a0_25.A 8) (a0_25.B == 0)
  else
    true

def go_code_odd_j3 (a0_25 : api_Instr) (v27_79 : Bool) : Bool :=
  if v27_79 = true then
    go_code_odd_j2 (a0_25.A == 0) (a0_25.B == 0)
  else
    if (a0_25.Op == 4) = true then
      go_code_odd_j2 (go_code_within (IntKind.i64.wrap (a0_25.A - 1)) 1000) (a0_25.B == 0)
    else
      if (a0_25.Op == 5) = true then
        go_code_odd_j2 (go_code_within a0_25.A 16) (a0_25.B == 0)
      else
        if (a0_25.Op == 6) = true then
          go_code_odd_j2 (go_code_within a0_25.A 4) (a0_25.B == 0)
        else
          if (a0_25.Op == 7) = true then
            go_code_odd_j4 a0_25 (a0_25.Op == 7)
          else
            go_code_odd_j4 a0_25 (a0_25.Op == 8)

def go_code_odd (a0_25 : api_Instr) : Bool :=
  if (a0_25.Op == 1) = true then
    go_code_odd_j2 (go_code_within (IntKind.i64.wrap (a0_25.A - 1)) 100) (a0_25.B == 0)
  else
    if (a0_25.Op == 2) = true then
      go_code_odd_j2 (go_code_within a0_25.A 16) (go_code_within a0_25.B 4)
    else
      if (a0_25.Op == 3) = true then
        go_code_odd_j3 a0_25 (a0_25.Op == 3)
      else
        go_code_odd_j3 a0_25 (a0_25.Op == 9)

theorem go_code_odd_sc (a0_25 : api_Instr) (r : Bool) (h : go_code_odd a0_25 = r) : SC Try.prog gl 23 [V.agg [V.int .i64 a0_25.Op, V.int .i64 a0_25.A, V.int .i64 a0_25.B]] (V.bool r) := by
  rw [go_code_odd] at h
  refine SC.of E_good Try.func23 rfl (fun _ _ => Try.call23 _ _) rfl ?_
  repeat (first | refine Safe.seq ?_ | refine Safe.skip ?_ | with_reducible refine thenQ.n ?_ | with_reducible refine blockQ.n ?_)
  refine Safe.region ?_
  refine SafeOps.quiet1 E_good rfl rfl rfl (.box rfl rfl) rfl ?_
  refine SafeOps.quiet0 E_good rfl rfl rfl (v := V.bool false) (.fn rfl) ?_
  refine SafeOps.nil ?_
  repeat (first | refine Safe.seq ?_ | refine Safe.skip ?_ | with_reducible refine thenQ.n ?_ | with_reducible refine blockQ.n ?_)
  refine Safe.regionD (n := 8) [] [] E_good mixed rfl ?_
  refine DAny.take (i := 0) rfl (by kernel_rfl) [] (by kernel_rfl) (by kernel_rfl) (by kernel_rfl) rfl rfl rfl (v := V.ptr [1] 0 1) (fun _ hz => (.fn rfl)) ?_
  refine DAny.take (i := 1) rfl (by kernel_rfl) [] (by kernel_rfl) (by kernel_rfl) (by kernel_rfl) rfl rfl rfl (v := V.int .i64 a0_25.A) (fun _ hz => (.load rfl rfl (.box (hz _ _ rfl rfl) rfl) rfl)) ?_
  refine DAny.take (i := 2) rfl (by kernel_rfl) [] (by kernel_rfl) (by kernel_rfl) (by kernel_rfl) rfl rfl rfl (v := V.bool (a0_25.A == 0)) (fun _ hz => (.fn rfl)) ?_
  refine DAny.take (i := 3) rfl (by kernel_rfl) [] (by kernel_rfl) (by kernel_rfl) (by kernel_rfl) rfl rfl rfl (v := V.ptr [1] 0 2) (fun _ hz => (.fn rfl)) ?_
  refine DAny.take (i := 4) rfl (by kernel_rfl) [] (by kernel_rfl) (by kernel_rfl) (by kernel_rfl) rfl rfl rfl (v := V.int .i64 a0_25.B) (fun _ hz => (.load rfl rfl (.box (hz _ _ rfl rfl) rfl) rfl)) ?_
  refine DAny.take (i := 5) rfl (by kernel_rfl) [] (by kernel_rfl) (by kernel_rfl) (by kernel_rfl) rfl rfl rfl (v := V.bool (a0_25.B == 0)) (fun _ hz => (.fn rfl)) ?_
  refine DAny.take (i := 6) rfl (by kernel_rfl) [] (by kernel_rfl) (by kernel_rfl) (by kernel_rfl) rfl rfl rfl (v := V.bool (a0_25.A == 0)) (fun _ hz => (.fn rfl)) ?_
  refine DAny.take (i := 7) rfl (by kernel_rfl) [] (by kernel_rfl) (by kernel_rfl) (by kernel_rfl) rfl rfl rfl (v := V.bool (a0_25.B == 0)) (fun _ hz => (.fn rfl)) ?_
  refine DAny.nil (by kernel_rfl) ?_
  repeat (first | refine Safe.seq ?_ | refine Safe.skip ?_ | with_reducible refine thenQ.n ?_ | with_reducible refine blockQ.n ?_)
  refine Safe.region ?_
  refine SafeOps.quiet0 E_good rfl rfl rfl (v := V.ptr [1] 0 0) (.fn rfl) ?_
  refine SafeOps.quiet0 E_good rfl rfl rfl (v := V.int .i64 a0_25.Op) (.load rfl rfl (.box rfl rfl) rfl) ?_
  refine SafeOps.nil ?_
  repeat (first | refine Safe.seq ?_ | refine Safe.skip ?_ | with_reducible refine thenQ.n ?_ | with_reducible refine blockQ.n ?_)
  refine Safe.joinT (fun ((v3_73, v4_74) : Bool × Bool) => go_code_odd_j2 v3_73 v4_74 = r) (fun ((v3_73, v4_74) : Bool × Bool) => ⟨Try.f23.ntmps, [(3, V.bool v3_73), (4, V.bool v4_74)], [], [], []⟩) ?_ (fun HJ75 => ?_)
  · rintro ⟨v3_73, v4_74⟩ h
    replace h : go_code_odd_j2 v3_73 v4_74 = r := h
    rw [go_code_odd_j2] at h
    repeat (first | refine Safe.seq ?_ | refine Safe.skip ?_ | with_reducible refine thenQ.n ?_ | with_reducible refine blockQ.n ?_)
    refine Safe.region ?_
    refine SafeOps.quiet0 E_good rfl rfl rfl (v := V.bool v3_73) (.fn rfl) ?_
    refine SafeOps.quiet0 E_good rfl rfl rfl (v := V.bool (!v3_73)) (.fn rfl) ?_
    refine SafeOps.quiet0 E_good rfl rfl rfl (v := V.bool (!v3_73)) (.fn rfl) ?_
    refine SafeOps.bjoin 3 57 (b := ((!v3_73) || (!v4_74))) (b1 := true) (b0 := (!v4_74)) (fun hc76 K => ?_) (fun hc76 K => ?_) bj_or ?_
    · skip
      refine SafeOps.skip (congrArg (fun b => some (!b)) hc76) rfl rfl ?_
      refine SafeOps.skip (congrArg (fun b => some (!b)) hc76) rfl rfl ?_
      refine SafeOps.quiet0 E_good rfl rfl rfl (v := V.bool true) (.pickK rfl hc76 rfl) ?_
      exact SafeOps.drop' 3 rfl rfl rfl K
    · skip
      refine SafeOps.quiet0 E_good (congrArg (fun b => some (!b)) hc76) rfl rfl (v := V.bool v4_74) (.fn rfl) ?_
      refine SafeOps.quiet0 E_good (congrArg (fun b => some (!b)) hc76) rfl rfl (v := V.bool (!v4_74)) (.fn rfl) ?_
      refine SafeOps.quiet0 E_good rfl rfl rfl (v := V.bool (!v4_74)) (.pickK rfl hc76 rfl) ?_
      exact SafeOps.drop' 3 rfl rfl rfl K
    refine SafeOps.quiet0 E_good rfl rfl rfl (v := V.bool ((!v3_73) || (!v4_74))) (.fn rfl) ?_
    refine SafeOps.nil ?_
    repeat (first | refine Safe.seq ?_ | refine Safe.skip ?_ | with_reducible refine thenQ.n ?_ | with_reducible refine blockQ.n ?_)
    refine Safe.ret ?_
    repeat (first | with_reducible refine thenQ.r ?_ | with_reducible refine blockQ.r ?_)
    obtain rfl := h
    exact retQ.gen (vs := [V.bool ((!v3_73) || (!v4_74))]) rfl (.tmp (v := V.bool ((!v3_73) || (!v4_74))) rfl .nil) (.free rfl) (by simp) (.inr rfl)
  · skip
    refine Safe.block ?_
    repeat (first | refine Safe.seq ?_ | refine Safe.skip ?_ | with_reducible refine thenQ.n ?_ | with_reducible refine blockQ.n ?_)
    refine Safe.region ?_
    refine SafeOps.quiet0 E_good rfl rfl rfl (v := V.bool (a0_25.Op == 1)) (.fn rfl) ?_
    refine SafeOps.quiet0 E_good rfl rfl rfl (v := V.bool (a0_25.Op == 1)) (.fn rfl) ?_
    refine SafeOps.nil ?_
    repeat (first | refine Safe.seq ?_ | refine Safe.skip ?_ | with_reducible refine thenQ.n ?_ | with_reducible refine blockQ.n ?_)
    refine ifG h (fun hc77 h => ?_) (fun hc77 h => ?_)
    · skip
      refine Safe.condK rfl hc77 ?_
      repeat (first | refine Safe.seq ?_ | refine Safe.skip ?_ | with_reducible refine thenQ.n ?_ | with_reducible refine blockQ.n ?_)
      refine Safe.region ?_
      refine SafeOps.quiet0 E_good rfl rfl rfl (v := V.ptr [1] 0 1) (.fn rfl) ?_
      refine SafeOps.quiet0 E_good rfl rfl rfl (v := V.int .i64 a0_25.A) (.load rfl rfl (.box rfl rfl) rfl) ?_
      refine SafeOps.quiet0 E_good rfl rfl rfl (v := V.int .i64 (IntKind.i64.wrap (a0_25.A - 1))) (.fn rfl) ?_
      refine SafeOps.quiet0 E_good rfl rfl rfl (v := V.bool (go_code_within (IntKind.i64.wrap (a0_25.A - 1)) 100)) (.callP rfl rfl (go_code_within_sc (IntKind.i64.wrap (a0_25.A - 1)) 100 _ rfl) rfl) ?_
      refine SafeOps.quiet0 E_good rfl rfl rfl (v := V.bool (go_code_within (IntKind.i64.wrap (a0_25.A - 1)) 100)) (.fn rfl) ?_
      refine SafeOps.nil ?_
      repeat (first | refine Safe.skip ?_ | with_reducible refine thenQ.n ?_ | with_reducible refine blockQ.n ?_)
      exact Safe.got (HJ75 (go_code_within (IntKind.i64.wrap (a0_25.A - 1)) 100, (a0_25.B == 0)) h) (.cov ⟨rfl, rfl, (upT_cons (.refl _) (upT_cons (.refl _) upT_nil)), upOb_nil, upOut_nil, rfl⟩)
    · skip
      refine Safe.condN rfl hc77 ?_
      repeat (first | refine Safe.seq ?_ | refine Safe.skip ?_ | with_reducible refine thenQ.n ?_ | with_reducible refine blockQ.n ?_)
      refine Safe.region ?_
      refine SafeOps.quiet0 E_good rfl rfl rfl (v := V.bool (a0_25.Op == 2)) (.fn rfl) ?_
      refine SafeOps.quiet0 E_good rfl rfl rfl (v := V.bool (a0_25.Op == 2)) (.fn rfl) ?_
      refine SafeOps.nil ?_
      repeat (first | refine Safe.seq ?_ | refine Safe.skip ?_ | with_reducible refine thenQ.n ?_ | with_reducible refine blockQ.n ?_)
      refine ifG h (fun hc78 h => ?_) (fun hc78 h => ?_)
      · skip
        refine Safe.condK rfl hc78 ?_
        repeat (first | refine Safe.seq ?_ | refine Safe.skip ?_ | with_reducible refine thenQ.n ?_ | with_reducible refine blockQ.n ?_)
        refine Safe.regionD (n := 8) [] [] E_good mixed rfl ?_
        refine DAny.take (i := 0) rfl (by kernel_rfl) [] (by kernel_rfl) (by kernel_rfl) (by kernel_rfl) rfl rfl rfl (v := V.ptr [1] 0 1) (fun _ hz => (.fn rfl)) ?_
        refine DAny.take (i := 1) rfl (by kernel_rfl) [] (by kernel_rfl) (by kernel_rfl) (by kernel_rfl) rfl rfl rfl (v := V.int .i64 a0_25.A) (fun _ hz => (.load rfl rfl (.box (hz _ _ rfl rfl) rfl) rfl)) ?_
        refine DAny.take (i := 2) rfl (by kernel_rfl) [] (by kernel_rfl) (by kernel_rfl) (by kernel_rfl) rfl rfl rfl (v := V.bool (go_code_within a0_25.A 16)) (fun _ hz => (.callP rfl rfl (go_code_within_sc a0_25.A 16 _ rfl) rfl)) ?_
        refine DAny.take (i := 3) rfl (by kernel_rfl) [] (by kernel_rfl) (by kernel_rfl) (by kernel_rfl) rfl rfl rfl (v := V.ptr [1] 0 2) (fun _ hz => (.fn rfl)) ?_
        refine DAny.take (i := 4) rfl (by kernel_rfl) [] (by kernel_rfl) (by kernel_rfl) (by kernel_rfl) rfl rfl rfl (v := V.int .i64 a0_25.B) (fun _ hz => (.load rfl rfl (.box (hz _ _ rfl rfl) rfl) rfl)) ?_
        refine DAny.take (i := 5) rfl (by kernel_rfl) [] (by kernel_rfl) (by kernel_rfl) (by kernel_rfl) rfl rfl rfl (v := V.bool (go_code_within a0_25.B 4)) (fun _ hz => (.callP rfl rfl (go_code_within_sc a0_25.B 4 _ rfl) rfl)) ?_
        refine DAny.take (i := 6) rfl (by kernel_rfl) [] (by kernel_rfl) (by kernel_rfl) (by kernel_rfl) rfl rfl rfl (v := V.bool (go_code_within a0_25.A 16)) (fun _ hz => (.fn rfl)) ?_
        refine DAny.take (i := 7) rfl (by kernel_rfl) [] (by kernel_rfl) (by kernel_rfl) (by kernel_rfl) rfl rfl rfl (v := V.bool (go_code_within a0_25.B 4)) (fun _ hz => (.fn rfl)) ?_
        refine DAny.nil (by kernel_rfl) ?_
        repeat (first | refine Safe.skip ?_ | with_reducible refine thenQ.n ?_ | with_reducible refine blockQ.n ?_)
        exact Safe.got (HJ75 (go_code_within a0_25.A 16, go_code_within a0_25.B 4) h) (.cov ⟨rfl, rfl, (upT_cons (.refl _) (upT_cons (.refl _) upT_nil)), upOb_nil, upOut_nil, rfl⟩)
      · skip
        refine Safe.condN rfl hc78 ?_
        repeat (first | refine Safe.seq ?_ | refine Safe.skip ?_ | with_reducible refine thenQ.n ?_ | with_reducible refine blockQ.n ?_)
        refine Safe.region ?_
        refine SafeOps.quiet0 E_good rfl rfl rfl (v := V.bool (a0_25.Op == 3)) (.fn rfl) ?_
        refine SafeOps.quiet0 E_good rfl rfl rfl (v := V.bool (a0_25.Op == 3)) (.fn rfl) ?_
        refine SafeOps.nil ?_
        repeat (first | refine Safe.seq ?_ | refine Safe.skip ?_ | with_reducible refine thenQ.n ?_ | with_reducible refine blockQ.n ?_)
        refine Safe.joinT (fun (v27_79 : Bool) => go_code_odd_j3 a0_25 v27_79 = r) (fun (v27_79 : Bool) => ⟨Try.f23.ntmps, [(1, V.ptr [1] 0 0), (3, V.bool (a0_25.A == 0)), (4, V.bool (a0_25.B == 0)), (12, V.int .i64 a0_25.Op), (27, V.bool v27_79)], [([1], Obj.box [V.int .i64 a0_25.Op, V.int .i64 a0_25.A, V.int .i64 a0_25.B])], [], []⟩) ?_ (fun HJ80 => ?_)
        · intro v27_79 h
          replace h : go_code_odd_j3 a0_25 v27_79 = r := h
          rw [go_code_odd_j3] at h
          repeat (first | refine Safe.seq ?_ | refine Safe.skip ?_ | with_reducible refine thenQ.n ?_ | with_reducible refine blockQ.n ?_)
          refine ifG h (fun hc81 h => ?_) (fun hc81 h => ?_)
          · skip
            refine Safe.condK rfl hc81 ?_
            repeat (first | refine Safe.skip ?_ | with_reducible refine thenQ.n ?_ | with_reducible refine blockQ.n ?_)
            exact Safe.got (HJ75 ((a0_25.A == 0), (a0_25.B == 0)) h) (.cov ⟨rfl, rfl, (upT_cons (.refl _) (upT_cons (.refl _) upT_nil)), upOb_nil, upOut_nil, rfl⟩)
          · skip
            refine Safe.condN rfl hc81 ?_
            repeat (first | refine Safe.seq ?_ | refine Safe.skip ?_ | with_reducible refine thenQ.n ?_ | with_reducible refine blockQ.n ?_)
            refine Safe.region ?_
            refine SafeOps.quiet0 E_good rfl rfl rfl (v := V.bool (a0_25.Op == 4)) (.fn rfl) ?_
            refine SafeOps.quiet0 E_good rfl rfl rfl (v := V.bool (a0_25.Op == 4)) (.fn rfl) ?_
            refine SafeOps.nil ?_
            repeat (first | refine Safe.seq ?_ | refine Safe.skip ?_ | with_reducible refine thenQ.n ?_ | with_reducible refine blockQ.n ?_)
            refine ifG h (fun hc82 h => ?_) (fun hc82 h => ?_)
            · skip
              refine Safe.condK rfl hc82 ?_
              repeat (first | refine Safe.seq ?_ | refine Safe.skip ?_ | with_reducible refine thenQ.n ?_ | with_reducible refine blockQ.n ?_)
              refine Safe.region ?_
              refine SafeOps.quiet0 E_good rfl rfl rfl (v := V.ptr [1] 0 1) (.fn rfl) ?_
              refine SafeOps.quiet0 E_good rfl rfl rfl (v := V.int .i64 a0_25.A) (.load rfl rfl (.box rfl rfl) rfl) ?_
              refine SafeOps.quiet0 E_good rfl rfl rfl (v := V.int .i64 (IntKind.i64.wrap (a0_25.A - 1))) (.fn rfl) ?_
              refine SafeOps.quiet0 E_good rfl rfl rfl (v := V.bool (go_code_within (IntKind.i64.wrap (a0_25.A - 1)) 1000)) (.callP rfl rfl (go_code_within_sc (IntKind.i64.wrap (a0_25.A - 1)) 1000 _ rfl) rfl) ?_
              refine SafeOps.quiet0 E_good rfl rfl rfl (v := V.bool (go_code_within (IntKind.i64.wrap (a0_25.A - 1)) 1000)) (.fn rfl) ?_
              refine SafeOps.nil ?_
              repeat (first | refine Safe.skip ?_ | with_reducible refine thenQ.n ?_ | with_reducible refine blockQ.n ?_)
              exact Safe.got (HJ75 (go_code_within (IntKind.i64.wrap (a0_25.A - 1)) 1000, (a0_25.B == 0)) h) (.cov ⟨rfl, rfl, (upT_cons (.refl _) (upT_cons (.refl _) upT_nil)), upOb_nil, upOut_nil, rfl⟩)
            · skip
              refine Safe.condN rfl hc82 ?_
              repeat (first | refine Safe.seq ?_ | refine Safe.skip ?_ | with_reducible refine thenQ.n ?_ | with_reducible refine blockQ.n ?_)
              refine Safe.region ?_
              refine SafeOps.quiet0 E_good rfl rfl rfl (v := V.bool (a0_25.Op == 5)) (.fn rfl) ?_
              refine SafeOps.quiet0 E_good rfl rfl rfl (v := V.bool (a0_25.Op == 5)) (.fn rfl) ?_
              refine SafeOps.nil ?_
              repeat (first | refine Safe.seq ?_ | refine Safe.skip ?_ | with_reducible refine thenQ.n ?_ | with_reducible refine blockQ.n ?_)
              refine ifG h (fun hc83 h => ?_) (fun hc83 h => ?_)
              · skip
                refine Safe.condK rfl hc83 ?_
                repeat (first | refine Safe.seq ?_ | refine Safe.skip ?_ | with_reducible refine thenQ.n ?_ | with_reducible refine blockQ.n ?_)
                refine Safe.region ?_
                refine SafeOps.quiet0 E_good rfl rfl rfl (v := V.ptr [1] 0 1) (.fn rfl) ?_
                refine SafeOps.quiet0 E_good rfl rfl rfl (v := V.int .i64 a0_25.A) (.load rfl rfl (.box rfl rfl) rfl) ?_
                refine SafeOps.quiet0 E_good rfl rfl rfl (v := V.bool (go_code_within a0_25.A 16)) (.callP rfl rfl (go_code_within_sc a0_25.A 16 _ rfl) rfl) ?_
                refine SafeOps.quiet0 E_good rfl rfl rfl (v := V.bool (go_code_within a0_25.A 16)) (.fn rfl) ?_
                refine SafeOps.nil ?_
                repeat (first | refine Safe.skip ?_ | with_reducible refine thenQ.n ?_ | with_reducible refine blockQ.n ?_)
                exact Safe.got (HJ75 (go_code_within a0_25.A 16, (a0_25.B == 0)) h) (.cov ⟨rfl, rfl, (upT_cons (.refl _) (upT_cons (.refl _) upT_nil)), upOb_nil, upOut_nil, rfl⟩)
              · skip
                refine Safe.condN rfl hc83 ?_
                repeat (first | refine Safe.seq ?_ | refine Safe.skip ?_ | with_reducible refine thenQ.n ?_ | with_reducible refine blockQ.n ?_)
                refine Safe.region ?_
                refine SafeOps.quiet0 E_good rfl rfl rfl (v := V.bool (a0_25.Op == 6)) (.fn rfl) ?_
                refine SafeOps.quiet0 E_good rfl rfl rfl (v := V.bool (a0_25.Op == 6)) (.fn rfl) ?_
                refine SafeOps.nil ?_
                repeat (first | refine Safe.seq ?_ | refine Safe.skip ?_ | with_reducible refine thenQ.n ?_ | with_reducible refine blockQ.n ?_)
                refine ifG h (fun hc84 h => ?_) (fun hc84 h => ?_)
                · skip
                  refine Safe.condK rfl hc84 ?_
                  repeat (first | refine Safe.seq ?_ | refine Safe.skip ?_ | with_reducible refine thenQ.n ?_ | with_reducible refine blockQ.n ?_)
                  refine Safe.region ?_
                  refine SafeOps.quiet0 E_good rfl rfl rfl (v := V.ptr [1] 0 1) (.fn rfl) ?_
                  refine SafeOps.quiet0 E_good rfl rfl rfl (v := V.int .i64 a0_25.A) (.load rfl rfl (.box rfl rfl) rfl) ?_
                  refine SafeOps.quiet0 E_good rfl rfl rfl (v := V.bool (go_code_within a0_25.A 4)) (.callP rfl rfl (go_code_within_sc a0_25.A 4 _ rfl) rfl) ?_
                  refine SafeOps.quiet0 E_good rfl rfl rfl (v := V.bool (go_code_within a0_25.A 4)) (.fn rfl) ?_
                  refine SafeOps.nil ?_
                  repeat (first | refine Safe.skip ?_ | with_reducible refine thenQ.n ?_ | with_reducible refine blockQ.n ?_)
                  exact Safe.got (HJ75 (go_code_within a0_25.A 4, (a0_25.B == 0)) h) (.cov ⟨rfl, rfl, (upT_cons (.refl _) (upT_cons (.refl _) upT_nil)), upOb_nil, upOut_nil, rfl⟩)
                · skip
                  refine Safe.condN rfl hc84 ?_
                  repeat (first | refine Safe.seq ?_ | refine Safe.skip ?_ | with_reducible refine thenQ.n ?_ | with_reducible refine blockQ.n ?_)
                  refine Safe.region ?_
                  refine SafeOps.quiet0 E_good rfl rfl rfl (v := V.bool (a0_25.Op == 7)) (.fn rfl) ?_
                  refine SafeOps.quiet0 E_good rfl rfl rfl (v := V.bool (a0_25.Op == 7)) (.fn rfl) ?_
                  refine SafeOps.nil ?_
                  repeat (first | refine Safe.seq ?_ | refine Safe.skip ?_ | with_reducible refine thenQ.n ?_ | with_reducible refine blockQ.n ?_)
                  refine Safe.joinT (fun (v46_85 : Bool) => go_code_odd_j4 a0_25 v46_85 = r) (fun (v46_85 : Bool) => ⟨Try.f23.ntmps, [(1, V.ptr [1] 0 0), (4, V.bool (a0_25.B == 0)), (46, V.bool v46_85)], [([1], Obj.box [V.int .i64 a0_25.Op, V.int .i64 a0_25.A, V.int .i64 a0_25.B])], [], []⟩) ?_ (fun HJ86 => ?_)
                  · intro v46_85 h
                    replace h : go_code_odd_j4 a0_25 v46_85 = r := h
                    rw [go_code_odd_j4] at h
                    repeat (first | refine Safe.seq ?_ | refine Safe.skip ?_ | with_reducible refine thenQ.n ?_ | with_reducible refine blockQ.n ?_)
                    refine ifG h (fun hc87 h => ?_) (fun hc87 h => ?_)
                    · skip
                      refine Safe.condK rfl hc87 ?_
                      repeat (first | refine Safe.seq ?_ | refine Safe.skip ?_ | with_reducible refine thenQ.n ?_ | with_reducible refine blockQ.n ?_)
                      refine Safe.region ?_
                      refine SafeOps.quiet0 E_good rfl rfl rfl (v := V.ptr [1] 0 1) (.fn rfl) ?_
                      refine SafeOps.quiet0 E_good rfl rfl rfl (v := V.int .i64 a0_25.A) (.load rfl rfl (.box rfl rfl) rfl) ?_
                      refine SafeOps.quiet0 E_good rfl rfl rfl (v := V.bool (go_code_within a0_25.A 8)) (.callP rfl rfl (go_code_within_sc a0_25.A 8 _ rfl) rfl) ?_
                      refine SafeOps.quiet0 E_good rfl rfl rfl (v := V.bool (go_code_within a0_25.A 8)) (.fn rfl) ?_
                      refine SafeOps.nil ?_
                      repeat (first | refine Safe.skip ?_ | with_reducible refine thenQ.n ?_ | with_reducible refine blockQ.n ?_)
                      exact Safe.got (HJ75 (go_code_within a0_25.A 8, (a0_25.B == 0)) h) (.cov ⟨rfl, rfl, (upT_cons (.refl _) (upT_cons (.refl _) upT_nil)), upOb_nil, upOut_nil, rfl⟩)
                    · skip
                      refine Safe.condN rfl hc87 ?_
                      repeat (first | refine Safe.seq ?_ | refine Safe.skip ?_ | with_reducible refine thenQ.n ?_ | with_reducible refine blockQ.n ?_)
                      refine Safe.region ?_
                      refine SafeOps.quiet0 E_good rfl rfl rfl (v := V.bool true) (.fn rfl) ?_
                      refine SafeOps.nil ?_
                      repeat (first | refine Safe.seq ?_ | refine Safe.skip ?_ | with_reducible refine thenQ.n ?_ | with_reducible refine blockQ.n ?_)
                      refine Safe.ret ?_
                      repeat (first | with_reducible refine thenQ.r ?_ | with_reducible refine blockQ.r ?_)
                      obtain rfl := h
                      exact retQ.gen (vs := [V.bool true]) rfl (.tmp (v := V.bool true) rfl .nil) (.free rfl) (by simp) (.inr rfl)
                  · skip
                    refine ifG h (fun hc88 h => ?_) (fun hc88 h => ?_)
                    · skip
                      refine Safe.condK rfl hc88 ?_
                      repeat (first | refine Safe.skip ?_ | with_reducible refine thenQ.n ?_ | with_reducible refine blockQ.n ?_)
                      exact Safe.got (HJ86 ((a0_25.Op == 7)) h) (.cov ⟨rfl, rfl, (upT_cons (.refl _) (upT_cons (.refl _) (upT_cons (.refl _) upT_nil))), (upOb_cons rfl (.refl _) upOb_nil), upOut_nil, rfl⟩)
                    · skip
                      refine Safe.condN rfl hc88 ?_
                      repeat (first | refine Safe.seq ?_ | refine Safe.skip ?_ | with_reducible refine thenQ.n ?_ | with_reducible refine blockQ.n ?_)
                      refine Safe.region ?_
                      refine SafeOps.quiet0 E_good rfl rfl rfl (v := V.bool (a0_25.Op == 8)) (.fn rfl) ?_
                      refine SafeOps.quiet0 E_good rfl rfl rfl (v := V.bool (a0_25.Op == 8)) (.fn rfl) ?_
                      refine SafeOps.nil ?_
                      repeat (first | refine Safe.skip ?_ | with_reducible refine thenQ.n ?_ | with_reducible refine blockQ.n ?_)
                      exact Safe.got (HJ86 ((a0_25.Op == 8)) h) (.cov ⟨rfl, rfl, (upT_cons (.refl _) (upT_cons (.refl _) (upT_cons (.refl _) upT_nil))), (upOb_cons rfl (.refl _) upOb_nil), upOut_nil, rfl⟩)
        · skip
          refine ifG h (fun hc89 h => ?_) (fun hc89 h => ?_)
          · skip
            refine Safe.condK rfl hc89 ?_
            repeat (first | refine Safe.skip ?_ | with_reducible refine thenQ.n ?_ | with_reducible refine blockQ.n ?_)
            exact Safe.got (HJ80 ((a0_25.Op == 3)) h) (.cov ⟨rfl, rfl, (upT_cons (.refl _) (upT_cons (.refl _) (upT_cons (.refl _) (upT_cons (.refl _) (upT_cons (.refl _) upT_nil))))), (upOb_cons rfl (.refl _) upOb_nil), upOut_nil, rfl⟩)
          · skip
            refine Safe.condN rfl hc89 ?_
            repeat (first | refine Safe.seq ?_ | refine Safe.skip ?_ | with_reducible refine thenQ.n ?_ | with_reducible refine blockQ.n ?_)
            refine Safe.region ?_
            refine SafeOps.quiet0 E_good rfl rfl rfl (v := V.bool (a0_25.Op == 9)) (.fn rfl) ?_
            refine SafeOps.quiet0 E_good rfl rfl rfl (v := V.bool (a0_25.Op == 9)) (.fn rfl) ?_
            refine SafeOps.nil ?_
            repeat (first | refine Safe.skip ?_ | with_reducible refine thenQ.n ?_ | with_reducible refine blockQ.n ?_)
            exact Safe.got (HJ80 ((a0_25.Op == 9)) h) (.cov ⟨rfl, rfl, (upT_cons (.refl _) (upT_cons (.refl _) (upT_cons (.refl _) (upT_cons (.refl _) (upT_cons (.refl _) upT_nil))))), (upOb_cons rfl (.refl _) upOb_nil), upOut_nil, rfl⟩)

noncomputable def go_slices_IndexFunc_api_Instr_api_Instr_odd23_s1 (a0_21 : List api_Instr) : (Int) → Option ((Int) ⊕ (Int))
  | v8_107 =>
    if (decide (v8_107 < (a0_21.length : Int))) = true then
      if 0 ≤ v8_107 ∧ v8_107 < (a0_21.length : Int) then
        if (go_code_odd (gt a0_21 v8_107)) = true then
          inrO (
            some v8_107)
        else
          nextO (IntKind.i64.wrap (v8_107 + 1))
      else none
    else
      inrO (
        some (-1))

noncomputable def go_slices_IndexFunc_api_Instr_api_Instr_odd23 (a0_21 : List api_Instr) : Option Int :=
  whileO (go_slices_IndexFunc_api_Instr_api_Instr_odd23_s1 a0_21) 0

theorem go_slices_IndexFunc_api_Instr_api_Instr_odd23_sc (a0_21 : List api_Instr) (r : Int) (h : go_slices_IndexFunc_api_Instr_api_Instr_odd23 a0_21 = some r) : SC Try.prog gl 21 [V.sl 3 (rws api_Instr.cells a0_21), V.fn 23 []] (V.int .i64 r) := by
  rw [go_slices_IndexFunc_api_Instr_api_Instr_odd23] at h
  refine SC.of E_good Try.func21 rfl (fun _ _ => Try.call21 _ _) rfl ?_
  repeat (first | refine Safe.seq ?_ | refine Safe.skip ?_ | with_reducible refine thenQ.n ?_ | with_reducible refine blockQ.n ?_)
  refine Safe.region ?_
  refine SafeOps.quiet0 E_good rfl rfl rfl (v := V.int .i64 0) (.fn rfl) ?_
  refine SafeOps.nil ?_
  repeat (first | refine Safe.seq ?_ | refine Safe.skip ?_ | with_reducible refine thenQ.n ?_ | with_reducible refine blockQ.n ?_)
  refine Safe.region ?_
  refine SafeOps.quiet0 E_good rfl rfl rfl (v := V.sl 3 (rws api_Instr.cells a0_21)) (.fn rfl) ?_
  refine SafeOps.quiet0 E_good rfl rfl rfl (v := V.int .i64 (a0_21.length : Int)) (.fnE rfl lenE) ?_
  refine SafeOps.quiet0 E_good rfl rfl rfl (v := V.int .i64 0) (.fn rfl) ?_
  refine SafeOps.nil ?_
  repeat (first | refine Safe.seq ?_ | refine Safe.skip ?_ | with_reducible refine thenQ.n ?_ | with_reducible refine blockQ.n ?_)
  refine Safe.block ?_
  repeat (first | refine Safe.seq ?_ | refine Safe.skip ?_ | with_reducible refine thenQ.n ?_ | with_reducible refine blockQ.n ?_)
  refine Safe.loopW (fun (v8_107 : Int) => ⟨Try.f21.ntmps, [(0, V.sl 3 (rws api_Instr.cells a0_21)), (1, V.fn 23 []), (7, V.int .i64 (a0_21.length : Int)), (8, V.int .i64 v8_107)], [], [], []⟩) h (.cov ⟨rfl, rfl, (upT_cons (.refl _) (upT_cons (.refl _) (upT_cons (.refl _) (upT_cons (.refl _) upT_nil)))), upOb_nil, upOut_nil, rfl⟩) ?_
  intro v8_107 ohr108 h hr108
  replace h : go_slices_IndexFunc_api_Instr_api_Instr_odd23_s1 a0_21 v8_107 = some ohr108 := h
  rw [go_slices_IndexFunc_api_Instr_api_Instr_odd23_s1] at h
  repeat (first | refine Safe.seq ?_ | refine Safe.skip ?_ | with_reducible refine thenQ.n ?_ | with_reducible refine blockQ.n ?_)
  refine Safe.region ?_
  refine SafeOps.quiet0 E_good rfl rfl rfl (v := V.bool (decide (v8_107 < (a0_21.length : Int)))) (.fn rfl) ?_
  refine SafeOps.nil ?_
  repeat (first | refine Safe.seq ?_ | refine Safe.skip ?_ | with_reducible refine thenQ.n ?_ | with_reducible refine blockQ.n ?_)
  refine ifG h (fun hc109 h => ?_) (fun hc109 h => ?_)
  · skip
    refine Safe.condK rfl hc109 ?_
    repeat (first | refine Safe.seq ?_ | refine Safe.skip ?_ | with_reducible refine thenQ.n ?_ | with_reducible refine blockQ.n ?_)
    refine Safe.block ?_
    repeat (first | refine Safe.seq ?_ | refine Safe.skip ?_ | with_reducible refine thenQ.n ?_ | with_reducible refine blockQ.n ?_)
    refine Safe.region ?_
    refine SafeOps.quiet0 E_good rfl rfl rfl (v := V.int .i64 v8_107) (.fn rfl) ?_
    refine SafeOps.quiet0 E_good rfl rfl rfl (v := V.int .i64 v8_107) (.fn rfl) ?_
    refine SafeOps.nil ?_
    repeat (first | refine Safe.seq ?_ | refine Safe.skip ?_ | with_reducible refine thenQ.n ?_ | with_reducible refine blockQ.n ?_)
    refine Safe.region ?_
    refine SafeOps.quiet0 E_good rfl rfl rfl (v := V.fn 23 []) (.fn rfl) ?_
    refine SafeOps.quiet0 E_good rfl rfl rfl (v := V.sl 3 (rws api_Instr.cells a0_21)) (.fn rfl) ?_
    refine SafeOps.quiet0 E_good rfl rfl rfl (v := V.int .i64 v8_107) (.fn rfl) ?_
    refine okG h (fun hb110 h => ?_)
    refine SafeOps.quiet0 E_good rfl rfl rfl (v := V.spt 3 (rws api_Instr.cells a0_21) (Int.toNat v8_107) 0) (.idxSlM (f := api_Instr.cells) rfl rfl rfl rfl rfl hb110) ?_
    refine SafeOps.quiet0 E_good rfl rfl rfl (v := V.agg [V.int .i64 ((gt a0_21 v8_107).Op), V.int .i64 ((gt a0_21 v8_107).A), V.int .i64 ((gt a0_21 v8_107).B)]) (.load rfl rfl (.sptM (f := api_Instr.cells) hb110 rfl) rfl) ?_
    refine SafeOps.quiet0 E_good rfl rfl rfl (v := V.bool (go_code_odd (gt a0_21 v8_107))) (.callP rfl rfl (go_code_odd_sc (gt a0_21 v8_107) _ rfl) rfl) ?_
    refine SafeOps.nil ?_
    repeat (first | refine Safe.seq ?_ | refine Safe.skip ?_ | with_reducible refine thenQ.n ?_ | with_reducible refine blockQ.n ?_)
    refine ifG h (fun hc111 h => ?_) (fun hc111 h => ?_)
    · skip
      refine Safe.condK rfl hc111 ?_
      repeat (first | refine Safe.seq ?_ | refine Safe.skip ?_ | with_reducible refine thenQ.n ?_ | with_reducible refine blockQ.n ?_)
      refine Safe.region ?_
      refine SafeOps.quiet0 E_good rfl rfl rfl (v := V.int .i64 v8_107) (.fn rfl) ?_
      refine SafeOps.quiet0 E_good rfl rfl rfl (v := V.int .i64 v8_107) (.fn rfl) ?_
      refine SafeOps.nil ?_
      repeat (first | refine Safe.seq ?_ | refine Safe.skip ?_ | with_reducible refine thenQ.n ?_ | with_reducible refine blockQ.n ?_)
      refine Safe.ret ?_
      repeat (first | with_reducible refine thenQ.r ?_ | with_reducible refine blockQ.r ?_)
      replace h := inr_out h hr108
      obtain rfl := Option.some.inj h
      exact retQ.gen (vs := [V.int .i64 v8_107]) rfl (.tmp (v := V.int .i64 v8_107) rfl .nil) (.free rfl) (by simp) (.inr rfl)
    · skip
      refine Safe.condN rfl hc111 ?_
      repeat (first | refine Safe.seq ?_ | refine Safe.skip ?_ | with_reducible refine thenQ.n ?_ | with_reducible refine blockQ.n ?_)
      refine Safe.region ?_
      refine SafeOps.quiet0 E_good rfl rfl rfl (v := V.int .i64 (IntKind.i64.wrap (v8_107 + 1))) (.fn rfl) ?_
      refine SafeOps.quiet0 E_good rfl rfl rfl (v := V.int .i64 (IntKind.i64.wrap (v8_107 + 1))) (.fn rfl) ?_
      refine SafeOps.nil ?_
      repeat (first | refine Safe.seq ?_ | refine Safe.skip ?_ | with_reducible refine thenQ.n ?_ | with_reducible refine blockQ.n ?_)
      exact ⟨_, next_out h, (.cov ⟨rfl, rfl, (upT_cons (.refl _) (upT_cons (.refl _) (upT_cons (.refl _) (upT_cons (.refl _) upT_nil)))), upOb_nil, upOut_nil, rfl⟩)⟩
  · skip
    refine Safe.condN rfl hc109 ?_
    repeat (first | refine Safe.seq ?_ | refine Safe.skip ?_ | with_reducible refine thenQ.n ?_ | with_reducible refine blockQ.n ?_)
    refine Safe.exit ?_
    repeat (first | with_reducible refine thenQ.e ?_ | with_reducible refine blockQ.x rfl ?_ | with_reducible refine blockQ.y rfl ?_)
    replace h := inr_out h hr108
    repeat (first | refine Safe.seq ?_ | refine Safe.skip ?_ | with_reducible refine thenQ.n ?_ | with_reducible refine blockQ.n ?_)
    refine Safe.region ?_
    refine SafeOps.quiet0 E_good rfl rfl rfl (v := V.int .i64 (-1)) (.fn rfl) ?_
    refine SafeOps.nil ?_
    repeat (first | refine Safe.seq ?_ | refine Safe.skip ?_ | with_reducible refine thenQ.n ?_ | with_reducible refine blockQ.n ?_)
    refine Safe.ret ?_
    repeat (first | with_reducible refine thenQ.r ?_ | with_reducible refine blockQ.r ?_)
    obtain rfl := Option.some.inj h
    exact retQ.gen (vs := [V.int .i64 (-1)]) rfl (.tmp (v := V.int .i64 (-1)) rfl .nil) (.free rfl) (by simp) (.inr rfl)

noncomputable def go_slices_ContainsFunc_api_Instr_api_Instr_odd23 (a0_20 : List api_Instr) : Option Bool :=
  (go_slices_IndexFunc_api_Instr_api_Instr_odd23 a0_20).bind fun x_114 =>
  some (decide (x_114 ≥ 0))

theorem go_slices_ContainsFunc_api_Instr_api_Instr_odd23_sc (a0_20 : List api_Instr) (r : Bool) (h : go_slices_ContainsFunc_api_Instr_api_Instr_odd23 a0_20 = some r) : SC Try.prog gl 20 [V.sl 3 (rws api_Instr.cells a0_20), V.fn 23 []] (V.bool r) := by
  rw [go_slices_ContainsFunc_api_Instr_api_Instr_odd23] at h
  refine SC.of E_good Try.func20 rfl (fun _ _ => Try.call20 _ _) rfl ?_
  repeat (first | refine Safe.seq ?_ | refine Safe.skip ?_ | with_reducible refine thenQ.n ?_ | with_reducible refine blockQ.n ?_)
  refine Safe.region ?_
  refine SafeOps.quiet0 E_good rfl rfl rfl (v := V.bool false) (.fn rfl) ?_
  refine SafeOps.nil ?_
  repeat (first | refine Safe.seq ?_ | refine Safe.skip ?_ | with_reducible refine thenQ.n ?_ | with_reducible refine blockQ.n ?_)
  refine Safe.region ?_
  refine SafeOps.quiet0 E_good rfl rfl rfl (v := V.sl 3 (rws api_Instr.cells a0_20)) (.fn rfl) ?_
  refine SafeOps.quiet0 E_good rfl rfl rfl (v := V.fn 23 []) (.fn rfl) ?_
  refine bindG h ?_
  intro x_114 he115 h
  refine SafeOps.quiet0 E_good rfl rfl rfl (v := V.int .i64 x_114) (.callP rfl rfl (go_slices_IndexFunc_api_Instr_api_Instr_odd23_sc a0_20 _ he115) rfl) ?_
  refine SafeOps.quiet0 E_good rfl rfl rfl (v := V.bool (decide (x_114 ≥ 0))) (.fn rfl) ?_
  refine SafeOps.quiet0 E_good rfl rfl rfl (v := V.bool (decide (x_114 ≥ 0))) (.fn rfl) ?_
  refine SafeOps.nil ?_
  repeat (first | refine Safe.seq ?_ | refine Safe.skip ?_ | with_reducible refine thenQ.n ?_ | with_reducible refine blockQ.n ?_)
  refine Safe.ret ?_
  repeat (first | with_reducible refine thenQ.r ?_ | with_reducible refine blockQ.r ?_)
  obtain rfl := Option.some.inj h
  exact retQ.gen (vs := [V.bool (decide (x_114 ≥ 0))]) rfl (.tmp (v := V.bool (decide (x_114 ≥ 0))) rfl .nil) (.free rfl) (by simp) (.inr rfl)

noncomputable def go_code_Check (a0_17 : List api_Instr) : Option Int :=
  if ((decide ((a0_17.length : Int) < 1)) || (decide ((a0_17.length : Int) > 32))) = true then
    some 1
  else
    (go_slices_ContainsFunc_api_Instr_api_Instr_odd23 a0_17).bind fun x_130 =>
    if x_130 = true then
      some 1
    else
      some 0

theorem go_code_Check_sc (a0_17 : List api_Instr) (r : Int) (h : go_code_Check a0_17 = some r) : SC Try.prog gl 16 [V.sl 3 (rws api_Instr.cells a0_17)] (V.int .i64 r) := by
  rw [go_code_Check] at h
  refine SC.of E_good Try.func16 rfl (fun _ _ => Try.call16 _ _) rfl ?_
  repeat (first | refine Safe.seq ?_ | refine Safe.skip ?_ | with_reducible refine thenQ.n ?_ | with_reducible refine blockQ.n ?_)
  refine Safe.region ?_
  refine SafeOps.quiet0 E_good rfl rfl rfl (v := V.int .i64 0) (.fn rfl) ?_
  refine SafeOps.nil ?_
  repeat (first | refine Safe.seq ?_ | refine Safe.skip ?_ | with_reducible refine thenQ.n ?_ | with_reducible refine blockQ.n ?_)
  refine Safe.region ?_
  refine SafeOps.quiet0 E_good rfl rfl rfl (v := V.sl 3 (rws api_Instr.cells a0_17)) (.fn rfl) ?_
  refine SafeOps.quiet0 E_good rfl rfl rfl (v := V.int .i64 (a0_17.length : Int)) (.fnE rfl lenE) ?_
  refine SafeOps.quiet0 E_good rfl rfl rfl (v := V.bool (decide ((a0_17.length : Int) < 1))) (.fn rfl) ?_
  refine SafeOps.quiet0 E_good rfl rfl rfl (v := V.bool (decide ((a0_17.length : Int) < 1))) (.fn rfl) ?_
  refine SafeOps.bjoin 4 10 (b := ((decide ((a0_17.length : Int) < 1)) || (decide ((a0_17.length : Int) > 32)))) (b1 := true) (b0 := decide ((a0_17.length : Int) > 32)) (fun hc126 K => ?_) (fun hc126 K => ?_) bj_or ?_
  · skip
    refine SafeOps.skip (congrArg (fun b => some (!b)) hc126) rfl rfl ?_
    refine SafeOps.skip (congrArg (fun b => some (!b)) hc126) rfl rfl ?_
    refine SafeOps.skip (congrArg (fun b => some (!b)) hc126) rfl rfl ?_
    refine SafeOps.quiet0 E_good rfl rfl rfl (v := V.bool true) (.pickK rfl hc126 rfl) ?_
    exact SafeOps.drop' 4 rfl rfl rfl K
  · skip
    refine SafeOps.quiet0 E_good (congrArg (fun b => some (!b)) hc126) rfl rfl (v := V.sl 3 (rws api_Instr.cells a0_17)) (.fn rfl) ?_
    refine SafeOps.quiet0 E_good (congrArg (fun b => some (!b)) hc126) rfl rfl (v := V.int .i64 (a0_17.length : Int)) (.fnE rfl lenE) ?_
    refine SafeOps.quiet0 E_good (congrArg (fun b => some (!b)) hc126) rfl rfl (v := V.bool (decide ((a0_17.length : Int) > 32))) (.fn rfl) ?_
    refine SafeOps.quiet0 E_good rfl rfl rfl (v := V.bool (decide ((a0_17.length : Int) > 32))) (.pickK rfl hc126 rfl) ?_
    exact SafeOps.drop' 4 rfl rfl rfl K
  refine SafeOps.quiet0 E_good rfl rfl rfl (v := V.bool ((decide ((a0_17.length : Int) < 1)) || (decide ((a0_17.length : Int) > 32)))) (.fn rfl) ?_
  refine ifG h (fun hc127 h => ?_) (fun hc127 h => ?_)
  · skip
    refine SafeOps.skip (congrArg (fun b => some (!b)) hc127) rfl rfl ?_
    refine SafeOps.skip (congrArg (fun b => some (!b)) hc127) rfl rfl ?_
    refine SafeOps.quiet0 E_good rfl rfl rfl (v := V.bool true) (.pickK rfl hc127 rfl) ?_
    refine SafeOps.nil ?_
    repeat (first | refine Safe.seq ?_ | refine Safe.skip ?_ | with_reducible refine thenQ.n ?_ | with_reducible refine blockQ.n ?_)
    refine Safe.condK rfl rfl ?_
    repeat (first | refine Safe.seq ?_ | refine Safe.skip ?_ | with_reducible refine thenQ.n ?_ | with_reducible refine blockQ.n ?_)
    refine Safe.region ?_
    refine SafeOps.quiet0 E_good rfl rfl rfl (v := V.int .i64 1) (.fn rfl) ?_
    refine SafeOps.nil ?_
    repeat (first | refine Safe.seq ?_ | refine Safe.skip ?_ | with_reducible refine thenQ.n ?_ | with_reducible refine blockQ.n ?_)
    refine Safe.ret ?_
    repeat (first | with_reducible refine thenQ.r ?_ | with_reducible refine blockQ.r ?_)
    obtain rfl := Option.some.inj h
    exact retQ.gen (vs := [V.int .i64 1]) rfl (.tmp (v := V.int .i64 1) rfl .nil) (.free rfl) (by simp) (.inr rfl)
  · skip
    refine SafeOps.quiet0 E_good (congrArg (fun b => some (!b)) hc127) rfl rfl (v := V.sl 3 (rws api_Instr.cells a0_17)) (.fn rfl) ?_
    refine bindG h ?_
    intro x_130 he131 h
    refine SafeOps.quiet0 E_good (congrArg (fun b => some (!b)) hc127) rfl rfl (v := V.bool x_130) (.callP rfl rfl (go_slices_ContainsFunc_api_Instr_api_Instr_odd23_sc a0_17 _ he131) rfl) ?_
    refine SafeOps.quiet0 E_good rfl rfl rfl (v := V.bool x_130) (.pickK rfl hc127 rfl) ?_
    refine SafeOps.nil ?_
    repeat (first | refine Safe.seq ?_ | refine Safe.skip ?_ | with_reducible refine thenQ.n ?_ | with_reducible refine blockQ.n ?_)
    refine ifG h (fun hc132 h => ?_) (fun hc132 h => ?_)
    · skip
      refine Safe.condK rfl hc132 ?_
      repeat (first | refine Safe.seq ?_ | refine Safe.skip ?_ | with_reducible refine thenQ.n ?_ | with_reducible refine blockQ.n ?_)
      refine Safe.region ?_
      refine SafeOps.quiet0 E_good rfl rfl rfl (v := V.int .i64 1) (.fn rfl) ?_
      refine SafeOps.nil ?_
      repeat (first | refine Safe.seq ?_ | refine Safe.skip ?_ | with_reducible refine thenQ.n ?_ | with_reducible refine blockQ.n ?_)
      refine Safe.ret ?_
      repeat (first | with_reducible refine thenQ.r ?_ | with_reducible refine blockQ.r ?_)
      obtain rfl := Option.some.inj h
      exact retQ.gen (vs := [V.int .i64 1]) rfl (.tmp (v := V.int .i64 1) rfl .nil) (.free rfl) (by simp) (.inr rfl)
    · skip
      refine Safe.condN rfl hc132 ?_
      repeat (first | refine Safe.seq ?_ | refine Safe.skip ?_ | with_reducible refine thenQ.n ?_ | with_reducible refine blockQ.n ?_)
      refine Safe.region ?_
      refine SafeOps.quiet0 E_good rfl rfl rfl (v := V.int .i64 0) (.fn rfl) ?_
      refine SafeOps.nil ?_
      repeat (first | refine Safe.seq ?_ | refine Safe.skip ?_ | with_reducible refine thenQ.n ?_ | with_reducible refine blockQ.n ?_)
      refine Safe.ret ?_
      repeat (first | with_reducible refine thenQ.r ?_ | with_reducible refine blockQ.r ?_)
      obtain rfl := Option.some.inj h
      exact retQ.gen (vs := [V.int .i64 0]) rfl (.tmp (v := V.int .i64 0) rfl .nil) (.free rfl) (by simp) (.inr rfl)

noncomputable def go_code_CheckAll_s4 (a0_7 : List (List api_Instr)) (v17_317 : Int) : (Int) → Option ((Int) ⊕ ((Int) ⊕ (Int)))
  | v8_348 =>
    if (decide (v8_348 < ((gt a0_7 v17_317).length : Int))) = true then
      if 0 ≤ v8_348 ∧ v8_348 < ((gt a0_7 v17_317).length : Int) then
        if ((((gt (gt a0_7 v17_317) v8_348).Op) == 2) && (decide (((gt (gt a0_7 v17_317) v8_348).A) ≥ (a0_7.length : Int)))) = true then
          inrO (
            if (decide (v8_348 ≥ 0)) = true then
              inrO (
                some 1)
            else
              nextO (IntKind.i64.wrap (v17_317 + 1)))
        else
          nextO (IntKind.i64.wrap (v8_348 + 1))
      else none
    else
      inrO (
        nextO (IntKind.i64.wrap (v17_317 + 1)))

noncomputable def go_code_CheckAll_s3 (a0_7 : List (List api_Instr)) : (Int) → Option ((Int) ⊕ (Int))
  | v17_317 =>
    if (decide (v17_317 < (a0_7.length : Int))) = true then
      if 0 ≤ v17_317 ∧ v17_317 < (a0_7.length : Int) then
        (go_code_Check (gt a0_7 v17_317)).bind fun x_321 =>
        if (x_321 != 0) = true then
          inrO (
            some 1)
        else
          whileO (go_code_CheckAll_s4 a0_7 v17_317) 0
      else none
    else
      inrO (
        some 0)

noncomputable def go_code_CheckAll (a0_7 : List (List api_Instr)) : Option Int :=
  if ((decide ((a0_7.length : Int) < 1)) || (decide ((a0_7.length : Int) > 16))) = true then
    some 1
  else
    whileO (go_code_CheckAll_s3 a0_7) 0

theorem go_code_CheckAll_sc (a0_7 : List (List api_Instr)) (r : Int) (h : go_code_CheckAll a0_7 = some r) : SC Try.prog gl 12 [V.sl 1 (rws (fun l => [V.sl 3 (rws api_Instr.cells l)]) a0_7)] (V.int .i64 r) := by
  rw [go_code_CheckAll] at h
  refine SC.of E_good Try.func12 rfl (fun _ _ => Try.call12 _ _) rfl ?_
  repeat (first | refine Safe.seq ?_ | refine Safe.skip ?_ | with_reducible refine thenQ.n ?_ | with_reducible refine blockQ.n ?_)
  refine Safe.region ?_
  refine SafeOps.quiet1 E_good rfl rfl rfl (.box rfl rfl) rfl ?_
  refine SafeOps.quiet0 E_good rfl rfl rfl (v := V.int .i64 0) (.fn rfl) ?_
  refine SafeOps.nil ?_
  repeat (first | refine Safe.seq ?_ | refine Safe.skip ?_ | with_reducible refine thenQ.n ?_ | with_reducible refine blockQ.n ?_)
  refine Safe.region ?_
  refine SafeOps.quiet0 E_good rfl rfl rfl (v := V.sl 1 (rws (fun l => [V.sl 3 (rws api_Instr.cells l)]) a0_7)) (.load rfl rfl (.box rfl rfl) rfl) ?_
  refine SafeOps.quiet0 E_good rfl rfl rfl (v := V.int .i64 (a0_7.length : Int)) (.fnE rfl lenE) ?_
  refine SafeOps.quiet0 E_good rfl rfl rfl (v := V.bool (decide ((a0_7.length : Int) < 1))) (.fn rfl) ?_
  refine SafeOps.quiet0 E_good rfl rfl rfl (v := V.bool (decide ((a0_7.length : Int) < 1))) (.fn rfl) ?_
  refine SafeOps.bjoin 4 13 (b := ((decide ((a0_7.length : Int) < 1)) || (decide ((a0_7.length : Int) > 16)))) (b1 := true) (b0 := decide ((a0_7.length : Int) > 16)) (fun hc242 K => ?_) (fun hc242 K => ?_) bj_or ?_
  · skip
    refine SafeOps.skip (congrArg (fun b => some (!b)) hc242) rfl rfl ?_
    refine SafeOps.skip (congrArg (fun b => some (!b)) hc242) rfl rfl ?_
    refine SafeOps.skip (congrArg (fun b => some (!b)) hc242) rfl rfl ?_
    refine SafeOps.quiet0 E_good rfl rfl rfl (v := V.bool true) (.pickK rfl hc242 rfl) ?_
    exact SafeOps.drop' 4 rfl rfl rfl K
  · skip
    refine SafeOps.quiet0 E_good (congrArg (fun b => some (!b)) hc242) rfl rfl (v := V.sl 1 (rws (fun l => [V.sl 3 (rws api_Instr.cells l)]) a0_7)) (.load rfl rfl (.box rfl rfl) rfl) ?_
    refine SafeOps.quiet0 E_good (congrArg (fun b => some (!b)) hc242) rfl rfl (v := V.int .i64 (a0_7.length : Int)) (.fnE rfl lenE) ?_
    refine SafeOps.quiet0 E_good (congrArg (fun b => some (!b)) hc242) rfl rfl (v := V.bool (decide ((a0_7.length : Int) > 16))) (.fn rfl) ?_
    refine SafeOps.quiet0 E_good rfl rfl rfl (v := V.bool (decide ((a0_7.length : Int) > 16))) (.pickK rfl hc242 rfl) ?_
    exact SafeOps.drop' 4 rfl rfl rfl K
  refine SafeOps.nil ?_
  repeat (first | refine Safe.seq ?_ | refine Safe.skip ?_ | with_reducible refine thenQ.n ?_ | with_reducible refine blockQ.n ?_)
  refine ifG h (fun hc243 h => ?_) (fun hc243 h => ?_)
  · skip
    refine Safe.condK rfl hc243 ?_
    repeat (first | refine Safe.seq ?_ | refine Safe.skip ?_ | with_reducible refine thenQ.n ?_ | with_reducible refine blockQ.n ?_)
    refine Safe.region ?_
    refine SafeOps.quiet0 E_good rfl rfl rfl (v := V.int .i64 1) (.fn rfl) ?_
    refine SafeOps.nil ?_
    repeat (first | refine Safe.seq ?_ | refine Safe.skip ?_ | with_reducible refine thenQ.n ?_ | with_reducible refine blockQ.n ?_)
    refine Safe.ret ?_
    repeat (first | with_reducible refine thenQ.r ?_ | with_reducible refine blockQ.r ?_)
    obtain rfl := Option.some.inj h
    exact retQ.gen (vs := [V.int .i64 1]) rfl (.tmp (v := V.int .i64 1) rfl .nil) (.free rfl) (by simp) (.inr rfl)
  · skip
    refine Safe.condN rfl hc243 ?_
    repeat (first | refine Safe.seq ?_ | refine Safe.skip ?_ | with_reducible refine thenQ.n ?_ | with_reducible refine blockQ.n ?_)
    refine Safe.region ?_
    refine SafeOps.quiet0 E_good rfl rfl rfl (v := V.fn 19 [V.ptr [1] 0 0]) (.fn rfl) ?_
    refine SafeOps.quiet0 E_good rfl rfl rfl (v := V.fn 19 [V.ptr [1] 0 0]) (.fn rfl) ?_
    refine SafeOps.nil ?_
    repeat (first | refine Safe.seq ?_ | refine Safe.skip ?_ | with_reducible refine thenQ.n ?_ | with_reducible refine blockQ.n ?_)
    refine Safe.region ?_
    refine SafeOps.quiet0 E_good rfl rfl rfl (v := V.sl 1 (rws (fun l => [V.sl 3 (rws api_Instr.cells l)]) a0_7)) (.load rfl rfl (.box rfl rfl) rfl) ?_
    refine SafeOps.quiet0 E_good rfl rfl rfl (v := V.int .i64 (a0_7.length : Int)) (.fnE rfl lenE) ?_
    refine SafeOps.quiet0 E_good rfl rfl rfl (v := V.int .i64 0) (.fn rfl) ?_
    refine SafeOps.nil ?_
    repeat (first | refine Safe.seq ?_ | refine Safe.skip ?_ | with_reducible refine thenQ.n ?_ | with_reducible refine blockQ.n ?_)
    refine Safe.block ?_
    repeat (first | refine Safe.seq ?_ | refine Safe.skip ?_ | with_reducible refine thenQ.n ?_ | with_reducible refine blockQ.n ?_)
    refine Safe.loopW (fun (v17_317 : Int) => ⟨Try.f12.ntmps, [(3, V.fn 19 [V.ptr [1] 0 0]), (15, V.sl 1 (rws (fun l => [V.sl 3 (rws api_Instr.cells l)]) a0_7)), (16, V.int .i64 (a0_7.length : Int)), (17, V.int .i64 v17_317)], [([1], Obj.box [V.sl 1 (rws (fun l => [V.sl 3 (rws api_Instr.cells l)]) a0_7)])], [], []⟩) h (.cov ⟨rfl, rfl, (upT_cons (.refl _) (upT_cons (.refl _) (upT_cons (.refl _) (upT_cons (.refl _) upT_nil)))), (upOb_cons rfl (.refl _) upOb_nil), upOut_nil, rfl⟩) ?_
    intro v17_317 ohr318 h hr318
    replace h : go_code_CheckAll_s3 a0_7 v17_317 = some ohr318 := h
    rw [go_code_CheckAll_s3] at h
    repeat (first | refine Safe.seq ?_ | refine Safe.skip ?_ | with_reducible refine thenQ.n ?_ | with_reducible refine blockQ.n ?_)
    refine Safe.region ?_
    refine SafeOps.quiet0 E_good rfl rfl rfl (v := V.bool (decide (v17_317 < (a0_7.length : Int)))) (.fn rfl) ?_
    refine SafeOps.nil ?_
    repeat (first | refine Safe.seq ?_ | refine Safe.skip ?_ | with_reducible refine thenQ.n ?_ | with_reducible refine blockQ.n ?_)
    refine ifG h (fun hc319 h => ?_) (fun hc319 h => ?_)
    · skip
      refine Safe.condK rfl hc319 ?_
      repeat (first | refine Safe.seq ?_ | refine Safe.skip ?_ | with_reducible refine thenQ.n ?_ | with_reducible refine blockQ.n ?_)
      refine Safe.block ?_
      repeat (first | refine Safe.seq ?_ | refine Safe.skip ?_ | with_reducible refine thenQ.n ?_ | with_reducible refine blockQ.n ?_)
      refine Safe.region ?_
      refine okG h (fun hb320 h => ?_)
      refine SafeOps.quiet0 E_good rfl rfl rfl (v := V.spt 1 (rws (fun l => [V.sl 3 (rws api_Instr.cells l)]) a0_7) (Int.toNat v17_317) 0) (.idxSlM (f := (fun l => [V.sl 3 (rws api_Instr.cells l)])) rfl rfl rfl rfl rfl hb320) ?_
      refine SafeOps.quiet0 E_good rfl rfl rfl (v := V.sl 3 (rws api_Instr.cells (gt a0_7 v17_317))) (.load rfl rfl (.sptM (f := (fun l => [V.sl 3 (rws api_Instr.cells l)])) hb320 rfl) rfl) ?_
      refine SafeOps.quiet0 E_good rfl rfl rfl (v := V.sl 3 (rws api_Instr.cells (gt a0_7 v17_317))) (.fn rfl) ?_
      refine SafeOps.nil ?_
      repeat (first | refine Safe.seq ?_ | refine Safe.skip ?_ | with_reducible refine thenQ.n ?_ | with_reducible refine blockQ.n ?_)
      refine Safe.region ?_
      refine SafeOps.quiet0 E_good rfl rfl rfl (v := V.sl 3 (rws api_Instr.cells (gt a0_7 v17_317))) (.fn rfl) ?_
      refine bindG h ?_
      intro x_321 he322 h
      refine SafeOps.quiet0 E_good rfl rfl rfl (v := V.int .i64 x_321) (.callP rfl rfl (go_code_Check_sc (gt a0_7 v17_317) _ he322) rfl) ?_
      refine SafeOps.quiet0 E_good rfl rfl rfl (v := V.bool (x_321 != 0)) (.fn rfl) ?_
      refine SafeOps.quiet0 E_good rfl rfl rfl (v := V.bool (x_321 != 0)) (.fn rfl) ?_
      refine ifG h (fun hc323 h => ?_) (fun hc323 h => ?_)
      · skip
        refine SafeOps.skip (congrArg (fun b => some (!b)) hc323) rfl rfl ?_
        refine SafeOps.skip (congrArg (fun b => some (!b)) hc323) rfl rfl ?_
        refine SafeOps.skip (congrArg (fun b => some (!b)) hc323) rfl rfl ?_
        refine SafeOps.quiet0 E_good rfl rfl rfl (v := V.bool true) (.pickK rfl hc323 rfl) ?_
        refine SafeOps.nil ?_
        repeat (first | refine Safe.seq ?_ | refine Safe.skip ?_ | with_reducible refine thenQ.n ?_ | with_reducible refine blockQ.n ?_)
        refine Safe.condK rfl rfl ?_
        repeat (first | refine Safe.seq ?_ | refine Safe.skip ?_ | with_reducible refine thenQ.n ?_ | with_reducible refine blockQ.n ?_)
        refine Safe.region ?_
        refine SafeOps.quiet0 E_good rfl rfl rfl (v := V.int .i64 1) (.fn rfl) ?_
        refine SafeOps.nil ?_
        repeat (first | refine Safe.seq ?_ | refine Safe.skip ?_ | with_reducible refine thenQ.n ?_ | with_reducible refine blockQ.n ?_)
        refine Safe.ret ?_
        repeat (first | with_reducible refine thenQ.r ?_ | with_reducible refine blockQ.r ?_)
        replace h := inr_out h hr318
        obtain rfl := Option.some.inj h
        exact retQ.gen (vs := [V.int .i64 1]) rfl (.tmp (v := V.int .i64 1) rfl .nil) (.free rfl) (by simp) (.inr rfl)
      · skip
        refine SafeOps.quiet0 E_good (congrArg (fun b => some (!b)) hc323) rfl rfl (v := V.sl 3 (rws api_Instr.cells (gt a0_7 v17_317))) (.fn rfl) ?_
        refine SafeOps.quiet0 E_good (congrArg (fun b => some (!b)) hc323) rfl rfl (v := V.fn 19 [V.ptr [1] 0 0]) (.fn rfl) ?_
        refine SafeOps.inline E_good (congrArg (fun b => some (!b)) hc323) rfl rfl rfl rfl Try.func20 rfl (fun _ _ => Try.call20 _ _) rfl ?_
        repeat (first | refine Safe.seq ?_ | refine Safe.skip ?_ | with_reducible refine thenQ.n ?_ | with_reducible refine blockQ.n ?_)
        refine Safe.region ?_
        refine SafeOps.quiet0 E_good rfl rfl rfl (v := V.bool false) (.fn rfl) ?_
        refine SafeOps.nil ?_
        repeat (first | refine Safe.seq ?_ | refine Safe.skip ?_ | with_reducible refine thenQ.n ?_ | with_reducible refine blockQ.n ?_)
        refine Safe.region ?_
        refine SafeOps.quiet0 E_good rfl rfl rfl (v := V.sl 3 (rws api_Instr.cells (gt a0_7 v17_317))) (.fn rfl) ?_
        refine SafeOps.quiet0 E_good rfl rfl rfl (v := V.fn 19 [V.ptr [1] 0 0]) (.fn rfl) ?_
        refine SafeOps.inline E_good rfl rfl rfl rfl rfl Try.func21 rfl (fun _ _ => Try.call21 _ _) rfl ?_
        repeat (first | refine Safe.seq ?_ | refine Safe.skip ?_ | with_reducible refine thenQ.n ?_ | with_reducible refine blockQ.n ?_)
        refine Safe.region ?_
        refine SafeOps.quiet0 E_good rfl rfl rfl (v := V.int .i64 0) (.fn rfl) ?_
        refine SafeOps.nil ?_
        repeat (first | refine Safe.seq ?_ | refine Safe.skip ?_ | with_reducible refine thenQ.n ?_ | with_reducible refine blockQ.n ?_)
        refine Safe.region ?_
        refine SafeOps.quiet0 E_good rfl rfl rfl (v := V.sl 3 (rws api_Instr.cells (gt a0_7 v17_317))) (.fn rfl) ?_
        refine SafeOps.quiet0 E_good rfl rfl rfl (v := V.int .i64 ((gt a0_7 v17_317).length : Int)) (.fnE rfl lenE) ?_
        refine SafeOps.quiet0 E_good rfl rfl rfl (v := V.int .i64 0) (.fn rfl) ?_
        refine SafeOps.nil ?_
        repeat (first | refine Safe.seq ?_ | refine Safe.skip ?_ | with_reducible refine thenQ.n ?_ | with_reducible refine blockQ.n ?_)
        refine Safe.block ?_
        repeat (first | refine Safe.seq ?_ | refine Safe.skip ?_ | with_reducible refine thenQ.n ?_ | with_reducible refine blockQ.n ?_)
        refine Safe.loopW (fun (v8_348 : Int) => ⟨Try.f21.ntmps, [(0, V.sl 3 (rws api_Instr.cells (gt a0_7 v17_317))), (1, V.fn 19 [V.ptr [1] 0 0]), (7, V.int .i64 ((gt a0_7 v17_317).length : Int)), (8, V.int .i64 v8_348)], [([1], Obj.box [V.sl 1 (rws (fun l => [V.sl 3 (rws api_Instr.cells l)]) a0_7)])], [(Try.f20.ntmps, []), (Try.f12.ntmps, [(3, V.fn 19 [V.ptr [1] 0 0]), (15, V.sl 1 (rws (fun l => [V.sl 3 (rws api_Instr.cells l)]) a0_7)), (16, V.int .i64 (a0_7.length : Int)), (17, V.int .i64 v17_317), (24, V.bool (x_321 != 0)), (25, V.sl 3 (rws api_Instr.cells (gt a0_7 v17_317))), (26, V.fn 19 [V.ptr [1] 0 0])])], [27, 7]⟩) h (.cov ⟨rfl, rfl, (upT_cons (.refl _) (upT_cons (.refl _) (upT_cons (.refl _) (upT_cons (.refl _) upT_nil)))), (upOb_cons rfl (.refl _) upOb_nil), (upOut_cons rfl upT_nil (upOut_cons rfl (upT_cons (.refl _) (upT_cons (.refl _) (upT_cons (.refl _) (upT_cons (.refl _) (upT_cons (.refl _) (upT_cons (.refl _) (upT_cons (.refl _) upT_nil))))))) upOut_nil)), rfl⟩) ?_
        intro v8_348 ohr349 h hr349
        replace h : go_code_CheckAll_s4 a0_7 v17_317 v8_348 = some ohr349 := h
        rw [go_code_CheckAll_s4] at h
        repeat (first | refine Safe.seq ?_ | refine Safe.skip ?_ | with_reducible refine thenQ.n ?_ | with_reducible refine blockQ.n ?_)
        refine Safe.region ?_
        refine SafeOps.quiet0 E_good rfl rfl rfl (v := V.bool (decide (v8_348 < ((gt a0_7 v17_317).length : Int)))) (.fn rfl) ?_
        refine SafeOps.nil ?_
        repeat (first | refine Safe.seq ?_ | refine Safe.skip ?_ | with_reducible refine thenQ.n ?_ | with_reducible refine blockQ.n ?_)
        refine ifG h (fun hc350 h => ?_) (fun hc350 h => ?_)
        · skip
          refine Safe.condK rfl hc350 ?_
          repeat (first | refine Safe.seq ?_ | refine Safe.skip ?_ | with_reducible refine thenQ.n ?_ | with_reducible refine blockQ.n ?_)
          refine Safe.block ?_
          repeat (first | refine Safe.seq ?_ | refine Safe.skip ?_ | with_reducible refine thenQ.n ?_ | with_reducible refine blockQ.n ?_)
          refine Safe.region ?_
          refine SafeOps.quiet0 E_good rfl rfl rfl (v := V.int .i64 v8_348) (.fn rfl) ?_
          refine SafeOps.quiet0 E_good rfl rfl rfl (v := V.int .i64 v8_348) (.fn rfl) ?_
          refine SafeOps.nil ?_
          repeat (first | refine Safe.seq ?_ | refine Safe.skip ?_ | with_reducible refine thenQ.n ?_ | with_reducible refine blockQ.n ?_)
          refine Safe.region ?_
          refine SafeOps.quiet0 E_good rfl rfl rfl (v := V.fn 19 [V.ptr [1] 0 0]) (.fn rfl) ?_
          refine SafeOps.quiet0 E_good rfl rfl rfl (v := V.sl 3 (rws api_Instr.cells (gt a0_7 v17_317))) (.fn rfl) ?_
          refine SafeOps.quiet0 E_good rfl rfl rfl (v := V.int .i64 v8_348) (.fn rfl) ?_
          refine okG h (fun hb351 h => ?_)
          refine SafeOps.quiet0 E_good rfl rfl rfl (v := V.spt 3 (rws api_Instr.cells (gt a0_7 v17_317)) (Int.toNat v8_348) 0) (.idxSlM (f := api_Instr.cells) rfl rfl rfl rfl rfl hb351) ?_
          refine SafeOps.quiet0 E_good rfl rfl rfl (v := V.agg [V.int .i64 ((gt (gt a0_7 v17_317) v8_348).Op), V.int .i64 ((gt (gt a0_7 v17_317) v8_348).A), V.int .i64 ((gt (gt a0_7 v17_317) v8_348).B)]) (.load rfl rfl (.sptM (f := api_Instr.cells) hb351 rfl) rfl) ?_
          refine SafeOps.inline E_good rfl rfl rfl rfl rfl Try.func19 rfl (fun _ _ => Try.call19 _ _) rfl ?_
          repeat (first | refine Safe.seq ?_ | refine Safe.skip ?_ | with_reducible refine thenQ.n ?_ | with_reducible refine blockQ.n ?_)
          refine Safe.region ?_
          refine SafeOps.quiet1 E_good rfl rfl rfl (.box rfl rfl) rfl ?_
          refine SafeOps.quiet0 E_good rfl rfl rfl (v := V.bool false) (.fn rfl) ?_
          refine SafeOps.nil ?_
          repeat (first | refine Safe.seq ?_ | refine Safe.skip ?_ | with_reducible refine thenQ.n ?_ | with_reducible refine blockQ.n ?_)
          refine Safe.region ?_
          refine SafeOps.quiet0 E_good rfl rfl rfl (v := V.ptr [27, 7, 16, 2] 0 0) (.fn rfl) ?_
          refine SafeOps.quiet0 E_good rfl rfl rfl (v := V.int .i64 ((gt (gt a0_7 v17_317) v8_348).Op)) (.load rfl rfl (.box rfl rfl) rfl) ?_
          refine SafeOps.quiet0 E_good rfl rfl rfl (v := V.bool (((gt (gt a0_7 v17_317) v8_348).Op) == 2)) (.fn rfl) ?_
          refine SafeOps.quiet0 E_good rfl rfl rfl (v := V.bool (((gt (gt a0_7 v17_317) v8_348).Op) == 2)) (.fn rfl) ?_
          refine SafeOps.bjoin 6 13 (b := ((((gt (gt a0_7 v17_317) v8_348).Op) == 2) && (decide (((gt (gt a0_7 v17_317) v8_348).A) ≥ (a0_7.length : Int))))) (b1 := decide (((gt (gt a0_7 v17_317) v8_348).A) ≥ (a0_7.length : Int))) (b0 := false) (fun hc352 K => ?_) (fun hc352 K => ?_) bj_and ?_
          · skip
            refine SafeOps.quiet0 E_good (congrArg some hc352) rfl rfl (v := V.ptr [27, 7, 16, 2] 0 1) (.fn rfl) ?_
            refine SafeOps.quiet0 E_good (congrArg some hc352) rfl rfl (v := V.int .i64 ((gt (gt a0_7 v17_317) v8_348).A)) (.load rfl rfl (.box rfl rfl) rfl) ?_
            refine SafeOps.quiet0 E_good (congrArg some hc352) rfl rfl (v := V.sl 1 (rws (fun l => [V.sl 3 (rws api_Instr.cells l)]) a0_7)) (.load rfl rfl (.box rfl rfl) rfl) ?_
            refine SafeOps.quiet0 E_good (congrArg some hc352) rfl rfl (v := V.int .i64 (a0_7.length : Int)) (.fnE rfl lenE) ?_
            refine SafeOps.quiet0 E_good (congrArg some hc352) rfl rfl (v := V.bool (decide (((gt (gt a0_7 v17_317) v8_348).A) ≥ (a0_7.length : Int)))) (.fn rfl) ?_
            refine SafeOps.quiet0 E_good rfl rfl rfl (v := V.bool (decide (((gt (gt a0_7 v17_317) v8_348).A) ≥ (a0_7.length : Int)))) (.pickK rfl hc352 rfl) ?_
            exact SafeOps.drop' 6 rfl rfl rfl K
          · skip
            refine SafeOps.skip (congrArg some hc352) rfl rfl ?_
            refine SafeOps.skip (congrArg some hc352) rfl rfl ?_
            refine SafeOps.skip (congrArg some hc352) rfl rfl ?_
            refine SafeOps.skip (congrArg some hc352) rfl rfl ?_
            refine SafeOps.skip (congrArg some hc352) rfl rfl ?_
            refine SafeOps.quiet0 E_good rfl rfl rfl (v := V.bool false) (.pickK rfl hc352 rfl) ?_
            exact SafeOps.drop' 6 rfl rfl rfl K
          refine SafeOps.quiet0 E_good rfl rfl rfl (v := V.bool ((((gt (gt a0_7 v17_317) v8_348).Op) == 2) && (decide (((gt (gt a0_7 v17_317) v8_348).A) ≥ (a0_7.length : Int))))) (.fn rfl) ?_
          refine SafeOps.nil ?_
          repeat (first | refine Safe.seq ?_ | refine Safe.skip ?_ | with_reducible refine thenQ.n ?_ | with_reducible refine blockQ.n ?_)
          refine Safe.ret ?_
          repeat (first | with_reducible refine thenQ.r ?_ | with_reducible refine blockQ.r ?_)
          refine inQ.gen (vs := [V.bool ((((gt (gt a0_7 v17_317) v8_348).Op) == 2) && (decide (((gt (gt a0_7 v17_317) v8_348).A) ≥ (a0_7.length : Int))))]) (v := V.bool ((((gt (gt a0_7 v17_317) v8_348).Op) == 2) && (decide (((gt (gt a0_7 v17_317) v8_348).A) ≥ (a0_7.length : Int))))) (.inr rfl) rfl (.tmp (v := V.bool ((((gt (gt a0_7 v17_317) v8_348).Op) == 2) && (decide (((gt (gt a0_7 v17_317) v8_348).A) ≥ (a0_7.length : Int))))) rfl .nil) rfl ?_
          refine SafeOps.nil ?_
          repeat (first | refine Safe.seq ?_ | refine Safe.skip ?_ | with_reducible refine thenQ.n ?_ | with_reducible refine blockQ.n ?_)
          refine ifG h (fun hc353 h => ?_) (fun hc353 h => ?_)
          · skip
            refine Safe.condK rfl hc353 ?_
            repeat (first | refine Safe.seq ?_ | refine Safe.skip ?_ | with_reducible refine thenQ.n ?_ | with_reducible refine blockQ.n ?_)
            refine Safe.region ?_
            refine SafeOps.quiet0 E_good rfl rfl rfl (v := V.int .i64 v8_348) (.fn rfl) ?_
            refine SafeOps.quiet0 E_good rfl rfl rfl (v := V.int .i64 v8_348) (.fn rfl) ?_
            refine SafeOps.nil ?_
            repeat (first | refine Safe.seq ?_ | refine Safe.skip ?_ | with_reducible refine thenQ.n ?_ | with_reducible refine blockQ.n ?_)
            refine Safe.ret ?_
            repeat (first | with_reducible refine thenQ.r ?_ | with_reducible refine blockQ.r ?_)
            refine inQ.gen (vs := [V.int .i64 v8_348]) (v := V.int .i64 v8_348) (.inr rfl) rfl (.tmp (v := V.int .i64 v8_348) rfl .nil) rfl ?_
            replace h := inr_out h hr349
            refine SafeOps.quiet0 E_good rfl rfl rfl (v := V.bool (decide (v8_348 ≥ 0))) (.fn rfl) ?_
            refine SafeOps.quiet0 E_good rfl rfl rfl (v := V.bool (decide (v8_348 ≥ 0))) (.fn rfl) ?_
            refine SafeOps.nil ?_
            repeat (first | refine Safe.seq ?_ | refine Safe.skip ?_ | with_reducible refine thenQ.n ?_ | with_reducible refine blockQ.n ?_)
            refine Safe.ret ?_
            repeat (first | with_reducible refine thenQ.r ?_ | with_reducible refine blockQ.r ?_)
            refine inQ.gen (vs := [V.bool (decide (v8_348 ≥ 0))]) (v := V.bool (decide (v8_348 ≥ 0))) (.inr rfl) rfl (.tmp (v := V.bool (decide (v8_348 ≥ 0))) rfl .nil) rfl ?_
            refine SafeOps.quiet0 E_good rfl rfl rfl (v := V.bool (decide (v8_348 ≥ 0))) (.pickK rfl hc323 rfl) ?_
            refine SafeOps.nil ?_
            repeat (first | refine Safe.seq ?_ | refine Safe.skip ?_ | with_reducible refine thenQ.n ?_ | with_reducible refine blockQ.n ?_)
            refine ifG h (fun hc354 h => ?_) (fun hc354 h => ?_)
            · skip
              refine Safe.condK rfl hc354 ?_
              repeat (first | refine Safe.seq ?_ | refine Safe.skip ?_ | with_reducible refine thenQ.n ?_ | with_reducible refine blockQ.n ?_)
              refine Safe.region ?_
              refine SafeOps.quiet0 E_good rfl rfl rfl (v := V.int .i64 1) (.fn rfl) ?_
              refine SafeOps.nil ?_
              repeat (first | refine Safe.seq ?_ | refine Safe.skip ?_ | with_reducible refine thenQ.n ?_ | with_reducible refine blockQ.n ?_)
              refine Safe.ret ?_
              repeat (first | with_reducible refine thenQ.r ?_ | with_reducible refine blockQ.r ?_)
              replace h := inr_out h hr318
              obtain rfl := Option.some.inj h
              exact retQ.gen (vs := [V.int .i64 1]) rfl (.tmp (v := V.int .i64 1) rfl .nil) (.free rfl) (by simp) (.inr rfl)
            · skip
              refine Safe.condN rfl hc354 ?_
              repeat (first | refine Safe.seq ?_ | refine Safe.skip ?_ | with_reducible refine thenQ.n ?_ | with_reducible refine blockQ.n ?_)
              refine Safe.region ?_
              refine SafeOps.quiet0 E_good rfl rfl rfl (v := V.int .i64 (IntKind.i64.wrap (v17_317 + 1))) (.fn rfl) ?_
              refine SafeOps.quiet0 E_good rfl rfl rfl (v := V.int .i64 (IntKind.i64.wrap (v17_317 + 1))) (.fn rfl) ?_
              refine SafeOps.nil ?_
              repeat (first | refine Safe.seq ?_ | refine Safe.skip ?_ | with_reducible refine thenQ.n ?_ | with_reducible refine blockQ.n ?_)
              exact ⟨_, next_out h, (.cov ⟨rfl, rfl, (upT_cons (.refl _) (upT_cons (.refl _) (upT_cons (.refl _) (upT_cons (.refl _) upT_nil)))), (upOb_cons rfl (.refl _) upOb_nil), upOut_nil, rfl⟩)⟩
          · skip
            refine Safe.condN rfl hc353 ?_
            repeat (first | refine Safe.seq ?_ | refine Safe.skip ?_ | with_reducible refine thenQ.n ?_ | with_reducible refine blockQ.n ?_)
            refine Safe.region ?_
            refine SafeOps.quiet0 E_good rfl rfl rfl (v := V.int .i64 (IntKind.i64.wrap (v8_348 + 1))) (.fn rfl) ?_
            refine SafeOps.quiet0 E_good rfl rfl rfl (v := V.int .i64 (IntKind.i64.wrap (v8_348 + 1))) (.fn rfl) ?_
            refine SafeOps.nil ?_
            repeat (first | refine Safe.seq ?_ | refine Safe.skip ?_ | with_reducible refine thenQ.n ?_ | with_reducible refine blockQ.n ?_)
            exact ⟨_, next_out h, (.cov ⟨rfl, rfl, (upT_cons (.refl _) (upT_cons (.refl _) (upT_cons (.refl _) (upT_cons (.refl _) upT_nil)))), (upOb_cons rfl (.refl _) upOb_nil), (upOut_cons rfl upT_nil (upOut_cons rfl (upT_cons (.refl _) (upT_cons (.refl _) (upT_cons (.refl _) (upT_cons (.refl _) (upT_cons (.refl _) (upT_cons (.refl _) (upT_cons (.refl _) upT_nil))))))) upOut_nil)), rfl⟩)⟩
        · skip
          refine Safe.condN rfl hc350 ?_
          repeat (first | refine Safe.seq ?_ | refine Safe.skip ?_ | with_reducible refine thenQ.n ?_ | with_reducible refine blockQ.n ?_)
          refine Safe.exit ?_
          repeat (first | with_reducible refine thenQ.e ?_ | with_reducible refine blockQ.x rfl ?_ | with_reducible refine blockQ.y rfl ?_)
          replace h := inr_out h hr349
          repeat (first | refine Safe.seq ?_ | refine Safe.skip ?_ | with_reducible refine thenQ.n ?_ | with_reducible refine blockQ.n ?_)
          refine Safe.region ?_
          refine SafeOps.quiet0 E_good rfl rfl rfl (v := V.int .i64 (-1)) (.fn rfl) ?_
          refine SafeOps.nil ?_
          repeat (first | refine Safe.seq ?_ | refine Safe.skip ?_ | with_reducible refine thenQ.n ?_ | with_reducible refine blockQ.n ?_)
          refine Safe.ret ?_
          repeat (first | with_reducible refine thenQ.r ?_ | with_reducible refine blockQ.r ?_)
          refine inQ.gen (vs := [V.int .i64 (-1)]) (v := V.int .i64 (-1)) (.inr rfl) rfl (.tmp (v := V.int .i64 (-1)) rfl .nil) rfl ?_
          refine SafeOps.quiet0 E_good rfl rfl rfl (v := V.bool false) (.fn rfl) ?_
          refine SafeOps.quiet0 E_good rfl rfl rfl (v := V.bool false) (.fn rfl) ?_
          refine SafeOps.nil ?_
          repeat (first | refine Safe.seq ?_ | refine Safe.skip ?_ | with_reducible refine thenQ.n ?_ | with_reducible refine blockQ.n ?_)
          refine Safe.ret ?_
          repeat (first | with_reducible refine thenQ.r ?_ | with_reducible refine blockQ.r ?_)
          refine inQ.gen (vs := [V.bool false]) (v := V.bool false) (.inr rfl) rfl (.tmp (v := V.bool false) rfl .nil) rfl ?_
          refine SafeOps.quiet0 E_good rfl rfl rfl (v := V.bool false) (.pickK rfl hc323 rfl) ?_
          refine SafeOps.nil ?_
          repeat (first | refine Safe.seq ?_ | refine Safe.skip ?_ | with_reducible refine thenQ.n ?_ | with_reducible refine blockQ.n ?_)
          refine Safe.condN rfl rfl ?_
          repeat (first | refine Safe.seq ?_ | refine Safe.skip ?_ | with_reducible refine thenQ.n ?_ | with_reducible refine blockQ.n ?_)
          refine Safe.region ?_
          refine SafeOps.quiet0 E_good rfl rfl rfl (v := V.int .i64 (IntKind.i64.wrap (v17_317 + 1))) (.fn rfl) ?_
          refine SafeOps.quiet0 E_good rfl rfl rfl (v := V.int .i64 (IntKind.i64.wrap (v17_317 + 1))) (.fn rfl) ?_
          refine SafeOps.nil ?_
          repeat (first | refine Safe.seq ?_ | refine Safe.skip ?_ | with_reducible refine thenQ.n ?_ | with_reducible refine blockQ.n ?_)
          exact ⟨_, next_out h, (.cov ⟨rfl, rfl, (upT_cons (.refl _) (upT_cons (.refl _) (upT_cons (.refl _) (upT_cons (.refl _) upT_nil)))), (upOb_cons rfl (.refl _) upOb_nil), upOut_nil, rfl⟩)⟩
    · skip
      refine Safe.condN rfl hc319 ?_
      repeat (first | refine Safe.seq ?_ | refine Safe.skip ?_ | with_reducible refine thenQ.n ?_ | with_reducible refine blockQ.n ?_)
      refine Safe.exit ?_
      repeat (first | with_reducible refine thenQ.e ?_ | with_reducible refine blockQ.x rfl ?_ | with_reducible refine blockQ.y rfl ?_)
      replace h := inr_out h hr318
      repeat (first | refine Safe.seq ?_ | refine Safe.skip ?_ | with_reducible refine thenQ.n ?_ | with_reducible refine blockQ.n ?_)
      refine Safe.region ?_
      refine SafeOps.quiet0 E_good rfl rfl rfl (v := V.int .i64 0) (.fn rfl) ?_
      refine SafeOps.nil ?_
      repeat (first | refine Safe.seq ?_ | refine Safe.skip ?_ | with_reducible refine thenQ.n ?_ | with_reducible refine blockQ.n ?_)
      refine Safe.ret ?_
      repeat (first | with_reducible refine thenQ.r ?_ | with_reducible refine blockQ.r ?_)
      obtain rfl := Option.some.inj h
      exact retQ.gen (vs := [V.int .i64 0]) rfl (.tmp (v := V.int .i64 0) rfl .nil) (.free rfl) (by simp) (.inr rfl)

def go_code_reached_1 (a0_372 : api_Instr) : Bool :=
  (a0_372.Op == 9)

theorem go_code_reached_1_sc (a0_372 : api_Instr) (r : Bool) (h : go_code_reached_1 a0_372 = r) : SC Try.prog gl 22 [V.agg [V.int .i64 a0_372.Op, V.int .i64 a0_372.A, V.int .i64 a0_372.B]] (V.bool r) := by
  rw [go_code_reached_1] at h
  refine SC.of E_good Try.func22 rfl (fun _ _ => Try.call22 _ _) rfl ?_
  repeat (first | refine Safe.seq ?_ | refine Safe.skip ?_ | with_reducible refine thenQ.n ?_ | with_reducible refine blockQ.n ?_)
  refine Safe.region ?_
  refine SafeOps.quiet1 E_good rfl rfl rfl (.box rfl rfl) rfl ?_
  refine SafeOps.quiet0 E_good rfl rfl rfl (v := V.bool false) (.fn rfl) ?_
  refine SafeOps.nil ?_
  repeat (first | refine Safe.seq ?_ | refine Safe.skip ?_ | with_reducible refine thenQ.n ?_ | with_reducible refine blockQ.n ?_)
  refine Safe.region ?_
  refine SafeOps.quiet0 E_good rfl rfl rfl (v := V.ptr [1] 0 0) (.fn rfl) ?_
  refine SafeOps.quiet0 E_good rfl rfl rfl (v := V.int .i64 a0_372.Op) (.load rfl rfl (.box rfl rfl) rfl) ?_
  refine SafeOps.quiet0 E_good rfl rfl rfl (v := V.bool (a0_372.Op == 9)) (.fn rfl) ?_
  refine SafeOps.quiet0 E_good rfl rfl rfl (v := V.bool (a0_372.Op == 9)) (.fn rfl) ?_
  refine SafeOps.nil ?_
  repeat (first | refine Safe.seq ?_ | refine Safe.skip ?_ | with_reducible refine thenQ.n ?_ | with_reducible refine blockQ.n ?_)
  refine Safe.ret ?_
  repeat (first | with_reducible refine thenQ.r ?_ | with_reducible refine blockQ.r ?_)
  obtain rfl := h
  exact retQ.gen (vs := [V.bool (a0_372.Op == 9)]) rfl (.tmp (v := V.bool (a0_372.Op == 9)) rfl .nil) (.free rfl) (by simp) (.inr rfl)

noncomputable def go_slices_IndexFunc_api_Instr_api_Instr_122_s1 (a0_368 : List api_Instr) : (Int) → Option ((Int) ⊕ (Int))
  | v8_390 =>
    if (decide (v8_390 < (a0_368.length : Int))) = true then
      if 0 ≤ v8_390 ∧ v8_390 < (a0_368.length : Int) then
        if (go_code_reached_1 (gt a0_368 v8_390)) = true then
          inrO (
            some v8_390)
        else
          nextO (IntKind.i64.wrap (v8_390 + 1))
      else none
    else
      inrO (
        some (-1))

noncomputable def go_slices_IndexFunc_api_Instr_api_Instr_122 (a0_368 : List api_Instr) : Option Int :=
  whileO (go_slices_IndexFunc_api_Instr_api_Instr_122_s1 a0_368) 0

theorem go_slices_IndexFunc_api_Instr_api_Instr_122_sc (a0_368 : List api_Instr) (r : Int) (h : go_slices_IndexFunc_api_Instr_api_Instr_122 a0_368 = some r) : SC Try.prog gl 21 [V.sl 3 (rws api_Instr.cells a0_368), V.fn 22 []] (V.int .i64 r) := by
  rw [go_slices_IndexFunc_api_Instr_api_Instr_122] at h
  refine SC.of E_good Try.func21 rfl (fun _ _ => Try.call21 _ _) rfl ?_
  repeat (first | refine Safe.seq ?_ | refine Safe.skip ?_ | with_reducible refine thenQ.n ?_ | with_reducible refine blockQ.n ?_)
  refine Safe.region ?_
  refine SafeOps.quiet0 E_good rfl rfl rfl (v := V.int .i64 0) (.fn rfl) ?_
  refine SafeOps.nil ?_
  repeat (first | refine Safe.seq ?_ | refine Safe.skip ?_ | with_reducible refine thenQ.n ?_ | with_reducible refine blockQ.n ?_)
  refine Safe.region ?_
  refine SafeOps.quiet0 E_good rfl rfl rfl (v := V.sl 3 (rws api_Instr.cells a0_368)) (.fn rfl) ?_
  refine SafeOps.quiet0 E_good rfl rfl rfl (v := V.int .i64 (a0_368.length : Int)) (.fnE rfl lenE) ?_
  refine SafeOps.quiet0 E_good rfl rfl rfl (v := V.int .i64 0) (.fn rfl) ?_
  refine SafeOps.nil ?_
  repeat (first | refine Safe.seq ?_ | refine Safe.skip ?_ | with_reducible refine thenQ.n ?_ | with_reducible refine blockQ.n ?_)
  refine Safe.block ?_
  repeat (first | refine Safe.seq ?_ | refine Safe.skip ?_ | with_reducible refine thenQ.n ?_ | with_reducible refine blockQ.n ?_)
  refine Safe.loopW (fun (v8_390 : Int) => ⟨Try.f21.ntmps, [(0, V.sl 3 (rws api_Instr.cells a0_368)), (1, V.fn 22 []), (7, V.int .i64 (a0_368.length : Int)), (8, V.int .i64 v8_390)], [], [], []⟩) h (.cov ⟨rfl, rfl, (upT_cons (.refl _) (upT_cons (.refl _) (upT_cons (.refl _) (upT_cons (.refl _) upT_nil)))), upOb_nil, upOut_nil, rfl⟩) ?_
  intro v8_390 ohr391 h hr391
  replace h : go_slices_IndexFunc_api_Instr_api_Instr_122_s1 a0_368 v8_390 = some ohr391 := h
  rw [go_slices_IndexFunc_api_Instr_api_Instr_122_s1] at h
  repeat (first | refine Safe.seq ?_ | refine Safe.skip ?_ | with_reducible refine thenQ.n ?_ | with_reducible refine blockQ.n ?_)
  refine Safe.region ?_
  refine SafeOps.quiet0 E_good rfl rfl rfl (v := V.bool (decide (v8_390 < (a0_368.length : Int)))) (.fn rfl) ?_
  refine SafeOps.nil ?_
  repeat (first | refine Safe.seq ?_ | refine Safe.skip ?_ | with_reducible refine thenQ.n ?_ | with_reducible refine blockQ.n ?_)
  refine ifG h (fun hc392 h => ?_) (fun hc392 h => ?_)
  · skip
    refine Safe.condK rfl hc392 ?_
    repeat (first | refine Safe.seq ?_ | refine Safe.skip ?_ | with_reducible refine thenQ.n ?_ | with_reducible refine blockQ.n ?_)
    refine Safe.block ?_
    repeat (first | refine Safe.seq ?_ | refine Safe.skip ?_ | with_reducible refine thenQ.n ?_ | with_reducible refine blockQ.n ?_)
    refine Safe.region ?_
    refine SafeOps.quiet0 E_good rfl rfl rfl (v := V.int .i64 v8_390) (.fn rfl) ?_
    refine SafeOps.quiet0 E_good rfl rfl rfl (v := V.int .i64 v8_390) (.fn rfl) ?_
    refine SafeOps.nil ?_
    repeat (first | refine Safe.seq ?_ | refine Safe.skip ?_ | with_reducible refine thenQ.n ?_ | with_reducible refine blockQ.n ?_)
    refine Safe.region ?_
    refine SafeOps.quiet0 E_good rfl rfl rfl (v := V.fn 22 []) (.fn rfl) ?_
    refine SafeOps.quiet0 E_good rfl rfl rfl (v := V.sl 3 (rws api_Instr.cells a0_368)) (.fn rfl) ?_
    refine SafeOps.quiet0 E_good rfl rfl rfl (v := V.int .i64 v8_390) (.fn rfl) ?_
    refine okG h (fun hb393 h => ?_)
    refine SafeOps.quiet0 E_good rfl rfl rfl (v := V.spt 3 (rws api_Instr.cells a0_368) (Int.toNat v8_390) 0) (.idxSlM (f := api_Instr.cells) rfl rfl rfl rfl rfl hb393) ?_
    refine SafeOps.quiet0 E_good rfl rfl rfl (v := V.agg [V.int .i64 ((gt a0_368 v8_390).Op), V.int .i64 ((gt a0_368 v8_390).A), V.int .i64 ((gt a0_368 v8_390).B)]) (.load rfl rfl (.sptM (f := api_Instr.cells) hb393 rfl) rfl) ?_
    refine SafeOps.quiet0 E_good rfl rfl rfl (v := V.bool (go_code_reached_1 (gt a0_368 v8_390))) (.callP rfl rfl (go_code_reached_1_sc (gt a0_368 v8_390) _ rfl) rfl) ?_
    refine SafeOps.nil ?_
    repeat (first | refine Safe.seq ?_ | refine Safe.skip ?_ | with_reducible refine thenQ.n ?_ | with_reducible refine blockQ.n ?_)
    refine ifG h (fun hc394 h => ?_) (fun hc394 h => ?_)
    · skip
      refine Safe.condK rfl hc394 ?_
      repeat (first | refine Safe.seq ?_ | refine Safe.skip ?_ | with_reducible refine thenQ.n ?_ | with_reducible refine blockQ.n ?_)
      refine Safe.region ?_
      refine SafeOps.quiet0 E_good rfl rfl rfl (v := V.int .i64 v8_390) (.fn rfl) ?_
      refine SafeOps.quiet0 E_good rfl rfl rfl (v := V.int .i64 v8_390) (.fn rfl) ?_
      refine SafeOps.nil ?_
      repeat (first | refine Safe.seq ?_ | refine Safe.skip ?_ | with_reducible refine thenQ.n ?_ | with_reducible refine blockQ.n ?_)
      refine Safe.ret ?_
      repeat (first | with_reducible refine thenQ.r ?_ | with_reducible refine blockQ.r ?_)
      replace h := inr_out h hr391
      obtain rfl := Option.some.inj h
      exact retQ.gen (vs := [V.int .i64 v8_390]) rfl (.tmp (v := V.int .i64 v8_390) rfl .nil) (.free rfl) (by simp) (.inr rfl)
    · skip
      refine Safe.condN rfl hc394 ?_
      repeat (first | refine Safe.seq ?_ | refine Safe.skip ?_ | with_reducible refine thenQ.n ?_ | with_reducible refine blockQ.n ?_)
      refine Safe.region ?_
      refine SafeOps.quiet0 E_good rfl rfl rfl (v := V.int .i64 (IntKind.i64.wrap (v8_390 + 1))) (.fn rfl) ?_
      refine SafeOps.quiet0 E_good rfl rfl rfl (v := V.int .i64 (IntKind.i64.wrap (v8_390 + 1))) (.fn rfl) ?_
      refine SafeOps.nil ?_
      repeat (first | refine Safe.seq ?_ | refine Safe.skip ?_ | with_reducible refine thenQ.n ?_ | with_reducible refine blockQ.n ?_)
      exact ⟨_, next_out h, (.cov ⟨rfl, rfl, (upT_cons (.refl _) (upT_cons (.refl _) (upT_cons (.refl _) (upT_cons (.refl _) upT_nil)))), upOb_nil, upOut_nil, rfl⟩)⟩
  · skip
    refine Safe.condN rfl hc392 ?_
    repeat (first | refine Safe.seq ?_ | refine Safe.skip ?_ | with_reducible refine thenQ.n ?_ | with_reducible refine blockQ.n ?_)
    refine Safe.exit ?_
    repeat (first | with_reducible refine thenQ.e ?_ | with_reducible refine blockQ.x rfl ?_ | with_reducible refine blockQ.y rfl ?_)
    replace h := inr_out h hr391
    repeat (first | refine Safe.seq ?_ | refine Safe.skip ?_ | with_reducible refine thenQ.n ?_ | with_reducible refine blockQ.n ?_)
    refine Safe.region ?_
    refine SafeOps.quiet0 E_good rfl rfl rfl (v := V.int .i64 (-1)) (.fn rfl) ?_
    refine SafeOps.nil ?_
    repeat (first | refine Safe.seq ?_ | refine Safe.skip ?_ | with_reducible refine thenQ.n ?_ | with_reducible refine blockQ.n ?_)
    refine Safe.ret ?_
    repeat (first | with_reducible refine thenQ.r ?_ | with_reducible refine blockQ.r ?_)
    obtain rfl := Option.some.inj h
    exact retQ.gen (vs := [V.int .i64 (-1)]) rfl (.tmp (v := V.int .i64 (-1)) rfl .nil) (.free rfl) (by simp) (.inr rfl)

noncomputable def go_code_reached (a0_367 : List api_Instr) : Option (List api_Instr) :=
  (go_slices_IndexFunc_api_Instr_api_Instr_122 a0_367).bind fun x_399 =>
  if (decide (x_399 ≥ 0)) = true then
    if 0 ≤ (IntKind.i64.wrap (x_399 + 1)) ∧ (IntKind.i64.wrap (x_399 + 1)) ≤ (a0_367.length : Int) then
      some (sub a0_367 0 (IntKind.i64.wrap (x_399 + 1)))
    else none
  else
    some a0_367

theorem go_code_reached_sc (a0_367 : List api_Instr) (r : List api_Instr) (h : go_code_reached a0_367 = some r) : SC Try.prog gl 15 [V.sl 3 (rws api_Instr.cells a0_367)] (V.sl 3 (rws api_Instr.cells r)) := by
  rw [go_code_reached] at h
  refine SC.of E_good Try.func15 rfl (fun _ _ => Try.call15 _ _) rfl ?_
  repeat (first | refine Safe.seq ?_ | refine Safe.skip ?_ | with_reducible refine thenQ.n ?_ | with_reducible refine blockQ.n ?_)
  refine Safe.region ?_
  refine SafeOps.quiet0 E_good rfl rfl rfl (v := V.nils) (.fn rfl) ?_
  refine SafeOps.nil ?_
  repeat (first | refine Safe.seq ?_ | refine Safe.skip ?_ | with_reducible refine thenQ.n ?_ | with_reducible refine blockQ.n ?_)
  refine Safe.region ?_
  refine SafeOps.quiet0 E_good rfl rfl rfl (v := V.sl 3 (rws api_Instr.cells a0_367)) (.fn rfl) ?_
  refine bindG h ?_
  intro x_399 he400 h
  refine SafeOps.quiet0 E_good rfl rfl rfl (v := V.int .i64 x_399) (.callP rfl rfl (go_slices_IndexFunc_api_Instr_api_Instr_122_sc a0_367 _ he400) rfl) ?_
  refine SafeOps.quiet0 E_good rfl rfl rfl (v := V.int .i64 x_399) (.fn rfl) ?_
  refine SafeOps.nil ?_
  repeat (first | refine Safe.seq ?_ | refine Safe.skip ?_ | with_reducible refine thenQ.n ?_ | with_reducible refine blockQ.n ?_)
  refine Safe.region ?_
  refine SafeOps.quiet0 E_good rfl rfl rfl (v := V.int .i64 x_399) (.fn rfl) ?_
  refine SafeOps.quiet0 E_good rfl rfl rfl (v := V.bool (decide (x_399 ≥ 0))) (.fn rfl) ?_
  refine SafeOps.nil ?_
  repeat (first | refine Safe.seq ?_ | refine Safe.skip ?_ | with_reducible refine thenQ.n ?_ | with_reducible refine blockQ.n ?_)
  refine ifG h (fun hc401 h => ?_) (fun hc401 h => ?_)
  · skip
    refine Safe.condK rfl hc401 ?_
    repeat (first | refine Safe.seq ?_ | refine Safe.skip ?_ | with_reducible refine thenQ.n ?_ | with_reducible refine blockQ.n ?_)
    refine Safe.region ?_
    refine SafeOps.quiet0 E_good rfl rfl rfl (v := V.sl 3 (rws api_Instr.cells a0_367)) (.fn rfl) ?_
    refine SafeOps.quiet0 E_good rfl rfl rfl (v := V.int .i64 x_399) (.fn rfl) ?_
    refine SafeOps.quiet0 E_good rfl rfl rfl (v := V.int .i64 (IntKind.i64.wrap (x_399 + 1))) (.fn rfl) ?_
    refine okG h (fun hb402 h => ?_)
    refine SafeOps.quiet0 E_good rfl rfl rfl (v := V.sl 3 (rws api_Instr.cells (sub a0_367 0 (IntKind.i64.wrap (x_399 + 1))))) (.slH (f := api_Instr.cells) rfl rfl rfl rfl rfl hb402) ?_
    refine SafeOps.quiet0 E_good rfl rfl rfl (v := V.sl 3 (rws api_Instr.cells (sub a0_367 0 (IntKind.i64.wrap (x_399 + 1))))) (.fn rfl) ?_
    refine SafeOps.nil ?_
    repeat (first | refine Safe.seq ?_ | refine Safe.skip ?_ | with_reducible refine thenQ.n ?_ | with_reducible refine blockQ.n ?_)
    refine Safe.ret ?_
    repeat (first | with_reducible refine thenQ.r ?_ | with_reducible refine blockQ.r ?_)
    obtain rfl := Option.some.inj h
    exact retQ.gen (vs := [V.sl 3 (rws api_Instr.cells (sub a0_367 0 (IntKind.i64.wrap (x_399 + 1))))]) rfl (.tmp (v := V.sl 3 (rws api_Instr.cells (sub a0_367 0 (IntKind.i64.wrap (x_399 + 1))))) rfl .nil) (.free rfl) (by simp) (.inr rfl)
  · skip
    refine Safe.condN rfl hc401 ?_
    repeat (first | refine Safe.seq ?_ | refine Safe.skip ?_ | with_reducible refine thenQ.n ?_ | with_reducible refine blockQ.n ?_)
    refine Safe.region ?_
    refine SafeOps.quiet0 E_good rfl rfl rfl (v := V.sl 3 (rws api_Instr.cells a0_367)) (.fn rfl) ?_
    refine SafeOps.quiet0 E_good rfl rfl rfl (v := V.sl 3 (rws api_Instr.cells a0_367)) (.fn rfl) ?_
    refine SafeOps.nil ?_
    repeat (first | refine Safe.seq ?_ | refine Safe.skip ?_ | with_reducible refine thenQ.n ?_ | with_reducible refine blockQ.n ?_)
    refine Safe.ret ?_
    repeat (first | with_reducible refine thenQ.r ?_ | with_reducible refine blockQ.r ?_)
    obtain rfl := Option.some.inj h
    exact retQ.gen (vs := [V.sl 3 (rws api_Instr.cells a0_367)]) rfl (.tmp (v := V.sl 3 (rws api_Instr.cells a0_367)) rfl .nil) (.free rfl) (by simp) (.inr rfl)

noncomputable def go_code_Tasks_1_b_s2 (a0_359 : Int) (l_360 : List (List api_Instr)) (rec_363 : Int → (List (List api_Instr)) → (List (Int × Int)) → (List (Int × Bool)) → Option (Int × Int × (List (Int × Int)) × (List (Int × Bool)))) (x_403 : List api_Instr) : (Int × Int × (List (Int × Int)) × (List (Int × Bool))) → Option ((Int × Int × (List (Int × Int)) × (List (Int × Bool))) ⊕ (Int × Int × (List (Int × Int)) × (List (Int × Bool))))
  | (v10_463, v34_464, vm_465, vm_466) =>
    if (decide (v34_464 < (x_403.length : Int))) = true then
      if 0 ≤ v34_464 ∧ v34_464 < (x_403.length : Int) then
        if (((gt x_403 v34_464).Op) != 2) = true then
          nextO (v10_463, IntKind.i64.wrap (v34_464 + 1), vm_465, vm_466)
        else
          (rec_363 ((gt x_403 v34_464).A) l_360 vm_465 vm_466).bind fun (x_471, x_472, m_473, m_474) =>
          if (x_472 != 0) = true then
            inrO (
              some (0, x_472, m_473, m_474))
          else
            nextO ((if 1099511627777 < (IntKind.i64.wrap (v10_463 + x_471)) then 1099511627777 else IntKind.i64.wrap (v10_463 + x_471)), IntKind.i64.wrap (v34_464 + 1), m_473, m_474)
      else none
    else
      inrO (
        some (v10_463, 0, mput vm_465 a0_359 v10_463, mdel vm_466 a0_359))

noncomputable def go_code_Tasks_1_b (rec_363 : Int → (List (List api_Instr)) → (List (Int × Int)) → (List (Int × Bool)) → Option (Int × Int × (List (Int × Int)) × (List (Int × Bool)))) (a0_359 : Int) (l_360 : List (List api_Instr)) (m_361 : List (Int × Int)) (m_362 : List (Int × Bool)) : Option (Int × Int × (List (Int × Int)) × (List (Int × Bool))) :=
  if ((mget m_362 a0_359).getD false) = true then
    some (0, 9, m_361, m_362)
  else
    if ((mget m_361 a0_359).isSome) = true then
      some (((mget m_361 a0_359).getD 0), 0, m_361, m_362)
    else
      if 0 ≤ a0_359 ∧ a0_359 < (l_360.length : Int) then
        (go_code_reached (gt l_360 a0_359)).bind fun x_403 =>
        whileO (go_code_Tasks_1_b_s2 a0_359 l_360 rec_363 x_403) (1, 0, m_361, mput m_362 a0_359 true)
      else none

theorem go_code_Tasks_1_b_si (rec_363 : Int → (List (List api_Instr)) → (List (Int × Int)) → (List (Int × Bool)) → Option (Int × Int × (List (Int × Int)) × (List (Int × Bool)))) (HR_rec_363 : ∀ (a0_359 : Int) (l_360 : List (List api_Instr)) (m_361 : List (Int × Int)) (m_362 : List (Int × Bool)) (r : Int × Int × (List (Int × Int)) × (List (Int × Bool))), rec_363 a0_359 l_360 m_361 m_362 = some r → SI Try.prog gl 14 [V.int .i64 a0_359, V.ptr [7] 0 0, V.ptr [6] 0 0, V.ptr [2] 0 0, V.ptr [8] 0 0] [([2], Go.AM.Obj.box [V.sl 1 (rws (fun l => [V.sl 3 (rws api_Instr.cells l)]) l_360)]), ([6], Go.AM.Obj.box [V.mapr [21]]), ([7], Go.AM.Obj.box [V.mapr [22]]), ([8], Go.AM.Obj.box [V.fn 14 [V.ptr [7] 0 0, V.ptr [6] 0 0, V.ptr [2] 0 0, V.ptr [8] 0 0]]), ([21], Go.AM.Obj.map (mps (fun n : Int => V.int .i64 n) (fun n : Int => V.int .i64 n) m_361)), ([22], Go.AM.Obj.map (mps (fun n : Int => V.int .i64 n) (fun b : Bool => V.bool b) m_362))] [([2], Go.AM.Obj.box [V.sl 1 (rws (fun l => [V.sl 3 (rws api_Instr.cells l)]) l_360)]), ([6], Go.AM.Obj.box [V.mapr [21]]), ([7], Go.AM.Obj.box [V.mapr [22]]), ([8], Go.AM.Obj.box [V.fn 14 [V.ptr [7] 0 0, V.ptr [6] 0 0, V.ptr [2] 0 0, V.ptr [8] 0 0]]), ([21], Go.AM.Obj.map (mps (fun n : Int => V.int .i64 n) (fun n : Int => V.int .i64 n) r.2.2.1)), ([22], Go.AM.Obj.map (mps (fun n : Int => V.int .i64 n) (fun b : Bool => V.bool b) r.2.2.2))] (V.tup [V.int .i64 r.1, V.int .i64 r.2.1])) (a0_359 : Int) (l_360 : List (List api_Instr)) (m_361 : List (Int × Int)) (m_362 : List (Int × Bool)) (r : Int × Int × (List (Int × Int)) × (List (Int × Bool))) (h : go_code_Tasks_1_b rec_363 a0_359 l_360 m_361 m_362 = some r) : SI Try.prog gl 14 [V.int .i64 a0_359, V.ptr [7] 0 0, V.ptr [6] 0 0, V.ptr [2] 0 0, V.ptr [8] 0 0] [([2], Go.AM.Obj.box [V.sl 1 (rws (fun l => [V.sl 3 (rws api_Instr.cells l)]) l_360)]), ([6], Go.AM.Obj.box [V.mapr [21]]), ([7], Go.AM.Obj.box [V.mapr [22]]), ([8], Go.AM.Obj.box [V.fn 14 [V.ptr [7] 0 0, V.ptr [6] 0 0, V.ptr [2] 0 0, V.ptr [8] 0 0]]), ([21], Go.AM.Obj.map (mps (fun n : Int => V.int .i64 n) (fun n : Int => V.int .i64 n) m_361)), ([22], Go.AM.Obj.map (mps (fun n : Int => V.int .i64 n) (fun b : Bool => V.bool b) m_362))] [([2], Go.AM.Obj.box [V.sl 1 (rws (fun l => [V.sl 3 (rws api_Instr.cells l)]) l_360)]), ([6], Go.AM.Obj.box [V.mapr [21]]), ([7], Go.AM.Obj.box [V.mapr [22]]), ([8], Go.AM.Obj.box [V.fn 14 [V.ptr [7] 0 0, V.ptr [6] 0 0, V.ptr [2] 0 0, V.ptr [8] 0 0]]), ([21], Go.AM.Obj.map (mps (fun n : Int => V.int .i64 n) (fun n : Int => V.int .i64 n) r.2.2.1)), ([22], Go.AM.Obj.map (mps (fun n : Int => V.int .i64 n) (fun b : Bool => V.bool b) r.2.2.2))] (V.tup [V.int .i64 r.1, V.int .i64 r.2.1]) := by
  rw [go_code_Tasks_1_b] at h
  refine SI.of (pa := [9999]) E_good Try.func14 rfl (fun _ _ => Try.call14 _ _) rfl (.box (.box (.box (.box (.map (.map .nil)))))) rfl rfl rfl ?_
  repeat (first | refine Safe.seq ?_ | refine Safe.skip ?_ | with_reducible refine thenQ.n ?_ | with_reducible refine blockQ.n ?_)
  refine Safe.region ?_
  refine SafeOps.quiet0 E_good rfl rfl rfl (v := V.int .i64 0) (.fn rfl) ?_
  refine SafeOps.quiet0 E_good rfl rfl rfl (v := V.int .i64 0) (.fn rfl) ?_
  refine SafeOps.nil ?_
  repeat (first | refine Safe.seq ?_ | refine Safe.skip ?_ | with_reducible refine thenQ.n ?_ | with_reducible refine blockQ.n ?_)
  refine Safe.region ?_
  refine SafeOps.quiet0 E_good rfl rfl rfl (v := V.mapr [22]) (.load rfl rfl (.box rfl rfl) rfl) ?_
  refine SafeOps.quiet0 E_good rfl rfl rfl (v := V.int .i64 a0_359) (.fn rfl) ?_
  refine SafeOps.quiet0 E_good rfl rfl rfl (v := V.bool ((mget m_362 a0_359).getD false)) (.lookM (fv := (fun b : Bool => V.bool b)) (m := m_362) (kk := a0_359) (z0 := false) (keyI .i64) rfl rfl rfl rfl rfl rfl rfl rfl rfl rfl) ?_
  refine SafeOps.nil ?_
  repeat (first | refine Safe.seq ?_ | refine Safe.skip ?_ | with_reducible refine thenQ.n ?_ | with_reducible refine blockQ.n ?_)
  refine ifG h (fun hc364 h => ?_) (fun hc364 h => ?_)
  · skip
    refine Safe.condK rfl hc364 ?_
    repeat (first | refine Safe.seq ?_ | refine Safe.skip ?_ | with_reducible refine thenQ.n ?_ | with_reducible refine blockQ.n ?_)
    refine Safe.region ?_
    refine SafeOps.quiet0 E_good rfl rfl rfl (v := V.int .i64 0) (.fn rfl) ?_
    refine SafeOps.quiet0 E_good rfl rfl rfl (v := V.int .i64 9) (.fn rfl) ?_
    refine SafeOps.nil ?_
    repeat (first | refine Safe.seq ?_ | refine Safe.skip ?_ | with_reducible refine thenQ.n ?_ | with_reducible refine blockQ.n ?_)
    refine Safe.ret ?_
    repeat (first | with_reducible refine thenQ.r ?_ | with_reducible refine blockQ.r ?_)
    obtain rfl := Option.some.inj h
    refine siQ.gen (vs := [V.int .i64 0, V.int .i64 9]) rfl (.tmp (v := V.int .i64 0) rfl (.tmp (v := V.int .i64 9) rfl .nil)) rfl rfl ?_ (.inr rfl)
    exact ⟨rfl, rfl, rfl, rfl, rfl, rfl, trivial⟩
  · skip
    refine Safe.condN rfl hc364 ?_
    repeat (first | refine Safe.seq ?_ | refine Safe.skip ?_ | with_reducible refine thenQ.n ?_ | with_reducible refine blockQ.n ?_)
    refine Safe.region ?_
    refine SafeOps.quiet0 E_good rfl rfl rfl (v := V.mapr [21]) (.load rfl rfl (.box rfl rfl) rfl) ?_
    refine SafeOps.quiet0 E_good rfl rfl rfl (v := V.int .i64 a0_359) (.fn rfl) ?_
    refine SafeOps.quiet0 E_good rfl rfl rfl (v := V.tup [V.int .i64 ((mget m_361 a0_359).getD 0), V.bool ((mget m_361 a0_359).isSome)]) (.lookM2 (fv := (fun n : Int => V.int .i64 n)) (m := m_361) (kk := a0_359) (z0 := 0) (keyI .i64) rfl rfl rfl rfl rfl rfl rfl rfl rfl rfl) ?_
    refine SafeOps.quiet0 E_good rfl rfl rfl (v := V.tup [V.int .i64 ((mget m_361 a0_359).getD 0), V.bool ((mget m_361 a0_359).isSome)]) (.fn rfl) ?_
    refine SafeOps.quiet0 E_good rfl rfl rfl (v := V.int .i64 ((mget m_361 a0_359).getD 0)) (.fn rfl) ?_
    refine SafeOps.quiet0 E_good rfl rfl rfl (v := V.bool ((mget m_361 a0_359).isSome)) (.fn rfl) ?_
    refine SafeOps.quiet0 E_good rfl rfl rfl (v := V.int .i64 ((mget m_361 a0_359).getD 0)) (.fn rfl) ?_
    refine SafeOps.quiet0 E_good rfl rfl rfl (v := V.bool ((mget m_361 a0_359).isSome)) (.fn rfl) ?_
    refine SafeOps.nil ?_
    repeat (first | refine Safe.seq ?_ | refine Safe.skip ?_ | with_reducible refine thenQ.n ?_ | with_reducible refine blockQ.n ?_)
    refine Safe.region ?_
    refine SafeOps.quiet0 E_good rfl rfl rfl (v := V.bool ((mget m_361 a0_359).isSome)) (.fn rfl) ?_
    refine SafeOps.nil ?_
    repeat (first | refine Safe.seq ?_ | refine Safe.skip ?_ | with_reducible refine thenQ.n ?_ | with_reducible refine blockQ.n ?_)
    refine ifG h (fun hc365 h => ?_) (fun hc365 h => ?_)
    · skip
      refine Safe.condK rfl hc365 ?_
      repeat (first | refine Safe.seq ?_ | refine Safe.skip ?_ | with_reducible refine thenQ.n ?_ | with_reducible refine blockQ.n ?_)
      refine Safe.region ?_
      refine SafeOps.quiet0 E_good rfl rfl rfl (v := V.int .i64 ((mget m_361 a0_359).getD 0)) (.fn rfl) ?_
      refine SafeOps.quiet0 E_good rfl rfl rfl (v := V.int .i64 ((mget m_361 a0_359).getD 0)) (.fn rfl) ?_
      refine SafeOps.quiet0 E_good rfl rfl rfl (v := V.int .i64 0) (.fn rfl) ?_
      refine SafeOps.nil ?_
      repeat (first | refine Safe.seq ?_ | refine Safe.skip ?_ | with_reducible refine thenQ.n ?_ | with_reducible refine blockQ.n ?_)
      refine Safe.ret ?_
      repeat (first | with_reducible refine thenQ.r ?_ | with_reducible refine blockQ.r ?_)
      obtain rfl := Option.some.inj h
      refine siQ.gen (vs := [V.int .i64 ((mget m_361 a0_359).getD 0), V.int .i64 0]) rfl (.tmp (v := V.int .i64 ((mget m_361 a0_359).getD 0)) rfl (.tmp (v := V.int .i64 0) rfl .nil)) rfl rfl ?_ (.inr rfl)
      exact ⟨rfl, rfl, rfl, rfl, rfl, rfl, trivial⟩
    · skip
      refine Safe.condN rfl hc365 ?_
      repeat (first | refine Safe.seq ?_ | refine Safe.skip ?_ | with_reducible refine thenQ.n ?_ | with_reducible refine blockQ.n ?_)
      refine Safe.region ?_
      refine SafeOps.quiet0 E_good rfl rfl rfl (v := V.mapr [22]) (.load rfl rfl (.box rfl rfl) rfl) ?_
      refine SafeOps.quiet0 E_good rfl rfl rfl (v := V.int .i64 a0_359) (.fn rfl) ?_
      refine SafeOps.mputM (fun n : Int => V.int .i64 n) (fun b : Bool => V.bool b) m_362 a0_359 true E_good (keyI .i64) rfl (.inl rfl) rfl rfl rfl rfl rfl rfl rfl rfl rfl ?_
      refine SafeOps.nil ?_
      repeat (first | refine Safe.seq ?_ | refine Safe.skip ?_ | with_reducible refine thenQ.n ?_ | with_reducible refine blockQ.n ?_)
      refine Safe.region ?_
      refine SafeOps.quiet0 E_good rfl rfl rfl (v := V.int .i64 1) (.fn rfl) ?_
      refine SafeOps.nil ?_
      repeat (first | refine Safe.seq ?_ | refine Safe.skip ?_ | with_reducible refine thenQ.n ?_ | with_reducible refine blockQ.n ?_)
      refine Safe.region ?_
      refine SafeOps.quiet0 E_good rfl rfl rfl (v := V.sl 1 (rws (fun l => [V.sl 3 (rws api_Instr.cells l)]) l_360)) (.load rfl rfl (.box rfl rfl) rfl) ?_
      refine SafeOps.quiet0 E_good rfl rfl rfl (v := V.int .i64 a0_359) (.fn rfl) ?_
      refine okG h (fun hb366 h => ?_)
      refine SafeOps.quiet0 E_good rfl rfl rfl (v := V.spt 1 (rws (fun l => [V.sl 3 (rws api_Instr.cells l)]) l_360) (Int.toNat a0_359) 0) (.idxSlM (f := (fun l => [V.sl 3 (rws api_Instr.cells l)])) rfl rfl rfl rfl rfl hb366) ?_
      refine SafeOps.quiet0 E_good rfl rfl rfl (v := V.sl 3 (rws api_Instr.cells (gt l_360 a0_359))) (.load rfl rfl (.sptM (f := (fun l => [V.sl 3 (rws api_Instr.cells l)])) hb366 rfl) rfl) ?_
      refine bindG h ?_
      intro x_403 he404 h
      refine SafeOps.quiet0 E_good rfl rfl rfl (v := V.sl 3 (rws api_Instr.cells x_403)) (.callP rfl rfl (go_code_reached_sc (gt l_360 a0_359) _ he404) rfl) ?_
      refine SafeOps.quiet0 E_good rfl rfl rfl (v := V.int .i64 (x_403.length : Int)) (.fnE rfl lenE) ?_
      refine SafeOps.quiet0 E_good rfl rfl rfl (v := V.int .i64 0) (.fn rfl) ?_
      refine SafeOps.nil ?_
      repeat (first | refine Safe.seq ?_ | refine Safe.skip ?_ | with_reducible refine thenQ.n ?_ | with_reducible refine blockQ.n ?_)
      refine Safe.block ?_
      repeat (first | refine Safe.seq ?_ | refine Safe.skip ?_ | with_reducible refine thenQ.n ?_ | with_reducible refine blockQ.n ?_)
      refine Safe.loopW (fun ((v10_463, v34_464, vm_465, vm_466) : Int × Int × (List (Int × Int)) × (List (Int × Bool))) => ⟨Try.f14.ntmps, [(0, V.int .i64 a0_359), (1, V.ptr [7] 0 0), (2, V.ptr [6] 0 0), (4, V.ptr [8] 0 0), (10, V.int .i64 v10_463), (32, V.sl 3 (rws api_Instr.cells x_403)), (33, V.int .i64 (x_403.length : Int)), (34, V.int .i64 v34_464)], [([2], Obj.box [V.sl 1 (rws (fun l => [V.sl 3 (rws api_Instr.cells l)]) l_360)]), ([6], Obj.box [V.mapr [21]]), ([7], Obj.box [V.mapr [22]]), ([8], Obj.box [V.fn 14 [V.ptr [7] 0 0, V.ptr [6] 0 0, V.ptr [2] 0 0, V.ptr [8] 0 0]]), ([21], Go.AM.Obj.map (mps (fun n : Int => V.int .i64 n) (fun n : Int => V.int .i64 n) vm_465)), ([22], Go.AM.Obj.map (mps (fun n : Int => V.int .i64 n) (fun b : Bool => V.bool b) vm_466))], [(6, [(0, V.ptr [2] 0 0), (1, V.ptr [6] 0 0), (2, V.ptr [7] 0 0), (3, V.ptr [8] 0 0), (4, V.mapr [21]), (5, V.mapr [22])])], [9999]⟩) h (.cov ⟨rfl, rfl, (upT_cons (.refl _) (upT_cons (.refl _) (upT_cons (.refl _) (upT_cons (.refl _) (upT_cons (.refl _) (upT_cons (.refl _) (upT_cons (.refl _) (upT_cons (.refl _) upT_nil)))))))), (upOb_cons rfl (.refl _) (upOb_cons rfl (.refl _) (upOb_cons rfl (.refl _) (upOb_cons rfl (.refl _) (upOb_cons rfl (.refl _) (upOb_cons rfl (.refl _) upOb_nil)))))), (upOut_cons rfl (upT_cons (.refl _) (upT_cons (.refl _) (upT_cons (.refl _) (upT_cons (.refl _) (upT_cons (.refl _) (upT_cons (.refl _) upT_nil)))))) upOut_nil), rfl⟩) ?_
      rintro ⟨v10_463, v34_464, vm_465, vm_466⟩ ohr467 h hr467
      replace h : go_code_Tasks_1_b_s2 a0_359 l_360 rec_363 x_403 (v10_463, v34_464, vm_465, vm_466) = some ohr467 := h
      rw [go_code_Tasks_1_b_s2] at h
      repeat (first | refine Safe.seq ?_ | refine Safe.skip ?_ | with_reducible refine thenQ.n ?_ | with_reducible refine blockQ.n ?_)
      refine Safe.region ?_
      refine SafeOps.quiet0 E_good rfl rfl rfl (v := V.bool (decide (v34_464 < (x_403.length : Int)))) (.fn rfl) ?_
      refine SafeOps.nil ?_
      repeat (first | refine Safe.seq ?_ | refine Safe.skip ?_ | with_reducible refine thenQ.n ?_ | with_reducible refine blockQ.n ?_)
      refine ifG h (fun hc468 h => ?_) (fun hc468 h => ?_)
      · skip
        refine Safe.condK rfl hc468 ?_
        repeat (first | refine Safe.seq ?_ | refine Safe.skip ?_ | with_reducible refine thenQ.n ?_ | with_reducible refine blockQ.n ?_)
        refine Safe.block ?_
        repeat (first | refine Safe.seq ?_ | refine Safe.skip ?_ | with_reducible refine thenQ.n ?_ | with_reducible refine blockQ.n ?_)
        refine Safe.region ?_
        refine okG h (fun hb469 h => ?_)
        refine SafeOps.quiet0 E_good rfl rfl rfl (v := V.spt 3 (rws api_Instr.cells x_403) (Int.toNat v34_464) 0) (.idxSlM (f := api_Instr.cells) rfl rfl rfl rfl rfl hb469) ?_
        refine SafeOps.quiet0 E_good rfl rfl rfl (v := V.agg [V.int .i64 ((gt x_403 v34_464).Op), V.int .i64 ((gt x_403 v34_464).A), V.int .i64 ((gt x_403 v34_464).B)]) (.load rfl rfl (.sptM (f := api_Instr.cells) hb469 rfl) rfl) ?_
        refine SafeOps.quiet1 E_good rfl rfl rfl (.alloc rfl rfl) rfl ?_
        refine SafeOps.store (z := Obj.box [V.int .i64 ((gt x_403 v34_464).Op), V.int .i64 ((gt x_403 v34_464).A), V.int .i64 ((gt x_403 v34_464).B)]) E_good rfl rfl rfl rfl rfl rfl rfl (.boxM (c := 3) rfl rfl (Nat.le_of_ble_eq_true rfl) rfl) ?_
        refine SafeOps.nil ?_
        repeat (first | refine Safe.seq ?_ | refine Safe.skip ?_ | with_reducible refine thenQ.n ?_ | with_reducible refine blockQ.n ?_)
        refine Safe.region ?_
        refine SafeOps.quiet0 E_good rfl rfl rfl (v := V.ptr [9999, 12] 0 0) (.fn rfl) ?_
        refine SafeOps.quiet0 E_good rfl rfl rfl (v := V.int .i64 ((gt x_403 v34_464).Op)) (.load rfl rfl (.box rfl rfl) rfl) ?_
        refine SafeOps.quiet0 E_good rfl rfl rfl (v := V.bool (((gt x_403 v34_464).Op) != 2)) (.fn rfl) ?_
        refine SafeOps.nil ?_
        repeat (first | refine Safe.seq ?_ | refine Safe.skip ?_ | with_reducible refine thenQ.n ?_ | with_reducible refine blockQ.n ?_)
        refine ifG h (fun hc470 h => ?_) (fun hc470 h => ?_)
        · skip
          refine Safe.condK rfl hc470 ?_
          repeat (first | refine Safe.seq ?_ | refine Safe.skip ?_ | with_reducible refine thenQ.n ?_ | with_reducible refine blockQ.n ?_)
          refine Safe.exit ?_
          repeat (first | with_reducible refine thenQ.e ?_ | with_reducible refine blockQ.x rfl ?_ | with_reducible refine blockQ.y rfl ?_)
          repeat (first | refine Safe.seq ?_ | refine Safe.skip ?_ | with_reducible refine thenQ.n ?_ | with_reducible refine blockQ.n ?_)
          refine Safe.region ?_
          refine SafeOps.quiet0 E_good rfl rfl rfl (v := V.int .i64 (IntKind.i64.wrap (v34_464 + 1))) (.fn rfl) ?_
          refine SafeOps.quiet0 E_good rfl rfl rfl (v := V.int .i64 (IntKind.i64.wrap (v34_464 + 1))) (.fn rfl) ?_
          refine SafeOps.nil ?_
          repeat (first | refine Safe.seq ?_ | refine Safe.skip ?_ | with_reducible refine thenQ.n ?_ | with_reducible refine blockQ.n ?_)
          exact ⟨_, next_out h, (.cov ⟨rfl, rfl, (upT_cons (.refl _) (upT_cons (.refl _) (upT_cons (.refl _) (upT_cons (.refl _) (upT_cons (.refl _) (upT_cons (.refl _) (upT_cons (.refl _) (upT_cons (.refl _) upT_nil)))))))), (upOb_cons rfl (.refl _) (upOb_cons rfl (.refl _) (upOb_cons rfl (.refl _) (upOb_cons rfl (.refl _) (upOb_cons rfl (.refl _) (upOb_cons rfl (.refl _) upOb_nil)))))), (upOut_cons rfl (upT_cons (.refl _) (upT_cons (.refl _) (upT_cons (.refl _) (upT_cons (.refl _) (upT_cons (.refl _) (upT_cons (.refl _) upT_nil)))))) upOut_nil), rfl⟩)⟩
        · skip
          refine Safe.condN rfl hc470 ?_
          repeat (first | refine Safe.seq ?_ | refine Safe.skip ?_ | with_reducible refine thenQ.n ?_ | with_reducible refine blockQ.n ?_)
          refine Safe.region ?_
          refine SafeOps.quiet0 E_good rfl rfl rfl (v := V.fn 14 [V.ptr [7] 0 0, V.ptr [6] 0 0, V.ptr [2] 0 0, V.ptr [8] 0 0]) (.load rfl rfl (.box rfl rfl) rfl) ?_
          refine SafeOps.quiet0 E_good rfl rfl rfl (v := V.ptr [9999, 12] 0 1) (.fn rfl) ?_
          refine SafeOps.quiet0 E_good rfl rfl rfl (v := V.int .i64 ((gt x_403 v34_464).A)) (.load rfl rfl (.box rfl rfl) rfl) ?_
          refine bindG h ?_
          rintro ⟨x_471, x_472, m_473, m_474⟩ he475 h
          refine SafeOps.callI (obs := [([2], Obj.box [V.sl 1 (rws (fun l => [V.sl 3 (rws api_Instr.cells l)]) l_360)]), ([6], Obj.box [V.mapr [21]]), ([7], Obj.box [V.mapr [22]]), ([8], Obj.box [V.fn 14 [V.ptr [7] 0 0, V.ptr [6] 0 0, V.ptr [2] 0 0, V.ptr [8] 0 0]]), ([21], Go.AM.Obj.map (mps (fun n : Int => V.int .i64 n) (fun n : Int => V.int .i64 n) vm_465)), ([22], Go.AM.Obj.map (mps (fun n : Int => V.int .i64 n) (fun b : Bool => V.bool b) vm_466))]) (obs' := [([2], Obj.box [V.sl 1 (rws (fun l => [V.sl 3 (rws api_Instr.cells l)]) l_360)]), ([6], Obj.box [V.mapr [21]]), ([7], Obj.box [V.mapr [22]]), ([8], Obj.box [V.fn 14 [V.ptr [7] 0 0, V.ptr [6] 0 0, V.ptr [2] 0 0, V.ptr [8] 0 0]]), ([21], Go.AM.Obj.map (mps (fun n : Int => V.int .i64 n) (fun n : Int => V.int .i64 n) m_473)), ([22], Go.AM.Obj.map (mps (fun n : Int => V.int .i64 n) (fun b : Bool => V.bool b) m_474))]) rfl rfl rfl rfl rfl (HR_rec_363 ((gt x_403 v34_464).A) l_360 vm_465 vm_466 _ he475) (.box (.box (.box (.box (.map (.map .nil)))))) rfl ⟨rfl, rfl, rfl, rfl, rfl, rfl, trivial⟩ rfl rfl ?_
          refine SafeOps.quiet0 E_good rfl rfl rfl (v := V.tup [V.int .i64 x_471, V.int .i64 x_472]) (.fn rfl) ?_
          refine SafeOps.quiet0 E_good rfl rfl rfl (v := V.int .i64 x_471) (.fn rfl) ?_
          refine SafeOps.quiet0 E_good rfl rfl rfl (v := V.int .i64 x_472) (.fn rfl) ?_
          refine SafeOps.quiet0 E_good rfl rfl rfl (v := V.int .i64 x_471) (.fn rfl) ?_
          refine SafeOps.quiet0 E_good rfl rfl rfl (v := V.int .i64 x_472) (.fn rfl) ?_
          refine SafeOps.nil ?_
          repeat (first | refine Safe.seq ?_ | refine Safe.skip ?_ | with_reducible refine thenQ.n ?_ | with_reducible refine blockQ.n ?_)
          refine Safe.region ?_
          refine SafeOps.quiet0 E_good rfl rfl rfl (v := V.int .i64 x_472) (.fn rfl) ?_
          refine SafeOps.quiet0 E_good rfl rfl rfl (v := V.bool (x_472 != 0)) (.fn rfl) ?_
          refine SafeOps.nil ?_
          repeat (first | refine Safe.seq ?_ | refine Safe.skip ?_ | with_reducible refine thenQ.n ?_ | with_reducible refine blockQ.n ?_)
          refine ifG h (fun hc476 h => ?_) (fun hc476 h => ?_)
          · skip
            refine Safe.condK rfl hc476 ?_
            repeat (first | refine Safe.seq ?_ | refine Safe.skip ?_ | with_reducible refine thenQ.n ?_ | with_reducible refine blockQ.n ?_)
            refine Safe.region ?_
            refine SafeOps.quiet0 E_good rfl rfl rfl (v := V.int .i64 x_472) (.fn rfl) ?_
            refine SafeOps.quiet0 E_good rfl rfl rfl (v := V.int .i64 0) (.fn rfl) ?_
            refine SafeOps.quiet0 E_good rfl rfl rfl (v := V.int .i64 x_472) (.fn rfl) ?_
            refine SafeOps.nil ?_
            repeat (first | refine Safe.seq ?_ | refine Safe.skip ?_ | with_reducible refine thenQ.n ?_ | with_reducible refine blockQ.n ?_)
            refine Safe.ret ?_
            repeat (first | with_reducible refine thenQ.r ?_ | with_reducible refine blockQ.r ?_)
            replace h := inr_out h hr467
            obtain rfl := Option.some.inj h
            refine siQ.gen (vs := [V.int .i64 0, V.int .i64 x_472]) rfl (.tmp (v := V.int .i64 0) rfl (.tmp (v := V.int .i64 x_472) rfl .nil)) rfl rfl ?_ (.inr rfl)
            exact ⟨rfl, rfl, rfl, rfl, rfl, rfl, trivial⟩
          · skip
            refine Safe.condN rfl hc476 ?_
            repeat (first | refine Safe.seq ?_ | refine Safe.skip ?_ | with_reducible refine thenQ.n ?_ | with_reducible refine blockQ.n ?_)
            refine Safe.region ?_
            refine SafeOps.quiet0 E_good rfl rfl rfl (v := V.int .i64 v10_463) (.fn rfl) ?_
            refine SafeOps.quiet0 E_good rfl rfl rfl (v := V.int .i64 x_471) (.fn rfl) ?_
            refine SafeOps.quiet0 E_good rfl rfl rfl (v := V.int .i64 (IntKind.i64.wrap (v10_463 + x_471))) (.fn rfl) ?_
            refine SafeOps.quiet0 E_good rfl rfl rfl (v := V.int .i64 (if 1099511627777 < (IntKind.i64.wrap (v10_463 + x_471)) then 1099511627777 else IntKind.i64.wrap (v10_463 + x_471))) (.fn rfl) ?_
            refine SafeOps.quiet0 E_good rfl rfl rfl (v := V.int .i64 (if 1099511627777 < (IntKind.i64.wrap (v10_463 + x_471)) then 1099511627777 else IntKind.i64.wrap (v10_463 + x_471))) (.fn rfl) ?_
            refine SafeOps.nil ?_
            repeat (first | refine Safe.seq ?_ | refine Safe.skip ?_ | with_reducible refine thenQ.n ?_ | with_reducible refine blockQ.n ?_)
            refine Safe.region ?_
            refine SafeOps.quiet0 E_good rfl rfl rfl (v := V.int .i64 (IntKind.i64.wrap (v34_464 + 1))) (.fn rfl) ?_
            refine SafeOps.quiet0 E_good rfl rfl rfl (v := V.int .i64 (IntKind.i64.wrap (v34_464 + 1))) (.fn rfl) ?_
            refine SafeOps.nil ?_
            repeat (first | refine Safe.seq ?_ | refine Safe.skip ?_ | with_reducible refine thenQ.n ?_ | with_reducible refine blockQ.n ?_)
            exact ⟨_, next_out h, (.cov ⟨rfl, rfl, (upT_cons (.refl _) (upT_cons (.refl _) (upT_cons (.refl _) (upT_cons (.refl _) (upT_cons (.refl _) (upT_cons (.refl _) (upT_cons (.refl _) (upT_cons (.refl _) upT_nil)))))))), (upOb_cons rfl (.refl _) (upOb_cons rfl (.refl _) (upOb_cons rfl (.refl _) (upOb_cons rfl (.refl _) (upOb_cons rfl (.refl _) (upOb_cons rfl (.refl _) upOb_nil)))))), (upOut_cons rfl (upT_cons (.refl _) (upT_cons (.refl _) (upT_cons (.refl _) (upT_cons (.refl _) (upT_cons (.refl _) (upT_cons (.refl _) upT_nil)))))) upOut_nil), rfl⟩)⟩
      · skip
        refine Safe.condN rfl hc468 ?_
        repeat (first | refine Safe.seq ?_ | refine Safe.skip ?_ | with_reducible refine thenQ.n ?_ | with_reducible refine blockQ.n ?_)
        refine Safe.exit ?_
        repeat (first | with_reducible refine thenQ.e ?_ | with_reducible refine blockQ.x rfl ?_ | with_reducible refine blockQ.y rfl ?_)
        replace h := inr_out h hr467
        repeat (first | refine Safe.seq ?_ | refine Safe.skip ?_ | with_reducible refine thenQ.n ?_ | with_reducible refine blockQ.n ?_)
        refine Safe.region ?_
        refine SafeOps.quiet0 E_good rfl rfl rfl (v := V.mapr [22]) (.load rfl rfl (.box rfl rfl) rfl) ?_
        refine SafeOps.quiet0 E_good rfl rfl rfl (v := V.int .i64 a0_359) (.fn rfl) ?_
        refine SafeOps.mdelM (fun n : Int => V.int .i64 n) (fun b : Bool => V.bool b) vm_466 a0_359 E_good (keyI .i64) rfl rfl rfl rfl rfl rfl rfl rfl rfl ?_
        refine SafeOps.nil ?_
        repeat (first | refine Safe.seq ?_ | refine Safe.skip ?_ | with_reducible refine thenQ.n ?_ | with_reducible refine blockQ.n ?_)
        refine Safe.region ?_
        refine SafeOps.quiet0 E_good rfl rfl rfl (v := V.mapr [21]) (.load rfl rfl (.box rfl rfl) rfl) ?_
        refine SafeOps.quiet0 E_good rfl rfl rfl (v := V.int .i64 a0_359) (.fn rfl) ?_
        refine SafeOps.quiet0 E_good rfl rfl rfl (v := V.int .i64 v10_463) (.fn rfl) ?_
        refine SafeOps.mputM (fun n : Int => V.int .i64 n) (fun n : Int => V.int .i64 n) vm_465 a0_359 v10_463 E_good (keyI .i64) rfl (.inl rfl) rfl rfl rfl rfl rfl rfl rfl rfl rfl ?_
        refine SafeOps.nil ?_
        repeat (first | refine Safe.seq ?_ | refine Safe.skip ?_ | with_reducible refine thenQ.n ?_ | with_reducible refine blockQ.n ?_)
        refine Safe.region ?_
        refine SafeOps.quiet0 E_good rfl rfl rfl (v := V.int .i64 v10_463) (.fn rfl) ?_
        refine SafeOps.quiet0 E_good rfl rfl rfl (v := V.int .i64 v10_463) (.fn rfl) ?_
        refine SafeOps.quiet0 E_good rfl rfl rfl (v := V.int .i64 0) (.fn rfl) ?_
        refine SafeOps.nil ?_
        repeat (first | refine Safe.seq ?_ | refine Safe.skip ?_ | with_reducible refine thenQ.n ?_ | with_reducible refine blockQ.n ?_)
        refine Safe.ret ?_
        repeat (first | with_reducible refine thenQ.r ?_ | with_reducible refine blockQ.r ?_)
        obtain rfl := Option.some.inj h
        refine siQ.gen (vs := [V.int .i64 v10_463, V.int .i64 0]) rfl (.tmp (v := V.int .i64 v10_463) rfl (.tmp (v := V.int .i64 0) rfl .nil)) rfl rfl ?_ (.inr rfl)
        exact ⟨rfl, rfl, rfl, rfl, rfl, rfl, trivial⟩

noncomputable def go_code_Tasks_1 : Nat → Int → (List (List api_Instr)) → (List (Int × Int)) → (List (Int × Bool)) → Option (Int × Int × (List (Int × Int)) × (List (Int × Bool)))
  | 0 => fun _ _ _ _ => none
  | n + 1 => go_code_Tasks_1_b (go_code_Tasks_1 n)

theorem go_code_Tasks_1_si : ∀ (n : Nat) (a0_359 : Int) (l_360 : List (List api_Instr)) (m_361 : List (Int × Int)) (m_362 : List (Int × Bool)) (r : Int × Int × (List (Int × Int)) × (List (Int × Bool))), go_code_Tasks_1 n a0_359 l_360 m_361 m_362 = some r → SI Try.prog gl 14 [V.int .i64 a0_359, V.ptr [7] 0 0, V.ptr [6] 0 0, V.ptr [2] 0 0, V.ptr [8] 0 0] [([2], Go.AM.Obj.box [V.sl 1 (rws (fun l => [V.sl 3 (rws api_Instr.cells l)]) l_360)]), ([6], Go.AM.Obj.box [V.mapr [21]]), ([7], Go.AM.Obj.box [V.mapr [22]]), ([8], Go.AM.Obj.box [V.fn 14 [V.ptr [7] 0 0, V.ptr [6] 0 0, V.ptr [2] 0 0, V.ptr [8] 0 0]]), ([21], Go.AM.Obj.map (mps (fun n : Int => V.int .i64 n) (fun n : Int => V.int .i64 n) m_361)), ([22], Go.AM.Obj.map (mps (fun n : Int => V.int .i64 n) (fun b : Bool => V.bool b) m_362))] [([2], Go.AM.Obj.box [V.sl 1 (rws (fun l => [V.sl 3 (rws api_Instr.cells l)]) l_360)]), ([6], Go.AM.Obj.box [V.mapr [21]]), ([7], Go.AM.Obj.box [V.mapr [22]]), ([8], Go.AM.Obj.box [V.fn 14 [V.ptr [7] 0 0, V.ptr [6] 0 0, V.ptr [2] 0 0, V.ptr [8] 0 0]]), ([21], Go.AM.Obj.map (mps (fun n : Int => V.int .i64 n) (fun n : Int => V.int .i64 n) r.2.2.1)), ([22], Go.AM.Obj.map (mps (fun n : Int => V.int .i64 n) (fun b : Bool => V.bool b) r.2.2.2))] (V.tup [V.int .i64 r.1, V.int .i64 r.2.1])
  | 0, _, _, _, _, _, h => by cases h
  | n + 1, a0_359, l_360, m_361, m_362, r, h => go_code_Tasks_1_b_si (go_code_Tasks_1 n) (go_code_Tasks_1_si n) a0_359 l_360 m_361 m_362 r h

noncomputable def go_code_Tasks (a0_5 : List (List api_Instr)) (a1_6 : Int) : Option (Int × Int) :=
  (go_code_CheckAll a0_5).bind fun x_484 =>
  if ((x_484 != 0) || (!(go_code_within a1_6 (a0_5.length : Int)))) = true then
    some (0, 1)
  else
    (go_code_Tasks_1 1000 a1_6 a0_5 [] []).bind fun (x_488, x_489, m_490, m_491) =>
    if (x_489 != 0) = true then
      some (0, x_489)
    else
      if (decide (x_488 > 1099511627776)) = true then
        some (0, 4)
      else
        some (x_488, 0)

theorem go_code_Tasks_sc (a0_5 : List (List api_Instr)) (a1_6 : Int) (r : Int × Int) (h : go_code_Tasks a0_5 a1_6 = some r) : SC Try.prog gl 7 [V.sl 1 (rws (fun l => [V.sl 3 (rws api_Instr.cells l)]) a0_5), V.int .i64 a1_6] (V.tup [V.int .i64 r.1, V.int .i64 r.2]) := by
  rw [go_code_Tasks] at h
  refine SC.of E_good Try.func7 rfl (fun _ _ => Try.call7 _ _) rfl ?_
  repeat (first | refine Safe.seq ?_ | refine Safe.skip ?_ | with_reducible refine thenQ.n ?_ | with_reducible refine blockQ.n ?_)
  refine Safe.region ?_
  refine SafeOps.quiet1 E_good rfl rfl rfl (.box rfl rfl) rfl ?_
  refine SafeOps.quiet0 E_good rfl rfl rfl (v := V.int .i64 0) (.fn rfl) ?_
  refine SafeOps.quiet0 E_good rfl rfl rfl (v := V.int .i64 0) (.fn rfl) ?_
  refine SafeOps.nil ?_
  repeat (first | refine Safe.seq ?_ | refine Safe.skip ?_ | with_reducible refine thenQ.n ?_ | with_reducible refine blockQ.n ?_)
  refine Safe.region ?_
  refine SafeOps.quiet0 E_good rfl rfl rfl (v := V.sl 1 (rws (fun l => [V.sl 3 (rws api_Instr.cells l)]) a0_5)) (.load rfl rfl (.box rfl rfl) rfl) ?_
  refine bindG h ?_
  intro x_484 he485 h
  refine SafeOps.quiet0 E_good rfl rfl rfl (v := V.int .i64 x_484) (.callP rfl rfl (go_code_CheckAll_sc a0_5 _ he485) rfl) ?_
  refine SafeOps.quiet0 E_good rfl rfl rfl (v := V.bool (x_484 != 0)) (.fn rfl) ?_
  refine SafeOps.quiet0 E_good rfl rfl rfl (v := V.bool (x_484 != 0)) (.fn rfl) ?_
  refine SafeOps.bjoin 6 20 (b := ((x_484 != 0) || (!(go_code_within a1_6 (a0_5.length : Int))))) (b1 := true) (b0 := (!(go_code_within a1_6 (a0_5.length : Int)))) (fun hc486 K => ?_) (fun hc486 K => ?_) bj_or ?_
  · skip
    refine SafeOps.skip (congrArg (fun b => some (!b)) hc486) rfl rfl ?_
    refine SafeOps.skip (congrArg (fun b => some (!b)) hc486) rfl rfl ?_
    refine SafeOps.skip (congrArg (fun b => some (!b)) hc486) rfl rfl ?_
    refine SafeOps.skip (congrArg (fun b => some (!b)) hc486) rfl rfl ?_
    refine SafeOps.skip (congrArg (fun b => some (!b)) hc486) rfl rfl ?_
    refine SafeOps.quiet0 E_good rfl rfl rfl (v := V.bool true) (.pickK rfl hc486 rfl) ?_
    exact SafeOps.drop' 6 rfl rfl rfl K
  · skip
    refine SafeOps.quiet0 E_good (congrArg (fun b => some (!b)) hc486) rfl rfl (v := V.int .i64 a1_6) (.fn rfl) ?_
    refine SafeOps.quiet0 E_good (congrArg (fun b => some (!b)) hc486) rfl rfl (v := V.sl 1 (rws (fun l => [V.sl 3 (rws api_Instr.cells l)]) a0_5)) (.load rfl rfl (.box rfl rfl) rfl) ?_
    refine SafeOps.quiet0 E_good (congrArg (fun b => some (!b)) hc486) rfl rfl (v := V.int .i64 (a0_5.length : Int)) (.fnE rfl lenE) ?_
    refine SafeOps.quiet0 E_good (congrArg (fun b => some (!b)) hc486) rfl rfl (v := V.bool (go_code_within a1_6 (a0_5.length : Int))) (.callP rfl rfl (go_code_within_sc a1_6 (a0_5.length : Int) _ rfl) rfl) ?_
    refine SafeOps.quiet0 E_good (congrArg (fun b => some (!b)) hc486) rfl rfl (v := V.bool (!(go_code_within a1_6 (a0_5.length : Int)))) (.fn rfl) ?_
    refine SafeOps.quiet0 E_good rfl rfl rfl (v := V.bool (!(go_code_within a1_6 (a0_5.length : Int)))) (.pickK rfl hc486 rfl) ?_
    exact SafeOps.drop' 6 rfl rfl rfl K
  refine SafeOps.nil ?_
  repeat (first | refine Safe.seq ?_ | refine Safe.skip ?_ | with_reducible refine thenQ.n ?_ | with_reducible refine blockQ.n ?_)
  refine ifG h (fun hc487 h => ?_) (fun hc487 h => ?_)
  · skip
    refine Safe.condK rfl hc487 ?_
    repeat (first | refine Safe.seq ?_ | refine Safe.skip ?_ | with_reducible refine thenQ.n ?_ | with_reducible refine blockQ.n ?_)
    refine Safe.region ?_
    refine SafeOps.quiet0 E_good rfl rfl rfl (v := V.int .i64 0) (.fn rfl) ?_
    refine SafeOps.quiet0 E_good rfl rfl rfl (v := V.int .i64 1) (.fn rfl) ?_
    refine SafeOps.nil ?_
    repeat (first | refine Safe.seq ?_ | refine Safe.skip ?_ | with_reducible refine thenQ.n ?_ | with_reducible refine blockQ.n ?_)
    refine Safe.ret ?_
    repeat (first | with_reducible refine thenQ.r ?_ | with_reducible refine blockQ.r ?_)
    obtain rfl := Option.some.inj h
    exact retQ.gen (vs := [V.int .i64 0, V.int .i64 1]) rfl (.tmp (v := V.int .i64 0) rfl (.tmp (v := V.int .i64 1) rfl .nil)) (.free rfl) (by simp) (.inr rfl)
  · skip
    refine Safe.condN rfl hc487 ?_
    repeat (first | refine Safe.seq ?_ | refine Safe.skip ?_ | with_reducible refine thenQ.n ?_ | with_reducible refine blockQ.n ?_)
    refine Safe.region ?_
    refine SafeOps.quiet1 E_good rfl rfl rfl (.mkMapM (fun n : Int => V.int .i64 n) (fun n : Int => V.int .i64 n)) rfl ?_
    refine SafeOps.quiet1 E_good rfl rfl rfl (.mkMapM (fun n : Int => V.int .i64 n) (fun b : Bool => V.bool b)) rfl ?_
    refine SafeOps.quiet1 E_good rfl rfl rfl (.alloc rfl rfl) rfl ?_
    refine SafeOps.quiet1 E_good rfl rfl rfl (.alloc rfl rfl) rfl ?_
    refine SafeOps.store (z := Obj.box [V.mapr [21]]) E_good rfl rfl rfl rfl rfl rfl rfl (.boxM (c := 1) rfl rfl (Nat.le_of_ble_eq_true rfl) rfl) ?_
    refine SafeOps.store (z := Obj.box [V.mapr [22]]) E_good rfl rfl rfl rfl rfl rfl rfl (.boxM (c := 1) rfl rfl (Nat.le_of_ble_eq_true rfl) rfl) ?_
    refine SafeOps.nil ?_
    repeat (first | refine Safe.seq ?_ | refine Safe.skip ?_ | with_reducible refine thenQ.n ?_ | with_reducible refine blockQ.n ?_)
    refine Safe.region ?_
    refine SafeOps.quiet1 E_good rfl rfl rfl (.alloc rfl rfl) rfl ?_
    refine SafeOps.nil ?_
    repeat (first | refine Safe.seq ?_ | refine Safe.skip ?_ | with_reducible refine thenQ.n ?_ | with_reducible refine blockQ.n ?_)
    refine Safe.region ?_
    refine SafeOps.quiet0 E_good rfl rfl rfl (v := V.fn 14 [V.ptr [7] 0 0, V.ptr [6] 0 0, V.ptr [2] 0 0, V.ptr [8] 0 0]) (.fn rfl) ?_
    refine SafeOps.store (z := Obj.box [V.fn 14 [V.ptr [7] 0 0, V.ptr [6] 0 0, V.ptr [2] 0 0, V.ptr [8] 0 0]]) E_good rfl rfl rfl rfl rfl rfl rfl (.boxM (c := 1) rfl rfl (Nat.le_of_ble_eq_true rfl) rfl) ?_
    refine SafeOps.nil ?_
    repeat (first | refine Safe.seq ?_ | refine Safe.skip ?_ | with_reducible refine thenQ.n ?_ | with_reducible refine blockQ.n ?_)
    refine Safe.region ?_
    refine SafeOps.quiet0 E_good rfl rfl rfl (v := V.fn 14 [V.ptr [7] 0 0, V.ptr [6] 0 0, V.ptr [2] 0 0, V.ptr [8] 0 0]) (.load rfl rfl (.box rfl rfl) rfl) ?_
    refine SafeOps.quiet0 E_good rfl rfl rfl (v := V.int .i64 a1_6) (.fn rfl) ?_
    refine bindG h ?_
    rintro ⟨x_488, x_489, m_490, m_491⟩ he492 h
    refine SafeOps.callI (obs := [([2], Obj.box [V.sl 1 (rws (fun l => [V.sl 3 (rws api_Instr.cells l)]) a0_5)]), ([6], Obj.box [V.mapr [21]]), ([7], Obj.box [V.mapr [22]]), ([8], Obj.box [V.fn 14 [V.ptr [7] 0 0, V.ptr [6] 0 0, V.ptr [2] 0 0, V.ptr [8] 0 0]]), ([21], Go.AM.Obj.map (mps (fun n : Int => V.int .i64 n) (fun n : Int => V.int .i64 n) [])), ([22], Go.AM.Obj.map (mps (fun n : Int => V.int .i64 n) (fun b : Bool => V.bool b) []))]) (obs' := [([2], Obj.box [V.sl 1 (rws (fun l => [V.sl 3 (rws api_Instr.cells l)]) a0_5)]), ([6], Obj.box [V.mapr [21]]), ([7], Obj.box [V.mapr [22]]), ([8], Obj.box [V.fn 14 [V.ptr [7] 0 0, V.ptr [6] 0 0, V.ptr [2] 0 0, V.ptr [8] 0 0]]), ([21], Go.AM.Obj.map (mps (fun n : Int => V.int .i64 n) (fun n : Int => V.int .i64 n) m_490)), ([22], Go.AM.Obj.map (mps (fun n : Int => V.int .i64 n) (fun b : Bool => V.bool b) m_491))]) rfl rfl rfl rfl rfl (go_code_Tasks_1_si 1000 a1_6 a0_5 [] [] _ he492) (.box (.box (.box (.box (.map (.map .nil)))))) rfl ⟨rfl, rfl, rfl, rfl, rfl, rfl, trivial⟩ rfl rfl ?_
    refine SafeOps.quiet0 E_good rfl rfl rfl (v := V.tup [V.int .i64 x_488, V.int .i64 x_489]) (.fn rfl) ?_
    refine SafeOps.quiet0 E_good rfl rfl rfl (v := V.int .i64 x_488) (.fn rfl) ?_
    refine SafeOps.quiet0 E_good rfl rfl rfl (v := V.int .i64 x_489) (.fn rfl) ?_
    refine SafeOps.quiet0 E_good rfl rfl rfl (v := V.int .i64 x_488) (.fn rfl) ?_
    refine SafeOps.quiet0 E_good rfl rfl rfl (v := V.int .i64 x_489) (.fn rfl) ?_
    refine SafeOps.nil ?_
    repeat (first | refine Safe.seq ?_ | refine Safe.skip ?_ | with_reducible refine thenQ.n ?_ | with_reducible refine blockQ.n ?_)
    refine Safe.block ?_
    repeat (first | refine Safe.seq ?_ | refine Safe.skip ?_ | with_reducible refine thenQ.n ?_ | with_reducible refine blockQ.n ?_)
    refine Safe.region ?_
    refine SafeOps.quiet0 E_good rfl rfl rfl (v := V.int .i64 x_489) (.fn rfl) ?_
    refine SafeOps.quiet0 E_good rfl rfl rfl (v := V.bool (x_489 != 0)) (.fn rfl) ?_
    refine SafeOps.quiet0 E_good rfl rfl rfl (v := V.bool (x_489 != 0)) (.fn rfl) ?_
    refine SafeOps.nil ?_
    repeat (first | refine Safe.seq ?_ | refine Safe.skip ?_ | with_reducible refine thenQ.n ?_ | with_reducible refine blockQ.n ?_)
    refine ifG h (fun hc493 h => ?_) (fun hc493 h => ?_)
    · skip
      refine Safe.condK rfl hc493 ?_
      repeat (first | refine Safe.seq ?_ | refine Safe.skip ?_ | with_reducible refine thenQ.n ?_ | with_reducible refine blockQ.n ?_)
      refine Safe.region ?_
      refine SafeOps.quiet0 E_good rfl rfl rfl (v := V.int .i64 x_489) (.fn rfl) ?_
      refine SafeOps.quiet0 E_good rfl rfl rfl (v := V.int .i64 0) (.fn rfl) ?_
      refine SafeOps.quiet0 E_good rfl rfl rfl (v := V.int .i64 x_489) (.fn rfl) ?_
      refine SafeOps.nil ?_
      repeat (first | refine Safe.seq ?_ | refine Safe.skip ?_ | with_reducible refine thenQ.n ?_ | with_reducible refine blockQ.n ?_)
      refine Safe.ret ?_
      repeat (first | with_reducible refine thenQ.r ?_ | with_reducible refine blockQ.r ?_)
      obtain rfl := Option.some.inj h
      exact retQ.gen (vs := [V.int .i64 0, V.int .i64 x_489]) rfl (.tmp (v := V.int .i64 0) rfl (.tmp (v := V.int .i64 x_489) rfl .nil)) (.free rfl) (by simp) (.inr rfl)
    · skip
      refine Safe.condN rfl hc493 ?_
      repeat (first | refine Safe.seq ?_ | refine Safe.skip ?_ | with_reducible refine thenQ.n ?_ | with_reducible refine blockQ.n ?_)
      refine Safe.region ?_
      refine SafeOps.quiet0 E_good rfl rfl rfl (v := V.int .i64 x_488) (.fn rfl) ?_
      refine SafeOps.quiet0 E_good rfl rfl rfl (v := V.bool (decide (x_488 > 1099511627776))) (.fn rfl) ?_
      refine SafeOps.quiet0 E_good rfl rfl rfl (v := V.bool (decide (x_488 > 1099511627776))) (.fn rfl) ?_
      refine SafeOps.nil ?_
      repeat (first | refine Safe.seq ?_ | refine Safe.skip ?_ | with_reducible refine thenQ.n ?_ | with_reducible refine blockQ.n ?_)
      refine ifG h (fun hc494 h => ?_) (fun hc494 h => ?_)
      · skip
        refine Safe.condK rfl hc494 ?_
        repeat (first | refine Safe.seq ?_ | refine Safe.skip ?_ | with_reducible refine thenQ.n ?_ | with_reducible refine blockQ.n ?_)
        refine Safe.region ?_
        refine SafeOps.quiet0 E_good rfl rfl rfl (v := V.int .i64 0) (.fn rfl) ?_
        refine SafeOps.quiet0 E_good rfl rfl rfl (v := V.int .i64 4) (.fn rfl) ?_
        refine SafeOps.nil ?_
        repeat (first | refine Safe.seq ?_ | refine Safe.skip ?_ | with_reducible refine thenQ.n ?_ | with_reducible refine blockQ.n ?_)
        refine Safe.ret ?_
        repeat (first | with_reducible refine thenQ.r ?_ | with_reducible refine blockQ.r ?_)
        obtain rfl := Option.some.inj h
        exact retQ.gen (vs := [V.int .i64 0, V.int .i64 4]) rfl (.tmp (v := V.int .i64 0) rfl (.tmp (v := V.int .i64 4) rfl .nil)) (.free rfl) (by simp) (.inr rfl)
      · skip
        refine Safe.condN rfl hc494 ?_
        repeat (first | refine Safe.seq ?_ | refine Safe.skip ?_ | with_reducible refine thenQ.n ?_ | with_reducible refine blockQ.n ?_)
        refine Safe.region ?_
        refine SafeOps.quiet0 E_good rfl rfl rfl (v := V.int .i64 x_488) (.fn rfl) ?_
        refine SafeOps.quiet0 E_good rfl rfl rfl (v := V.int .i64 x_488) (.fn rfl) ?_
        refine SafeOps.quiet0 E_good rfl rfl rfl (v := V.int .i64 0) (.fn rfl) ?_
        refine SafeOps.nil ?_
        repeat (first | refine Safe.seq ?_ | refine Safe.skip ?_ | with_reducible refine thenQ.n ?_ | with_reducible refine blockQ.n ?_)
        refine Safe.ret ?_
        repeat (first | with_reducible refine thenQ.r ?_ | with_reducible refine blockQ.r ?_)
        obtain rfl := Option.some.inj h
        exact retQ.gen (vs := [V.int .i64 x_488, V.int .i64 0]) rfl (.tmp (v := V.int .i64 x_488) rfl (.tmp (v := V.int .i64 0) rfl .nil)) (.free rfl) (by simp) (.inr rfl)

noncomputable def go_code_Units_s1 (x_528 : List api_Instr) : (Int × Int) → Option ((Int × Int) ⊕ (Int × Int))
  | (v2_538, v14_539) =>
    if (decide (v14_539 < (x_528.length : Int))) = true then
      if 0 ≤ v14_539 ∧ v14_539 < (x_528.length : Int) then
        if (((gt x_528 v14_539).Op) == 1) = true then
          nextO (IntKind.i64.wrap ((IntKind.i64.wrap (v2_538 + (IntKind.i64.wrap (((gt x_528 v14_539).A) - 1)))) + 1), IntKind.i64.wrap (v14_539 + 1))
        else
          nextO (IntKind.i64.wrap (v2_538 + 1), IntKind.i64.wrap (v14_539 + 1))
      else none
    else
      inrO (
        some (v2_538, 0))

noncomputable def go_code_Units (a0_505 : List api_Instr) : Option (Int × Int) :=
  (go_code_Check a0_505).bind fun x_525 =>
  if (x_525 != 0) = true then
    some (0, x_525)
  else
    (go_code_reached a0_505).bind fun x_528 =>
    whileO (go_code_Units_s1 x_528) (0, 0)

theorem go_code_Units_sc (a0_505 : List api_Instr) (r : Int × Int) (h : go_code_Units a0_505 = some r) : SC Try.prog gl 8 [V.sl 3 (rws api_Instr.cells a0_505)] (V.tup [V.int .i64 r.1, V.int .i64 r.2]) := by
  rw [go_code_Units] at h
  refine SC.of E_good Try.func8 rfl (fun _ _ => Try.call8 _ _) rfl ?_
  repeat (first | refine Safe.seq ?_ | refine Safe.skip ?_ | with_reducible refine thenQ.n ?_ | with_reducible refine blockQ.n ?_)
  refine Safe.region ?_
  refine SafeOps.quiet0 E_good rfl rfl rfl (v := V.int .i64 0) (.fn rfl) ?_
  refine SafeOps.quiet0 E_good rfl rfl rfl (v := V.int .i64 0) (.fn rfl) ?_
  refine SafeOps.nil ?_
  repeat (first | refine Safe.seq ?_ | refine Safe.skip ?_ | with_reducible refine thenQ.n ?_ | with_reducible refine blockQ.n ?_)
  refine Safe.region ?_
  refine SafeOps.quiet0 E_good rfl rfl rfl (v := V.sl 3 (rws api_Instr.cells a0_505)) (.fn rfl) ?_
  refine bindG h ?_
  intro x_525 he526 h
  refine SafeOps.quiet0 E_good rfl rfl rfl (v := V.int .i64 x_525) (.callP rfl rfl (go_code_Check_sc a0_505 _ he526) rfl) ?_
  refine SafeOps.quiet0 E_good rfl rfl rfl (v := V.int .i64 x_525) (.fn rfl) ?_
  refine SafeOps.nil ?_
  repeat (first | refine Safe.seq ?_ | refine Safe.skip ?_ | with_reducible refine thenQ.n ?_ | with_reducible refine blockQ.n ?_)
  refine Safe.region ?_
  refine SafeOps.quiet0 E_good rfl rfl rfl (v := V.int .i64 x_525) (.fn rfl) ?_
  refine SafeOps.quiet0 E_good rfl rfl rfl (v := V.bool (x_525 != 0)) (.fn rfl) ?_
  refine SafeOps.nil ?_
  repeat (first | refine Safe.seq ?_ | refine Safe.skip ?_ | with_reducible refine thenQ.n ?_ | with_reducible refine blockQ.n ?_)
  refine ifG h (fun hc527 h => ?_) (fun hc527 h => ?_)
  · skip
    refine Safe.condK rfl hc527 ?_
    repeat (first | refine Safe.seq ?_ | refine Safe.skip ?_ | with_reducible refine thenQ.n ?_ | with_reducible refine blockQ.n ?_)
    refine Safe.region ?_
    refine SafeOps.quiet0 E_good rfl rfl rfl (v := V.int .i64 x_525) (.fn rfl) ?_
    refine SafeOps.quiet0 E_good rfl rfl rfl (v := V.int .i64 0) (.fn rfl) ?_
    refine SafeOps.quiet0 E_good rfl rfl rfl (v := V.int .i64 x_525) (.fn rfl) ?_
    refine SafeOps.nil ?_
    repeat (first | refine Safe.seq ?_ | refine Safe.skip ?_ | with_reducible refine thenQ.n ?_ | with_reducible refine blockQ.n ?_)
    refine Safe.ret ?_
    repeat (first | with_reducible refine thenQ.r ?_ | with_reducible refine blockQ.r ?_)
    obtain rfl := Option.some.inj h
    exact retQ.gen (vs := [V.int .i64 0, V.int .i64 x_525]) rfl (.tmp (v := V.int .i64 0) rfl (.tmp (v := V.int .i64 x_525) rfl .nil)) (.free rfl) (by simp) (.inr rfl)
  · skip
    refine Safe.condN rfl hc527 ?_
    repeat (first | refine Safe.seq ?_ | refine Safe.skip ?_ | with_reducible refine thenQ.n ?_ | with_reducible refine blockQ.n ?_)
    refine Safe.region ?_
    refine SafeOps.quiet0 E_good rfl rfl rfl (v := V.sl 3 (rws api_Instr.cells a0_505)) (.fn rfl) ?_
    refine bindG h ?_
    intro x_528 he529 h
    refine SafeOps.quiet0 E_good rfl rfl rfl (v := V.sl 3 (rws api_Instr.cells x_528)) (.callP rfl rfl (go_code_reached_sc a0_505 _ he529) rfl) ?_
    refine SafeOps.quiet0 E_good rfl rfl rfl (v := V.int .i64 (x_528.length : Int)) (.fnE rfl lenE) ?_
    refine SafeOps.quiet0 E_good rfl rfl rfl (v := V.int .i64 0) (.fn rfl) ?_
    refine SafeOps.nil ?_
    repeat (first | refine Safe.seq ?_ | refine Safe.skip ?_ | with_reducible refine thenQ.n ?_ | with_reducible refine blockQ.n ?_)
    refine Safe.block ?_
    repeat (first | refine Safe.seq ?_ | refine Safe.skip ?_ | with_reducible refine thenQ.n ?_ | with_reducible refine blockQ.n ?_)
    refine Safe.loopW (fun ((v2_538, v14_539) : Int × Int) => ⟨Try.f8.ntmps, [(2, V.int .i64 v2_538), (12, V.sl 3 (rws api_Instr.cells x_528)), (13, V.int .i64 (x_528.length : Int)), (14, V.int .i64 v14_539)], [], [], []⟩) h (.cov ⟨rfl, rfl, (upT_cons (.refl _) (upT_cons (.refl _) (upT_cons (.refl _) (upT_cons (.refl _) upT_nil)))), upOb_nil, upOut_nil, rfl⟩) ?_
    rintro ⟨v2_538, v14_539⟩ ohr540 h hr540
    replace h : go_code_Units_s1 x_528 (v2_538, v14_539) = some ohr540 := h
    rw [go_code_Units_s1] at h
    repeat (first | refine Safe.seq ?_ | refine Safe.skip ?_ | with_reducible refine thenQ.n ?_ | with_reducible refine blockQ.n ?_)
    refine Safe.region ?_
    refine SafeOps.quiet0 E_good rfl rfl rfl (v := V.bool (decide (v14_539 < (x_528.length : Int)))) (.fn rfl) ?_
    refine SafeOps.nil ?_
    repeat (first | refine Safe.seq ?_ | refine Safe.skip ?_ | with_reducible refine thenQ.n ?_ | with_reducible refine blockQ.n ?_)
    refine ifG h (fun hc541 h => ?_) (fun hc541 h => ?_)
    · skip
      refine Safe.condK rfl hc541 ?_
      repeat (first | refine Safe.seq ?_ | refine Safe.skip ?_ | with_reducible refine thenQ.n ?_ | with_reducible refine blockQ.n ?_)
      refine Safe.block ?_
      repeat (first | refine Safe.seq ?_ | refine Safe.skip ?_ | with_reducible refine thenQ.n ?_ | with_reducible refine blockQ.n ?_)
      refine Safe.region ?_
      refine okG h (fun hb542 h => ?_)
      refine SafeOps.quiet0 E_good rfl rfl rfl (v := V.spt 3 (rws api_Instr.cells x_528) (Int.toNat v14_539) 0) (.idxSlM (f := api_Instr.cells) rfl rfl rfl rfl rfl hb542) ?_
      refine SafeOps.quiet0 E_good rfl rfl rfl (v := V.agg [V.int .i64 ((gt x_528 v14_539).Op), V.int .i64 ((gt x_528 v14_539).A), V.int .i64 ((gt x_528 v14_539).B)]) (.load rfl rfl (.sptM (f := api_Instr.cells) hb542 rfl) rfl) ?_
      refine SafeOps.quiet1 E_good rfl rfl rfl (.alloc rfl rfl) rfl ?_
      refine SafeOps.store (z := Obj.box [V.int .i64 ((gt x_528 v14_539).Op), V.int .i64 ((gt x_528 v14_539).A), V.int .i64 ((gt x_528 v14_539).B)]) E_good rfl rfl rfl rfl rfl rfl rfl (.boxM (c := 3) rfl rfl (Nat.le_of_ble_eq_true rfl) rfl) ?_
      refine SafeOps.nil ?_
      repeat (first | refine Safe.seq ?_ | refine Safe.skip ?_ | with_reducible refine thenQ.n ?_ | with_reducible refine blockQ.n ?_)
      refine Safe.region ?_
      refine SafeOps.quiet0 E_good rfl rfl rfl (v := V.ptr [5] 0 0) (.fn rfl) ?_
      refine SafeOps.quiet0 E_good rfl rfl rfl (v := V.int .i64 ((gt x_528 v14_539).Op)) (.load rfl rfl (.box rfl rfl) rfl) ?_
      refine SafeOps.quiet0 E_good rfl rfl rfl (v := V.bool (((gt x_528 v14_539).Op) == 1)) (.fn rfl) ?_
      refine SafeOps.nil ?_
      repeat (first | refine Safe.seq ?_ | refine Safe.skip ?_ | with_reducible refine thenQ.n ?_ | with_reducible refine blockQ.n ?_)
      refine ifG h (fun hc543 h => ?_) (fun hc543 h => ?_)
      · skip
        refine Safe.condK rfl hc543 ?_
        repeat (first | refine Safe.seq ?_ | refine Safe.skip ?_ | with_reducible refine thenQ.n ?_ | with_reducible refine blockQ.n ?_)
        refine Safe.region ?_
        refine SafeOps.quiet0 E_good rfl rfl rfl (v := V.int .i64 v2_538) (.fn rfl) ?_
        refine SafeOps.quiet0 E_good rfl rfl rfl (v := V.ptr [5] 0 1) (.fn rfl) ?_
        refine SafeOps.quiet0 E_good rfl rfl rfl (v := V.int .i64 ((gt x_528 v14_539).A)) (.load rfl rfl (.box rfl rfl) rfl) ?_
        refine SafeOps.quiet0 E_good rfl rfl rfl (v := V.int .i64 (IntKind.i64.wrap (((gt x_528 v14_539).A) - 1))) (.fn rfl) ?_
        refine SafeOps.quiet0 E_good rfl rfl rfl (v := V.int .i64 (IntKind.i64.wrap (v2_538 + (IntKind.i64.wrap (((gt x_528 v14_539).A) - 1))))) (.fn rfl) ?_
        refine SafeOps.quiet0 E_good rfl rfl rfl (v := V.int .i64 (IntKind.i64.wrap (v2_538 + (IntKind.i64.wrap (((gt x_528 v14_539).A) - 1))))) (.fn rfl) ?_
        refine SafeOps.nil ?_
        repeat (first | refine Safe.seq ?_ | refine Safe.skip ?_ | with_reducible refine thenQ.n ?_ | with_reducible refine blockQ.n ?_)
        refine Safe.region ?_
        refine SafeOps.quiet0 E_good rfl rfl rfl (v := V.int .i64 (IntKind.i64.wrap (v2_538 + (IntKind.i64.wrap (((gt x_528 v14_539).A) - 1))))) (.fn rfl) ?_
        refine SafeOps.quiet0 E_good rfl rfl rfl (v := V.int .i64 (IntKind.i64.wrap ((IntKind.i64.wrap (v2_538 + (IntKind.i64.wrap (((gt x_528 v14_539).A) - 1)))) + 1))) (.fn rfl) ?_
        refine SafeOps.quiet0 E_good rfl rfl rfl (v := V.int .i64 (IntKind.i64.wrap ((IntKind.i64.wrap (v2_538 + (IntKind.i64.wrap (((gt x_528 v14_539).A) - 1)))) + 1))) (.fn rfl) ?_
        refine SafeOps.nil ?_
        repeat (first | refine Safe.seq ?_ | refine Safe.skip ?_ | with_reducible refine thenQ.n ?_ | with_reducible refine blockQ.n ?_)
        refine Safe.region ?_
        refine SafeOps.quiet0 E_good rfl rfl rfl (v := V.int .i64 (IntKind.i64.wrap (v14_539 + 1))) (.fn rfl) ?_
        refine SafeOps.quiet0 E_good rfl rfl rfl (v := V.int .i64 (IntKind.i64.wrap (v14_539 + 1))) (.fn rfl) ?_
        refine SafeOps.nil ?_
        repeat (first | refine Safe.seq ?_ | refine Safe.skip ?_ | with_reducible refine thenQ.n ?_ | with_reducible refine blockQ.n ?_)
        exact ⟨_, next_out h, (.cov ⟨rfl, rfl, (upT_cons (.refl _) (upT_cons (.refl _) (upT_cons (.refl _) (upT_cons (.refl _) upT_nil)))), upOb_nil, upOut_nil, rfl⟩)⟩
      · skip
        refine Safe.condN rfl hc543 ?_
        repeat (first | refine Safe.seq ?_ | refine Safe.skip ?_ | with_reducible refine thenQ.n ?_ | with_reducible refine blockQ.n ?_)
        refine Safe.region ?_
        refine SafeOps.quiet0 E_good rfl rfl rfl (v := V.int .i64 v2_538) (.fn rfl) ?_
        refine SafeOps.quiet0 E_good rfl rfl rfl (v := V.int .i64 (IntKind.i64.wrap (v2_538 + 1))) (.fn rfl) ?_
        refine SafeOps.quiet0 E_good rfl rfl rfl (v := V.int .i64 (IntKind.i64.wrap (v2_538 + 1))) (.fn rfl) ?_
        refine SafeOps.nil ?_
        repeat (first | refine Safe.seq ?_ | refine Safe.skip ?_ | with_reducible refine thenQ.n ?_ | with_reducible refine blockQ.n ?_)
        refine Safe.region ?_
        refine SafeOps.quiet0 E_good rfl rfl rfl (v := V.int .i64 (IntKind.i64.wrap (v14_539 + 1))) (.fn rfl) ?_
        refine SafeOps.quiet0 E_good rfl rfl rfl (v := V.int .i64 (IntKind.i64.wrap (v14_539 + 1))) (.fn rfl) ?_
        refine SafeOps.nil ?_
        repeat (first | refine Safe.seq ?_ | refine Safe.skip ?_ | with_reducible refine thenQ.n ?_ | with_reducible refine blockQ.n ?_)
        exact ⟨_, next_out h, (.cov ⟨rfl, rfl, (upT_cons (.refl _) (upT_cons (.refl _) (upT_cons (.refl _) (upT_cons (.refl _) upT_nil)))), upOb_nil, upOut_nil, rfl⟩)⟩
    · skip
      refine Safe.condN rfl hc541 ?_
      repeat (first | refine Safe.seq ?_ | refine Safe.skip ?_ | with_reducible refine thenQ.n ?_ | with_reducible refine blockQ.n ?_)
      refine Safe.exit ?_
      repeat (first | with_reducible refine thenQ.e ?_ | with_reducible refine blockQ.x rfl ?_ | with_reducible refine blockQ.y rfl ?_)
      replace h := inr_out h hr540
      repeat (first | refine Safe.seq ?_ | refine Safe.skip ?_ | with_reducible refine thenQ.n ?_ | with_reducible refine blockQ.n ?_)
      refine Safe.region ?_
      refine SafeOps.quiet0 E_good rfl rfl rfl (v := V.int .i64 v2_538) (.fn rfl) ?_
      refine SafeOps.quiet0 E_good rfl rfl rfl (v := V.int .i64 v2_538) (.fn rfl) ?_
      refine SafeOps.quiet0 E_good rfl rfl rfl (v := V.int .i64 0) (.fn rfl) ?_
      refine SafeOps.nil ?_
      repeat (first | refine Safe.seq ?_ | refine Safe.skip ?_ | with_reducible refine thenQ.n ?_ | with_reducible refine blockQ.n ?_)
      refine Safe.ret ?_
      repeat (first | with_reducible refine thenQ.r ?_ | with_reducible refine blockQ.r ?_)
      obtain rfl := Option.some.inj h
      exact retQ.gen (vs := [V.int .i64 v2_538, V.int .i64 0]) rfl (.tmp (v := V.int .i64 v2_538) rfl (.tmp (v := V.int .i64 0) rfl .nil)) (.free rfl) (by simp) (.inr rfl)

noncomputable def go_drain_measure_full_b_s1 (a0_499 : List (List api_Instr)) (a1_500 : Int) (rec_502 : (List (List api_Instr)) → Int → (List (Int × Int)) → Option (Int × (List (Int × Int)))) (x_544 : Int) : (Int × Int × (List (Int × Int))) → Option ((Int × Int × (List (Int × Int))) ⊕ (Int × (List (Int × Int))))
  | (v4_567, v9_568, vm_569) =>
    if (decide (v9_568 < ((gt a0_499 a1_500).length : Int))) = true then
      if 0 ≤ v9_568 ∧ v9_568 < ((gt a0_499 a1_500).length : Int) then
        if (((gt (gt a0_499 a1_500) v9_568).Op) == 9) = true then
          inrO (
            some ((if 1099511627777 < (IntKind.i64.wrap ((IntKind.i64.wrap (x_544 + 1)) + v4_567)) then 1099511627777 else IntKind.i64.wrap ((IntKind.i64.wrap (x_544 + 1)) + v4_567)), mput vm_569 a1_500 (if 1099511627777 < (IntKind.i64.wrap ((IntKind.i64.wrap (x_544 + 1)) + v4_567)) then 1099511627777 else IntKind.i64.wrap ((IntKind.i64.wrap (x_544 + 1)) + v4_567))))
        else
          if (((gt (gt a0_499 a1_500) v9_568).Op) == 2) = true then
            (rec_502 a0_499 ((gt (gt a0_499 a1_500) v9_568).A) vm_569).bind fun (x_575, m_576) =>
            nextO ((if 1099511627777 < (IntKind.i64.wrap (v4_567 + x_575)) then 1099511627777 else IntKind.i64.wrap (v4_567 + x_575)), IntKind.i64.wrap (v9_568 + 1), m_576)
          else
            nextO (v4_567, IntKind.i64.wrap (v9_568 + 1), vm_569)
      else none
    else
      inrO (
        some ((if 1099511627777 < (IntKind.i64.wrap ((IntKind.i64.wrap (x_544 + 1)) + v4_567)) then 1099511627777 else IntKind.i64.wrap ((IntKind.i64.wrap (x_544 + 1)) + v4_567)), mput vm_569 a1_500 (if 1099511627777 < (IntKind.i64.wrap ((IntKind.i64.wrap (x_544 + 1)) + v4_567)) then 1099511627777 else IntKind.i64.wrap ((IntKind.i64.wrap (x_544 + 1)) + v4_567))))

noncomputable def go_drain_measure_full_b (rec_502 : (List (List api_Instr)) → Int → (List (Int × Int)) → Option (Int × (List (Int × Int)))) (a0_499 : List (List api_Instr)) (a1_500 : Int) (m_501 : List (Int × Int)) : Option (Int × (List (Int × Int))) :=
  if ((mget m_501 a1_500).isSome) = true then
    some (((mget m_501 a1_500).getD 0), m_501)
  else
    if 0 ≤ a1_500 ∧ a1_500 < (a0_499.length : Int) then
      (go_code_Units (gt a0_499 a1_500)).bind fun (x_544, x_545) =>
      if (x_545 != 0) = true then
        some (1099511627777, m_501)
      else
        if 0 ≤ a1_500 ∧ a1_500 < (a0_499.length : Int) then
          whileO (go_drain_measure_full_b_s1 a0_499 a1_500 rec_502 x_544) (0, 0, m_501)
        else none
    else none

theorem go_drain_measure_full_b_si (rec_502 : (List (List api_Instr)) → Int → (List (Int × Int)) → Option (Int × (List (Int × Int)))) (HR_rec_502 : ∀ (a0_499 : List (List api_Instr)) (a1_500 : Int) (m_501 : List (Int × Int)) (r : Int × (List (Int × Int))), rec_502 a0_499 a1_500 m_501 = some r → SI Try.prog gl 11 [V.agg [V.sl 1 (rws (fun l => [V.sl 3 (rws api_Instr.cells l)]) a0_499), V.mapr [9]], V.int .i64 a1_500] [([9], Go.AM.Obj.map (mps (fun n : Int => V.int .i64 n) (fun n : Int => V.int .i64 n) m_501))] [([9], Go.AM.Obj.map (mps (fun n : Int => V.int .i64 n) (fun n : Int => V.int .i64 n) r.2))] (V.int .i64 r.1)) (a0_499 : List (List api_Instr)) (a1_500 : Int) (m_501 : List (Int × Int)) (r : Int × (List (Int × Int))) (h : go_drain_measure_full_b rec_502 a0_499 a1_500 m_501 = some r) : SI Try.prog gl 11 [V.agg [V.sl 1 (rws (fun l => [V.sl 3 (rws api_Instr.cells l)]) a0_499), V.mapr [9]], V.int .i64 a1_500] [([9], Go.AM.Obj.map (mps (fun n : Int => V.int .i64 n) (fun n : Int => V.int .i64 n) m_501))] [([9], Go.AM.Obj.map (mps (fun n : Int => V.int .i64 n) (fun n : Int => V.int .i64 n) r.2))] (V.int .i64 r.1) := by
  rw [go_drain_measure_full_b] at h
  refine SI.of (pa := [9999]) E_good Try.func11 rfl (fun _ _ => Try.call11 _ _) rfl (.map .nil) rfl rfl rfl ?_
  repeat (first | refine Safe.seq ?_ | refine Safe.skip ?_ | with_reducible refine thenQ.n ?_ | with_reducible refine blockQ.n ?_)
  refine Safe.region ?_
  refine SafeOps.quiet1 E_good rfl rfl rfl (.box rfl rfl) rfl ?_
  refine SafeOps.quiet0 E_good rfl rfl rfl (v := V.int .i64 0) (.fn rfl) ?_
  refine SafeOps.nil ?_
  repeat (first | refine Safe.seq ?_ | refine Safe.skip ?_ | with_reducible refine thenQ.n ?_ | with_reducible refine blockQ.n ?_)
  refine Safe.region ?_
  refine SafeOps.quiet0 E_good rfl rfl rfl (v := V.ptr [9999, 2] 0 1) (.fn rfl) ?_
  refine SafeOps.quiet0 E_good rfl rfl rfl (v := V.mapr [9]) (.load rfl rfl (.box rfl rfl) rfl) ?_
  refine SafeOps.quiet0 E_good rfl rfl rfl (v := V.int .i64 a1_500) (.fn rfl) ?_
  refine SafeOps.quiet0 E_good rfl rfl rfl (v := V.tup [V.int .i64 ((mget m_501 a1_500).getD 0), V.bool ((mget m_501 a1_500).isSome)]) (.lookM2 (fv := (fun n : Int => V.int .i64 n)) (m := m_501) (kk := a1_500) (z0 := 0) (keyI .i64) rfl rfl rfl rfl rfl rfl rfl rfl rfl rfl) ?_
  refine SafeOps.quiet0 E_good rfl rfl rfl (v := V.tup [V.int .i64 ((mget m_501 a1_500).getD 0), V.bool ((mget m_501 a1_500).isSome)]) (.fn rfl) ?_
  refine SafeOps.quiet0 E_good rfl rfl rfl (v := V.int .i64 ((mget m_501 a1_500).getD 0)) (.fn rfl) ?_
  refine SafeOps.quiet0 E_good rfl rfl rfl (v := V.bool ((mget m_501 a1_500).isSome)) (.fn rfl) ?_
  refine SafeOps.quiet0 E_good rfl rfl rfl (v := V.int .i64 ((mget m_501 a1_500).getD 0)) (.fn rfl) ?_
  refine SafeOps.quiet0 E_good rfl rfl rfl (v := V.bool ((mget m_501 a1_500).isSome)) (.fn rfl) ?_
  refine SafeOps.nil ?_
  repeat (first | refine Safe.seq ?_ | refine Safe.skip ?_ | with_reducible refine thenQ.n ?_ | with_reducible refine blockQ.n ?_)
  refine Safe.region ?_
  refine SafeOps.quiet0 E_good rfl rfl rfl (v := V.bool ((mget m_501 a1_500).isSome)) (.fn rfl) ?_
  refine SafeOps.nil ?_
  repeat (first | refine Safe.seq ?_ | refine Safe.skip ?_ | with_reducible refine thenQ.n ?_ | with_reducible refine blockQ.n ?_)
  refine ifG h (fun hc503 h => ?_) (fun hc503 h => ?_)
  · skip
    refine Safe.condK rfl hc503 ?_
    repeat (first | refine Safe.seq ?_ | refine Safe.skip ?_ | with_reducible refine thenQ.n ?_ | with_reducible refine blockQ.n ?_)
    refine Safe.region ?_
    refine SafeOps.quiet0 E_good rfl rfl rfl (v := V.int .i64 ((mget m_501 a1_500).getD 0)) (.fn rfl) ?_
    refine SafeOps.quiet0 E_good rfl rfl rfl (v := V.int .i64 ((mget m_501 a1_500).getD 0)) (.fn rfl) ?_
    refine SafeOps.nil ?_
    repeat (first | refine Safe.seq ?_ | refine Safe.skip ?_ | with_reducible refine thenQ.n ?_ | with_reducible refine blockQ.n ?_)
    refine Safe.ret ?_
    repeat (first | with_reducible refine thenQ.r ?_ | with_reducible refine blockQ.r ?_)
    obtain rfl := Option.some.inj h
    refine siQ.gen (vs := [V.int .i64 ((mget m_501 a1_500).getD 0)]) rfl (.tmp (v := V.int .i64 ((mget m_501 a1_500).getD 0)) rfl .nil) rfl rfl ?_ (.inr rfl)
    exact ⟨rfl, trivial⟩
  · skip
    refine Safe.condN rfl hc503 ?_
    repeat (first | refine Safe.seq ?_ | refine Safe.skip ?_ | with_reducible refine thenQ.n ?_ | with_reducible refine blockQ.n ?_)
    refine Safe.region ?_
    refine SafeOps.quiet0 E_good rfl rfl rfl (v := V.ptr [9999, 2] 0 0) (.fn rfl) ?_
    refine SafeOps.quiet0 E_good rfl rfl rfl (v := V.sl 1 (rws (fun l => [V.sl 3 (rws api_Instr.cells l)]) a0_499)) (.load rfl rfl (.box rfl rfl) rfl) ?_
    refine SafeOps.quiet0 E_good rfl rfl rfl (v := V.int .i64 a1_500) (.fn rfl) ?_
    refine okG h (fun hb504 h => ?_)
    refine SafeOps.quiet0 E_good rfl rfl rfl (v := V.spt 1 (rws (fun l => [V.sl 3 (rws api_Instr.cells l)]) a0_499) (Int.toNat a1_500) 0) (.idxSlM (f := (fun l => [V.sl 3 (rws api_Instr.cells l)])) rfl rfl rfl rfl rfl hb504) ?_
    refine SafeOps.quiet0 E_good rfl rfl rfl (v := V.sl 3 (rws api_Instr.cells (gt a0_499 a1_500))) (.load rfl rfl (.sptM (f := (fun l => [V.sl 3 (rws api_Instr.cells l)])) hb504 rfl) rfl) ?_
    refine bindG h ?_
    rintro ⟨x_544, x_545⟩ he546 h
    refine SafeOps.quiet0 E_good rfl rfl rfl (v := V.tup [V.int .i64 x_544, V.int .i64 x_545]) (.callP rfl rfl (go_code_Units_sc (gt a0_499 a1_500) _ he546) rfl) ?_
    refine SafeOps.quiet0 E_good rfl rfl rfl (v := V.tup [V.int .i64 x_544, V.int .i64 x_545]) (.fn rfl) ?_
    refine SafeOps.quiet0 E_good rfl rfl rfl (v := V.int .i64 x_544) (.fn rfl) ?_
    refine SafeOps.quiet0 E_good rfl rfl rfl (v := V.int .i64 x_545) (.fn rfl) ?_
    refine SafeOps.quiet0 E_good rfl rfl rfl (v := V.int .i64 x_544) (.fn rfl) ?_
    refine SafeOps.quiet0 E_good rfl rfl rfl (v := V.int .i64 x_545) (.fn rfl) ?_
    refine SafeOps.nil ?_
    repeat (first | refine Safe.seq ?_ | refine Safe.skip ?_ | with_reducible refine thenQ.n ?_ | with_reducible refine blockQ.n ?_)
    refine Safe.region ?_
    refine SafeOps.quiet0 E_good rfl rfl rfl (v := V.int .i64 x_545) (.fn rfl) ?_
    refine SafeOps.quiet0 E_good rfl rfl rfl (v := V.bool (x_545 != 0)) (.fn rfl) ?_
    refine SafeOps.nil ?_
    repeat (first | refine Safe.seq ?_ | refine Safe.skip ?_ | with_reducible refine thenQ.n ?_ | with_reducible refine blockQ.n ?_)
    refine ifG h (fun hc547 h => ?_) (fun hc547 h => ?_)
    · skip
      refine Safe.condK rfl hc547 ?_
      repeat (first | refine Safe.seq ?_ | refine Safe.skip ?_ | with_reducible refine thenQ.n ?_ | with_reducible refine blockQ.n ?_)
      refine Safe.region ?_
      refine SafeOps.quiet0 E_good rfl rfl rfl (v := V.int .i64 1099511627777) (.fn rfl) ?_
      refine SafeOps.nil ?_
      repeat (first | refine Safe.seq ?_ | refine Safe.skip ?_ | with_reducible refine thenQ.n ?_ | with_reducible refine blockQ.n ?_)
      refine Safe.ret ?_
      repeat (first | with_reducible refine thenQ.r ?_ | with_reducible refine blockQ.r ?_)
      obtain rfl := Option.some.inj h
      refine siQ.gen (vs := [V.int .i64 1099511627777]) rfl (.tmp (v := V.int .i64 1099511627777) rfl .nil) rfl rfl ?_ (.inr rfl)
      exact ⟨rfl, trivial⟩
    · skip
      refine Safe.condN rfl hc547 ?_
      repeat (first | refine Safe.seq ?_ | refine Safe.skip ?_ | with_reducible refine thenQ.n ?_ | with_reducible refine blockQ.n ?_)
      refine Safe.regionD (n := 12) [] [8] E_good mixed rfl ?_
      refine DAny.take (i := 2) rfl (by kernel_rfl) [] (by kernel_rfl) (by kernel_rfl) (by kernel_rfl) rfl rfl rfl (v := V.agg [V.sl 1 (rws (fun l => [V.sl 3 (rws api_Instr.cells l)]) a0_499), V.mapr [9]]) (fun _ hz => (.load rfl rfl (.box (hz _ _ rfl rfl) rfl) rfl)) ?_
      refine DAny.take (i := 3) rfl (by kernel_rfl) [] (by kernel_rfl) (by kernel_rfl) (by kernel_rfl) rfl rfl rfl (v := V.ptr [9999, 2] 0 0) (fun _ hz => (.fn rfl)) ?_
      refine DAny.take (i := 4) rfl (by kernel_rfl) [] (by kernel_rfl) (by kernel_rfl) (by kernel_rfl) rfl rfl rfl (v := V.sl 1 (rws (fun l => [V.sl 3 (rws api_Instr.cells l)]) a0_499)) (fun _ hz => (.load rfl rfl (.box (hz _ _ rfl rfl) rfl) rfl)) ?_
      refine DAny.take (i := 5) rfl (by kernel_rfl) [] (by kernel_rfl) (by kernel_rfl) (by kernel_rfl) rfl rfl rfl (v := V.int .i64 a1_500) (fun _ hz => (.fn rfl)) ?_
      refine okG h (fun hb549 h => ?_)
      refine DAny.take (i := 6) rfl (by kernel_rfl) [] (by kernel_rfl) (by kernel_rfl) (by kernel_rfl) rfl rfl rfl (v := V.spt 1 (rws (fun l => [V.sl 3 (rws api_Instr.cells l)]) a0_499) (Int.toNat a1_500) 0) (fun _ hz => (.idxSlM (f := (fun l => [V.sl 3 (rws api_Instr.cells l)])) rfl rfl rfl rfl rfl hb549)) ?_
      refine DAny.take (i := 7) rfl (by kernel_rfl) [] (by kernel_rfl) (by kernel_rfl) (by kernel_rfl) rfl rfl rfl (v := V.sl 3 (rws api_Instr.cells (gt a0_499 a1_500))) (fun _ hz => (.load rfl rfl (.sptM (f := (fun l => [V.sl 3 (rws api_Instr.cells l)])) hb549 rfl) rfl)) ?_
      refine DAny.fork (i := 0) (j := 8) rfl rfl (by kernel_rfl) ?_ ?_
      · skip
        refine .quiet (v := V.int .i64 x_544) (nw := []) rfl rfl rfl (.fn rfl) rfl ?_
        refine DAny.fork (i := 1) (j := 8) rfl rfl (by kernel_rfl) ?_ ?_
        · skip
          refine .quiet (v := V.int .i64 (IntKind.i64.wrap (x_544 + 1))) (nw := []) rfl rfl rfl (.fn rfl) rfl ?_
          refine DAny.onlyS (i := 8) rfl (by kernel_rfl) rfl ?_
          refine SafeOps.inline E_good rfl rfl rfl rfl rfl Try.func18 rfl (fun _ _ => Try.call18 _ _) rfl ?_
          repeat (first | refine Safe.seq ?_ | refine Safe.skip ?_ | with_reducible refine thenQ.n ?_ | with_reducible refine blockQ.n ?_)
          refine Safe.region ?_
          refine SafeOps.quiet1 E_good rfl rfl rfl (.box rfl rfl) rfl ?_
          refine SafeOps.quiet0 E_good rfl rfl rfl (v := V.int .i64 0) (.fn rfl) ?_
          refine SafeOps.nil ?_
          repeat (first | refine Safe.seq ?_ | refine Safe.skip ?_ | with_reducible refine thenQ.n ?_ | with_reducible refine blockQ.n ?_)
          refine Safe.region ?_
          refine SafeOps.quiet0 E_good rfl rfl rfl (v := V.sl 3 (rws api_Instr.cells (gt a0_499 a1_500))) (.fn rfl) ?_
          refine SafeOps.quiet0 E_good rfl rfl rfl (v := V.int .i64 ((gt a0_499 a1_500).length : Int)) (.fnE rfl lenE) ?_
          refine SafeOps.quiet0 E_good rfl rfl rfl (v := V.int .i64 0) (.fn rfl) ?_
          refine SafeOps.nil ?_
          repeat (first | refine Safe.seq ?_ | refine Safe.skip ?_ | with_reducible refine thenQ.n ?_ | with_reducible refine blockQ.n ?_)
          refine Safe.block ?_
          repeat (first | refine Safe.seq ?_ | refine Safe.skip ?_ | with_reducible refine thenQ.n ?_ | with_reducible refine blockQ.n ?_)
          refine Safe.loopW (fun ((v4_567, v9_568, vm_569) : Int × Int × (List (Int × Int))) => ⟨Try.f18.ntmps, [(2, V.ptr [9999, 38, 2] 0 0), (4, V.int .i64 v4_567), (7, V.sl 3 (rws api_Instr.cells (gt a0_499 a1_500))), (8, V.int .i64 ((gt a0_499 a1_500).length : Int)), (9, V.int .i64 v9_568)], [([9], Go.AM.Obj.map (mps (fun n : Int => V.int .i64 n) (fun n : Int => V.int .i64 n) vm_569)), ([9999, 2], Obj.box [V.sl 1 (rws (fun l => [V.sl 3 (rws api_Instr.cells l)]) a0_499), V.mapr [9]]), ([9999, 38, 2], Obj.box [V.sl 1 (rws (fun l => [V.sl 3 (rws api_Instr.cells l)]) a0_499), V.mapr [9]])], [(Try.f11.ntmps, [(1, V.int .i64 a1_500), (2, V.ptr [9999, 2] 0 0), (31, V.int .i64 (IntKind.i64.wrap (x_544 + 1)))]), (1, [(0, V.mapr [9])])], [9999, 38]⟩) h (.cov ⟨rfl, rfl, (upT_cons (.refl _) (upT_cons (.refl _) (upT_cons (.refl _) (upT_cons (.refl _) (upT_cons (.refl _) upT_nil))))), (upOb_cons rfl (.refl _) (upOb_cons rfl (.refl _) (upOb_cons rfl (.refl _) upOb_nil))), (upOut_cons rfl (upT_cons (.refl _) (upT_cons (.refl _) (upT_cons (.refl _) upT_nil))) (upOut_cons rfl (upT_cons (.refl _) upT_nil) upOut_nil)), rfl⟩) ?_
          rintro ⟨v4_567, v9_568, vm_569⟩ ohr570 h hr570
          replace h : go_drain_measure_full_b_s1 a0_499 a1_500 rec_502 x_544 (v4_567, v9_568, vm_569) = some ohr570 := h
          rw [go_drain_measure_full_b_s1] at h
          repeat (first | refine Safe.seq ?_ | refine Safe.skip ?_ | with_reducible refine thenQ.n ?_ | with_reducible refine blockQ.n ?_)
          refine Safe.region ?_
          refine SafeOps.quiet0 E_good rfl rfl rfl (v := V.bool (decide (v9_568 < ((gt a0_499 a1_500).length : Int)))) (.fn rfl) ?_
          refine SafeOps.nil ?_
          repeat (first | refine Safe.seq ?_ | refine Safe.skip ?_ | with_reducible refine thenQ.n ?_ | with_reducible refine blockQ.n ?_)
          refine ifG h (fun hc571 h => ?_) (fun hc571 h => ?_)
          · skip
            refine Safe.condK rfl hc571 ?_
            repeat (first | refine Safe.seq ?_ | refine Safe.skip ?_ | with_reducible refine thenQ.n ?_ | with_reducible refine blockQ.n ?_)
            refine Safe.block ?_
            repeat (first | refine Safe.seq ?_ | refine Safe.skip ?_ | with_reducible refine thenQ.n ?_ | with_reducible refine blockQ.n ?_)
            refine Safe.region ?_
            refine okG h (fun hb572 h => ?_)
            refine SafeOps.quiet0 E_good rfl rfl rfl (v := V.spt 3 (rws api_Instr.cells (gt a0_499 a1_500)) (Int.toNat v9_568) 0) (.idxSlM (f := api_Instr.cells) rfl rfl rfl rfl rfl hb572) ?_
            refine SafeOps.quiet0 E_good rfl rfl rfl (v := V.agg [V.int .i64 ((gt (gt a0_499 a1_500) v9_568).Op), V.int .i64 ((gt (gt a0_499 a1_500) v9_568).A), V.int .i64 ((gt (gt a0_499 a1_500) v9_568).B)]) (.load rfl rfl (.sptM (f := api_Instr.cells) hb572 rfl) rfl) ?_
            refine SafeOps.quiet1 E_good rfl rfl rfl (.alloc rfl rfl) rfl ?_
            refine SafeOps.store (z := Obj.box [V.int .i64 ((gt (gt a0_499 a1_500) v9_568).Op), V.int .i64 ((gt (gt a0_499 a1_500) v9_568).A), V.int .i64 ((gt (gt a0_499 a1_500) v9_568).B)]) E_good rfl rfl rfl rfl rfl rfl rfl (.boxM (c := 3) rfl rfl (Nat.le_of_ble_eq_true rfl) rfl) ?_
            refine SafeOps.nil ?_
            repeat (first | refine Safe.seq ?_ | refine Safe.skip ?_ | with_reducible refine thenQ.n ?_ | with_reducible refine blockQ.n ?_)
            refine Safe.region ?_
            refine SafeOps.quiet0 E_good rfl rfl rfl (v := V.ptr [9999, 38, 6] 0 0) (.fn rfl) ?_
            refine SafeOps.quiet0 E_good rfl rfl rfl (v := V.int .i64 ((gt (gt a0_499 a1_500) v9_568).Op)) (.load rfl rfl (.box rfl rfl) rfl) ?_
            refine SafeOps.nil ?_
            repeat (first | refine Safe.seq ?_ | refine Safe.skip ?_ | with_reducible refine thenQ.n ?_ | with_reducible refine blockQ.n ?_)
            refine Safe.block ?_
            repeat (first | refine Safe.seq ?_ | refine Safe.skip ?_ | with_reducible refine thenQ.n ?_ | with_reducible refine blockQ.n ?_)
            refine Safe.region ?_
            refine SafeOps.quiet0 E_good rfl rfl rfl (v := V.bool (((gt (gt a0_499 a1_500) v9_568).Op) == 9)) (.fn rfl) ?_
            refine SafeOps.quiet0 E_good rfl rfl rfl (v := V.bool (((gt (gt a0_499 a1_500) v9_568).Op) == 9)) (.fn rfl) ?_
            refine SafeOps.nil ?_
            repeat (first | refine Safe.seq ?_ | refine Safe.skip ?_ | with_reducible refine thenQ.n ?_ | with_reducible refine blockQ.n ?_)
            refine ifG h (fun hc573 h => ?_) (fun hc573 h => ?_)
            · skip
              refine Safe.condK rfl hc573 ?_
              repeat (first | refine Safe.seq ?_ | refine Safe.skip ?_ | with_reducible refine thenQ.n ?_ | with_reducible refine blockQ.n ?_)
              refine Safe.region ?_
              refine SafeOps.quiet0 E_good rfl rfl rfl (v := V.int .i64 v4_567) (.fn rfl) ?_
              refine SafeOps.quiet0 E_good rfl rfl rfl (v := V.int .i64 v4_567) (.fn rfl) ?_
              refine SafeOps.nil ?_
              repeat (first | refine Safe.seq ?_ | refine Safe.skip ?_ | with_reducible refine thenQ.n ?_ | with_reducible refine blockQ.n ?_)
              refine Safe.ret ?_
              repeat (first | with_reducible refine thenQ.r ?_ | with_reducible refine blockQ.r ?_)
              refine inQ.gen (vs := [V.int .i64 v4_567]) (v := V.int .i64 v4_567) (.inr rfl) rfl (.tmp (v := V.int .i64 v4_567) rfl .nil) rfl ?_
              replace h := inr_out h hr570
              refine SafeOps.nil ⟨rfl, ?_⟩
              refine DAny.take (i := 9) rfl (by kernel_rfl) [] (by kernel_rfl) (by kernel_rfl) (by kernel_rfl) rfl rfl rfl (v := V.int .i64 (IntKind.i64.wrap ((IntKind.i64.wrap (x_544 + 1)) + v4_567))) (fun _ hz => (.fn rfl)) ?_
              refine DAny.take (i := 10) rfl (by kernel_rfl) [] (by kernel_rfl) (by kernel_rfl) (by kernel_rfl) rfl rfl rfl (v := V.int .i64 (if 1099511627777 < (IntKind.i64.wrap ((IntKind.i64.wrap (x_544 + 1)) + v4_567)) then 1099511627777 else IntKind.i64.wrap ((IntKind.i64.wrap (x_544 + 1)) + v4_567))) (fun _ hz => (.fn rfl)) ?_
              refine DAny.take (i := 11) rfl (by kernel_rfl) [] (by kernel_rfl) (by kernel_rfl) (by kernel_rfl) rfl rfl rfl (v := V.int .i64 (if 1099511627777 < (IntKind.i64.wrap ((IntKind.i64.wrap (x_544 + 1)) + v4_567)) then 1099511627777 else IntKind.i64.wrap ((IntKind.i64.wrap (x_544 + 1)) + v4_567))) (fun _ hz => (.fn rfl)) ?_
              refine DAny.nil (by kernel_rfl) ?_
              repeat (first | refine Safe.seq ?_ | refine Safe.skip ?_ | with_reducible refine thenQ.n ?_ | with_reducible refine blockQ.n ?_)
              refine Safe.region ?_
              refine SafeOps.quiet0 E_good rfl rfl rfl (v := V.ptr [9999, 2] 0 1) (.fn rfl) ?_
              refine SafeOps.quiet0 E_good rfl rfl rfl (v := V.mapr [9]) (.load rfl rfl (.box rfl rfl) rfl) ?_
              refine SafeOps.quiet0 E_good rfl rfl rfl (v := V.int .i64 a1_500) (.fn rfl) ?_
              refine SafeOps.quiet0 E_good rfl rfl rfl (v := V.int .i64 (if 1099511627777 < (IntKind.i64.wrap ((IntKind.i64.wrap (x_544 + 1)) + v4_567)) then 1099511627777 else IntKind.i64.wrap ((IntKind.i64.wrap (x_544 + 1)) + v4_567))) (.fn rfl) ?_
              refine SafeOps.mputM (fun n : Int => V.int .i64 n) (fun n : Int => V.int .i64 n) vm_569 a1_500 (if 1099511627777 < (IntKind.i64.wrap ((IntKind.i64.wrap (x_544 + 1)) + v4_567)) then 1099511627777 else IntKind.i64.wrap ((IntKind.i64.wrap (x_544 + 1)) + v4_567)) E_good (keyI .i64) rfl (.inl rfl) rfl rfl rfl rfl rfl rfl rfl rfl rfl ?_
              refine SafeOps.nil ?_
              repeat (first | refine Safe.seq ?_ | refine Safe.skip ?_ | with_reducible refine thenQ.n ?_ | with_reducible refine blockQ.n ?_)
              refine Safe.region ?_
              refine SafeOps.quiet0 E_good rfl rfl rfl (v := V.int .i64 (if 1099511627777 < (IntKind.i64.wrap ((IntKind.i64.wrap (x_544 + 1)) + v4_567)) then 1099511627777 else IntKind.i64.wrap ((IntKind.i64.wrap (x_544 + 1)) + v4_567))) (.fn rfl) ?_
              refine SafeOps.quiet0 E_good rfl rfl rfl (v := V.int .i64 (if 1099511627777 < (IntKind.i64.wrap ((IntKind.i64.wrap (x_544 + 1)) + v4_567)) then 1099511627777 else IntKind.i64.wrap ((IntKind.i64.wrap (x_544 + 1)) + v4_567))) (.fn rfl) ?_
              refine SafeOps.nil ?_
              repeat (first | refine Safe.seq ?_ | refine Safe.skip ?_ | with_reducible refine thenQ.n ?_ | with_reducible refine blockQ.n ?_)
              refine Safe.ret ?_
              repeat (first | with_reducible refine thenQ.r ?_ | with_reducible refine blockQ.r ?_)
              obtain rfl := Option.some.inj h
              refine siQ.gen (vs := [V.int .i64 (if 1099511627777 < (IntKind.i64.wrap ((IntKind.i64.wrap (x_544 + 1)) + v4_567)) then 1099511627777 else IntKind.i64.wrap ((IntKind.i64.wrap (x_544 + 1)) + v4_567))]) rfl (.tmp (v := V.int .i64 (if 1099511627777 < (IntKind.i64.wrap ((IntKind.i64.wrap (x_544 + 1)) + v4_567)) then 1099511627777 else IntKind.i64.wrap ((IntKind.i64.wrap (x_544 + 1)) + v4_567))) rfl .nil) rfl rfl ?_ (.inr rfl)
              exact ⟨rfl, trivial⟩
            · skip
              refine Safe.condN rfl hc573 ?_
              repeat (first | refine Safe.seq ?_ | refine Safe.skip ?_ | with_reducible refine thenQ.n ?_ | with_reducible refine blockQ.n ?_)
              refine Safe.region ?_
              refine SafeOps.quiet0 E_good rfl rfl rfl (v := V.bool (((gt (gt a0_499 a1_500) v9_568).Op) == 2)) (.fn rfl) ?_
              refine SafeOps.quiet0 E_good rfl rfl rfl (v := V.bool (((gt (gt a0_499 a1_500) v9_568).Op) == 2)) (.fn rfl) ?_
              refine SafeOps.nil ?_
              repeat (first | refine Safe.seq ?_ | refine Safe.skip ?_ | with_reducible refine thenQ.n ?_ | with_reducible refine blockQ.n ?_)
              refine ifG h (fun hc574 h => ?_) (fun hc574 h => ?_)
              · skip
                refine Safe.condK rfl hc574 ?_
                repeat (first | refine Safe.seq ?_ | refine Safe.skip ?_ | with_reducible refine thenQ.n ?_ | with_reducible refine blockQ.n ?_)
                refine Safe.region ?_
                refine SafeOps.quiet0 E_good rfl rfl rfl (v := V.int .i64 v4_567) (.fn rfl) ?_
                refine SafeOps.quiet0 E_good rfl rfl rfl (v := V.agg [V.sl 1 (rws (fun l => [V.sl 3 (rws api_Instr.cells l)]) a0_499), V.mapr [9]]) (.load rfl rfl (.box rfl rfl) rfl) ?_
                refine SafeOps.quiet0 E_good rfl rfl rfl (v := V.ptr [9999, 38, 6] 0 1) (.fn rfl) ?_
                refine SafeOps.quiet0 E_good rfl rfl rfl (v := V.int .i64 ((gt (gt a0_499 a1_500) v9_568).A)) (.load rfl rfl (.box rfl rfl) rfl) ?_
                refine bindG h ?_
                rintro ⟨x_575, m_576⟩ he577 h
                refine SafeOps.callI (obs := [([9], Go.AM.Obj.map (mps (fun n : Int => V.int .i64 n) (fun n : Int => V.int .i64 n) vm_569))]) (obs' := [([9], Go.AM.Obj.map (mps (fun n : Int => V.int .i64 n) (fun n : Int => V.int .i64 n) m_576))]) rfl rfl rfl rfl rfl (HR_rec_502 a0_499 ((gt (gt a0_499 a1_500) v9_568).A) vm_569 _ he577) (.map .nil) rfl ⟨rfl, trivial⟩ rfl rfl ?_
                refine SafeOps.quiet0 E_good rfl rfl rfl (v := V.int .i64 (IntKind.i64.wrap (v4_567 + x_575))) (.fn rfl) ?_
                refine SafeOps.quiet0 E_good rfl rfl rfl (v := V.int .i64 (if 1099511627777 < (IntKind.i64.wrap (v4_567 + x_575)) then 1099511627777 else IntKind.i64.wrap (v4_567 + x_575))) (.fn rfl) ?_
                refine SafeOps.quiet0 E_good rfl rfl rfl (v := V.int .i64 (if 1099511627777 < (IntKind.i64.wrap (v4_567 + x_575)) then 1099511627777 else IntKind.i64.wrap (v4_567 + x_575))) (.fn rfl) ?_
                refine SafeOps.nil ?_
                repeat (first | refine Safe.seq ?_ | refine Safe.skip ?_ | with_reducible refine thenQ.n ?_ | with_reducible refine blockQ.n ?_)
                refine Safe.region ?_
                refine SafeOps.quiet0 E_good rfl rfl rfl (v := V.int .i64 (IntKind.i64.wrap (v9_568 + 1))) (.fn rfl) ?_
                refine SafeOps.quiet0 E_good rfl rfl rfl (v := V.int .i64 (IntKind.i64.wrap (v9_568 + 1))) (.fn rfl) ?_
                refine SafeOps.nil ?_
                repeat (first | refine Safe.seq ?_ | refine Safe.skip ?_ | with_reducible refine thenQ.n ?_ | with_reducible refine blockQ.n ?_)
                exact ⟨_, next_out h, (.cov ⟨rfl, rfl, (upT_cons (.refl _) (upT_cons (.refl _) (upT_cons (.refl _) (upT_cons (.refl _) (upT_cons (.refl _) upT_nil))))), (upOb_cons rfl (.refl _) (upOb_cons rfl (.refl _) (upOb_cons rfl (.refl _) upOb_nil))), (upOut_cons rfl (upT_cons (.refl _) (upT_cons (.refl _) (upT_cons (.refl _) upT_nil))) (upOut_cons rfl (upT_cons (.refl _) upT_nil) upOut_nil)), rfl⟩)⟩
              · skip
                refine Safe.condN rfl hc574 ?_
                repeat (first | refine Safe.seq ?_ | refine Safe.skip ?_ | with_reducible refine thenQ.n ?_ | with_reducible refine blockQ.n ?_)
                refine Safe.region ?_
                refine SafeOps.quiet0 E_good rfl rfl rfl (v := V.int .i64 (IntKind.i64.wrap (v9_568 + 1))) (.fn rfl) ?_
                refine SafeOps.quiet0 E_good rfl rfl rfl (v := V.int .i64 (IntKind.i64.wrap (v9_568 + 1))) (.fn rfl) ?_
                refine SafeOps.nil ?_
                repeat (first | refine Safe.seq ?_ | refine Safe.skip ?_ | with_reducible refine thenQ.n ?_ | with_reducible refine blockQ.n ?_)
                exact ⟨_, next_out h, (.cov ⟨rfl, rfl, (upT_cons (.refl _) (upT_cons (.refl _) (upT_cons (.refl _) (upT_cons (.refl _) (upT_cons (.refl _) upT_nil))))), (upOb_cons rfl (.refl _) (upOb_cons rfl (.refl _) (upOb_cons rfl (.refl _) upOb_nil))), (upOut_cons rfl (upT_cons (.refl _) (upT_cons (.refl _) (upT_cons (.refl _) upT_nil))) (upOut_cons rfl (upT_cons (.refl _) upT_nil) upOut_nil)), rfl⟩)⟩
          · skip
            refine Safe.condN rfl hc571 ?_
            repeat (first | refine Safe.seq ?_ | refine Safe.skip ?_ | with_reducible refine thenQ.n ?_ | with_reducible refine blockQ.n ?_)
            refine Safe.exit ?_
            repeat (first | with_reducible refine thenQ.e ?_ | with_reducible refine blockQ.x rfl ?_ | with_reducible refine blockQ.y rfl ?_)
            replace h := inr_out h hr570
            repeat (first | refine Safe.seq ?_ | refine Safe.skip ?_ | with_reducible refine thenQ.n ?_ | with_reducible refine blockQ.n ?_)
            refine Safe.region ?_
            refine SafeOps.quiet0 E_good rfl rfl rfl (v := V.int .i64 v4_567) (.fn rfl) ?_
            refine SafeOps.quiet0 E_good rfl rfl rfl (v := V.int .i64 v4_567) (.fn rfl) ?_
            refine SafeOps.nil ?_
            repeat (first | refine Safe.seq ?_ | refine Safe.skip ?_ | with_reducible refine thenQ.n ?_ | with_reducible refine blockQ.n ?_)
            refine Safe.ret ?_
            repeat (first | with_reducible refine thenQ.r ?_ | with_reducible refine blockQ.r ?_)
            refine inQ.gen (vs := [V.int .i64 v4_567]) (v := V.int .i64 v4_567) (.inr rfl) rfl (.tmp (v := V.int .i64 v4_567) rfl .nil) rfl ?_
            refine SafeOps.nil ⟨rfl, ?_⟩
            refine DAny.take (i := 9) rfl (by kernel_rfl) [] (by kernel_rfl) (by kernel_rfl) (by kernel_rfl) rfl rfl rfl (v := V.int .i64 (IntKind.i64.wrap ((IntKind.i64.wrap (x_544 + 1)) + v4_567))) (fun _ hz => (.fn rfl)) ?_
            refine DAny.take (i := 10) rfl (by kernel_rfl) [] (by kernel_rfl) (by kernel_rfl) (by kernel_rfl) rfl rfl rfl (v := V.int .i64 (if 1099511627777 < (IntKind.i64.wrap ((IntKind.i64.wrap (x_544 + 1)) + v4_567)) then 1099511627777 else IntKind.i64.wrap ((IntKind.i64.wrap (x_544 + 1)) + v4_567))) (fun _ hz => (.fn rfl)) ?_
            refine DAny.take (i := 11) rfl (by kernel_rfl) [] (by kernel_rfl) (by kernel_rfl) (by kernel_rfl) rfl rfl rfl (v := V.int .i64 (if 1099511627777 < (IntKind.i64.wrap ((IntKind.i64.wrap (x_544 + 1)) + v4_567)) then 1099511627777 else IntKind.i64.wrap ((IntKind.i64.wrap (x_544 + 1)) + v4_567))) (fun _ hz => (.fn rfl)) ?_
            refine DAny.nil (by kernel_rfl) ?_
            repeat (first | refine Safe.seq ?_ | refine Safe.skip ?_ | with_reducible refine thenQ.n ?_ | with_reducible refine blockQ.n ?_)
            refine Safe.region ?_
            refine SafeOps.quiet0 E_good rfl rfl rfl (v := V.ptr [9999, 2] 0 1) (.fn rfl) ?_
            refine SafeOps.quiet0 E_good rfl rfl rfl (v := V.mapr [9]) (.load rfl rfl (.box rfl rfl) rfl) ?_
            refine SafeOps.quiet0 E_good rfl rfl rfl (v := V.int .i64 a1_500) (.fn rfl) ?_
            refine SafeOps.quiet0 E_good rfl rfl rfl (v := V.int .i64 (if 1099511627777 < (IntKind.i64.wrap ((IntKind.i64.wrap (x_544 + 1)) + v4_567)) then 1099511627777 else IntKind.i64.wrap ((IntKind.i64.wrap (x_544 + 1)) + v4_567))) (.fn rfl) ?_
            refine SafeOps.mputM (fun n : Int => V.int .i64 n) (fun n : Int => V.int .i64 n) vm_569 a1_500 (if 1099511627777 < (IntKind.i64.wrap ((IntKind.i64.wrap (x_544 + 1)) + v4_567)) then 1099511627777 else IntKind.i64.wrap ((IntKind.i64.wrap (x_544 + 1)) + v4_567)) E_good (keyI .i64) rfl (.inl rfl) rfl rfl rfl rfl rfl rfl rfl rfl rfl ?_
            refine SafeOps.nil ?_
            repeat (first | refine Safe.seq ?_ | refine Safe.skip ?_ | with_reducible refine thenQ.n ?_ | with_reducible refine blockQ.n ?_)
            refine Safe.region ?_
            refine SafeOps.quiet0 E_good rfl rfl rfl (v := V.int .i64 (if 1099511627777 < (IntKind.i64.wrap ((IntKind.i64.wrap (x_544 + 1)) + v4_567)) then 1099511627777 else IntKind.i64.wrap ((IntKind.i64.wrap (x_544 + 1)) + v4_567))) (.fn rfl) ?_
            refine SafeOps.quiet0 E_good rfl rfl rfl (v := V.int .i64 (if 1099511627777 < (IntKind.i64.wrap ((IntKind.i64.wrap (x_544 + 1)) + v4_567)) then 1099511627777 else IntKind.i64.wrap ((IntKind.i64.wrap (x_544 + 1)) + v4_567))) (.fn rfl) ?_
            refine SafeOps.nil ?_
            repeat (first | refine Safe.seq ?_ | refine Safe.skip ?_ | with_reducible refine thenQ.n ?_ | with_reducible refine blockQ.n ?_)
            refine Safe.ret ?_
            repeat (first | with_reducible refine thenQ.r ?_ | with_reducible refine blockQ.r ?_)
            obtain rfl := Option.some.inj h
            refine siQ.gen (vs := [V.int .i64 (if 1099511627777 < (IntKind.i64.wrap ((IntKind.i64.wrap (x_544 + 1)) + v4_567)) then 1099511627777 else IntKind.i64.wrap ((IntKind.i64.wrap (x_544 + 1)) + v4_567))]) rfl (.tmp (v := V.int .i64 (if 1099511627777 < (IntKind.i64.wrap ((IntKind.i64.wrap (x_544 + 1)) + v4_567)) then 1099511627777 else IntKind.i64.wrap ((IntKind.i64.wrap (x_544 + 1)) + v4_567))) rfl .nil) rfl rfl ?_ (.inr rfl)
            exact ⟨rfl, trivial⟩
        · skip
          refine .other rfl ?_
          refine SafeOps.inline E_good rfl rfl rfl rfl rfl Try.func18 rfl (fun _ _ => Try.call18 _ _) rfl ?_
          repeat (first | refine Safe.seq ?_ | refine Safe.skip ?_ | with_reducible refine thenQ.n ?_ | with_reducible refine blockQ.n ?_)
          refine Safe.region ?_
          refine SafeOps.quiet1 E_good rfl rfl rfl (.box rfl rfl) rfl ?_
          refine SafeOps.quiet0 E_good rfl rfl rfl (v := V.int .i64 0) (.fn rfl) ?_
          refine SafeOps.nil ?_
          repeat (first | refine Safe.seq ?_ | refine Safe.skip ?_ | with_reducible refine thenQ.n ?_ | with_reducible refine blockQ.n ?_)
          refine Safe.region ?_
          refine SafeOps.quiet0 E_good rfl rfl rfl (v := V.sl 3 (rws api_Instr.cells (gt a0_499 a1_500))) (.fn rfl) ?_
          refine SafeOps.quiet0 E_good rfl rfl rfl (v := V.int .i64 ((gt a0_499 a1_500).length : Int)) (.fnE rfl lenE) ?_
          refine SafeOps.quiet0 E_good rfl rfl rfl (v := V.int .i64 0) (.fn rfl) ?_
          refine SafeOps.nil ?_
          repeat (first | refine Safe.seq ?_ | refine Safe.skip ?_ | with_reducible refine thenQ.n ?_ | with_reducible refine blockQ.n ?_)
          refine Safe.block ?_
          repeat (first | refine Safe.seq ?_ | refine Safe.skip ?_ | with_reducible refine thenQ.n ?_ | with_reducible refine blockQ.n ?_)
          refine Safe.loopW (fun ((v4_567, v9_568, vm_569) : Int × Int × (List (Int × Int))) => ⟨Try.f18.ntmps, [(2, V.ptr [9999, 38, 2] 0 0), (4, V.int .i64 v4_567), (7, V.sl 3 (rws api_Instr.cells (gt a0_499 a1_500))), (8, V.int .i64 ((gt a0_499 a1_500).length : Int)), (9, V.int .i64 v9_568)], [([9], Go.AM.Obj.map (mps (fun n : Int => V.int .i64 n) (fun n : Int => V.int .i64 n) vm_569)), ([9999, 2], Obj.box [V.sl 1 (rws (fun l => [V.sl 3 (rws api_Instr.cells l)]) a0_499), V.mapr [9]]), ([9999, 38, 2], Obj.box [V.sl 1 (rws (fun l => [V.sl 3 (rws api_Instr.cells l)]) a0_499), V.mapr [9]])], [(Try.f11.ntmps, [(1, V.int .i64 a1_500), (2, V.ptr [9999, 2] 0 0), (30, V.int .i64 x_544)]), (1, [(0, V.mapr [9])])], [9999, 38]⟩) h (.cov ⟨rfl, rfl, (upT_cons (.refl _) (upT_cons (.refl _) (upT_cons (.refl _) (upT_cons (.refl _) (upT_cons (.refl _) upT_nil))))), (upOb_cons rfl (.refl _) (upOb_cons rfl (.refl _) (upOb_cons rfl (.refl _) upOb_nil))), (upOut_cons rfl (upT_cons (.refl _) (upT_cons (.refl _) (upT_cons (.refl _) upT_nil))) (upOut_cons rfl (upT_cons (.refl _) upT_nil) upOut_nil)), rfl⟩) ?_
          rintro ⟨v4_567, v9_568, vm_569⟩ ohr570 h hr570
          replace h : go_drain_measure_full_b_s1 a0_499 a1_500 rec_502 x_544 (v4_567, v9_568, vm_569) = some ohr570 := h
          rw [go_drain_measure_full_b_s1] at h
          repeat (first | refine Safe.seq ?_ | refine Safe.skip ?_ | with_reducible refine thenQ.n ?_ | with_reducible refine blockQ.n ?_)
          refine Safe.region ?_
          refine SafeOps.quiet0 E_good rfl rfl rfl (v := V.bool (decide (v9_568 < ((gt a0_499 a1_500).length : Int)))) (.fn rfl) ?_
          refine SafeOps.nil ?_
          repeat (first | refine Safe.seq ?_ | refine Safe.skip ?_ | with_reducible refine thenQ.n ?_ | with_reducible refine blockQ.n ?_)
          refine ifG h (fun hc571 h => ?_) (fun hc571 h => ?_)
          · skip
            refine Safe.condK rfl hc571 ?_
            repeat (first | refine Safe.seq ?_ | refine Safe.skip ?_ | with_reducible refine thenQ.n ?_ | with_reducible refine blockQ.n ?_)
            refine Safe.block ?_
            repeat (first | refine Safe.seq ?_ | refine Safe.skip ?_ | with_reducible refine thenQ.n ?_ | with_reducible refine blockQ.n ?_)
            refine Safe.region ?_
            refine okG h (fun hb572 h => ?_)
            refine SafeOps.quiet0 E_good rfl rfl rfl (v := V.spt 3 (rws api_Instr.cells (gt a0_499 a1_500)) (Int.toNat v9_568) 0) (.idxSlM (f := api_Instr.cells) rfl rfl rfl rfl rfl hb572) ?_
            refine SafeOps.quiet0 E_good rfl rfl rfl (v := V.agg [V.int .i64 ((gt (gt a0_499 a1_500) v9_568).Op), V.int .i64 ((gt (gt a0_499 a1_500) v9_568).A), V.int .i64 ((gt (gt a0_499 a1_500) v9_568).B)]) (.load rfl rfl (.sptM (f := api_Instr.cells) hb572 rfl) rfl) ?_
            refine SafeOps.quiet1 E_good rfl rfl rfl (.alloc rfl rfl) rfl ?_
            refine SafeOps.store (z := Obj.box [V.int .i64 ((gt (gt a0_499 a1_500) v9_568).Op), V.int .i64 ((gt (gt a0_499 a1_500) v9_568).A), V.int .i64 ((gt (gt a0_499 a1_500) v9_568).B)]) E_good rfl rfl rfl rfl rfl rfl rfl (.boxM (c := 3) rfl rfl (Nat.le_of_ble_eq_true rfl) rfl) ?_
            refine SafeOps.nil ?_
            repeat (first | refine Safe.seq ?_ | refine Safe.skip ?_ | with_reducible refine thenQ.n ?_ | with_reducible refine blockQ.n ?_)
            refine Safe.region ?_
            refine SafeOps.quiet0 E_good rfl rfl rfl (v := V.ptr [9999, 38, 6] 0 0) (.fn rfl) ?_
            refine SafeOps.quiet0 E_good rfl rfl rfl (v := V.int .i64 ((gt (gt a0_499 a1_500) v9_568).Op)) (.load rfl rfl (.box rfl rfl) rfl) ?_
            refine SafeOps.nil ?_
            repeat (first | refine Safe.seq ?_ | refine Safe.skip ?_ | with_reducible refine thenQ.n ?_ | with_reducible refine blockQ.n ?_)
            refine Safe.block ?_
            repeat (first | refine Safe.seq ?_ | refine Safe.skip ?_ | with_reducible refine thenQ.n ?_ | with_reducible refine blockQ.n ?_)
            refine Safe.region ?_
            refine SafeOps.quiet0 E_good rfl rfl rfl (v := V.bool (((gt (gt a0_499 a1_500) v9_568).Op) == 9)) (.fn rfl) ?_
            refine SafeOps.quiet0 E_good rfl rfl rfl (v := V.bool (((gt (gt a0_499 a1_500) v9_568).Op) == 9)) (.fn rfl) ?_
            refine SafeOps.nil ?_
            repeat (first | refine Safe.seq ?_ | refine Safe.skip ?_ | with_reducible refine thenQ.n ?_ | with_reducible refine blockQ.n ?_)
            refine ifG h (fun hc573 h => ?_) (fun hc573 h => ?_)
            · skip
              refine Safe.condK rfl hc573 ?_
              repeat (first | refine Safe.seq ?_ | refine Safe.skip ?_ | with_reducible refine thenQ.n ?_ | with_reducible refine blockQ.n ?_)
              refine Safe.region ?_
              refine SafeOps.quiet0 E_good rfl rfl rfl (v := V.int .i64 v4_567) (.fn rfl) ?_
              refine SafeOps.quiet0 E_good rfl rfl rfl (v := V.int .i64 v4_567) (.fn rfl) ?_
              refine SafeOps.nil ?_
              repeat (first | refine Safe.seq ?_ | refine Safe.skip ?_ | with_reducible refine thenQ.n ?_ | with_reducible refine blockQ.n ?_)
              refine Safe.ret ?_
              repeat (first | with_reducible refine thenQ.r ?_ | with_reducible refine blockQ.r ?_)
              refine inQ.gen (vs := [V.int .i64 v4_567]) (v := V.int .i64 v4_567) (.inr rfl) rfl (.tmp (v := V.int .i64 v4_567) rfl .nil) rfl ?_
              replace h := inr_out h hr570
              refine SafeOps.nil ⟨rfl, ?_⟩
              refine DAny.take (i := 1) rfl (by kernel_rfl) [] (by kernel_rfl) (by kernel_rfl) (by kernel_rfl) rfl rfl rfl (v := V.int .i64 (IntKind.i64.wrap (x_544 + 1))) (fun _ hz => (.fn rfl)) ?_
              refine DAny.take (i := 9) rfl (by kernel_rfl) [] (by kernel_rfl) (by kernel_rfl) (by kernel_rfl) rfl rfl rfl (v := V.int .i64 (IntKind.i64.wrap ((IntKind.i64.wrap (x_544 + 1)) + v4_567))) (fun _ hz => (.fn rfl)) ?_
              refine DAny.take (i := 10) rfl (by kernel_rfl) [] (by kernel_rfl) (by kernel_rfl) (by kernel_rfl) rfl rfl rfl (v := V.int .i64 (if 1099511627777 < (IntKind.i64.wrap ((IntKind.i64.wrap (x_544 + 1)) + v4_567)) then 1099511627777 else IntKind.i64.wrap ((IntKind.i64.wrap (x_544 + 1)) + v4_567))) (fun _ hz => (.fn rfl)) ?_
              refine DAny.take (i := 11) rfl (by kernel_rfl) [] (by kernel_rfl) (by kernel_rfl) (by kernel_rfl) rfl rfl rfl (v := V.int .i64 (if 1099511627777 < (IntKind.i64.wrap ((IntKind.i64.wrap (x_544 + 1)) + v4_567)) then 1099511627777 else IntKind.i64.wrap ((IntKind.i64.wrap (x_544 + 1)) + v4_567))) (fun _ hz => (.fn rfl)) ?_
              refine DAny.nil (by kernel_rfl) ?_
              repeat (first | refine Safe.seq ?_ | refine Safe.skip ?_ | with_reducible refine thenQ.n ?_ | with_reducible refine blockQ.n ?_)
              refine Safe.region ?_
              refine SafeOps.quiet0 E_good rfl rfl rfl (v := V.ptr [9999, 2] 0 1) (.fn rfl) ?_
              refine SafeOps.quiet0 E_good rfl rfl rfl (v := V.mapr [9]) (.load rfl rfl (.box rfl rfl) rfl) ?_
              refine SafeOps.quiet0 E_good rfl rfl rfl (v := V.int .i64 a1_500) (.fn rfl) ?_
              refine SafeOps.quiet0 E_good rfl rfl rfl (v := V.int .i64 (if 1099511627777 < (IntKind.i64.wrap ((IntKind.i64.wrap (x_544 + 1)) + v4_567)) then 1099511627777 else IntKind.i64.wrap ((IntKind.i64.wrap (x_544 + 1)) + v4_567))) (.fn rfl) ?_
              refine SafeOps.mputM (fun n : Int => V.int .i64 n) (fun n : Int => V.int .i64 n) vm_569 a1_500 (if 1099511627777 < (IntKind.i64.wrap ((IntKind.i64.wrap (x_544 + 1)) + v4_567)) then 1099511627777 else IntKind.i64.wrap ((IntKind.i64.wrap (x_544 + 1)) + v4_567)) E_good (keyI .i64) rfl (.inl rfl) rfl rfl rfl rfl rfl rfl rfl rfl rfl ?_
              refine SafeOps.nil ?_
              repeat (first | refine Safe.seq ?_ | refine Safe.skip ?_ | with_reducible refine thenQ.n ?_ | with_reducible refine blockQ.n ?_)
              refine Safe.region ?_
              refine SafeOps.quiet0 E_good rfl rfl rfl (v := V.int .i64 (if 1099511627777 < (IntKind.i64.wrap ((IntKind.i64.wrap (x_544 + 1)) + v4_567)) then 1099511627777 else IntKind.i64.wrap ((IntKind.i64.wrap (x_544 + 1)) + v4_567))) (.fn rfl) ?_
              refine SafeOps.quiet0 E_good rfl rfl rfl (v := V.int .i64 (if 1099511627777 < (IntKind.i64.wrap ((IntKind.i64.wrap (x_544 + 1)) + v4_567)) then 1099511627777 else IntKind.i64.wrap ((IntKind.i64.wrap (x_544 + 1)) + v4_567))) (.fn rfl) ?_
              refine SafeOps.nil ?_
              repeat (first | refine Safe.seq ?_ | refine Safe.skip ?_ | with_reducible refine thenQ.n ?_ | with_reducible refine blockQ.n ?_)
              refine Safe.ret ?_
              repeat (first | with_reducible refine thenQ.r ?_ | with_reducible refine blockQ.r ?_)
              obtain rfl := Option.some.inj h
              refine siQ.gen (vs := [V.int .i64 (if 1099511627777 < (IntKind.i64.wrap ((IntKind.i64.wrap (x_544 + 1)) + v4_567)) then 1099511627777 else IntKind.i64.wrap ((IntKind.i64.wrap (x_544 + 1)) + v4_567))]) rfl (.tmp (v := V.int .i64 (if 1099511627777 < (IntKind.i64.wrap ((IntKind.i64.wrap (x_544 + 1)) + v4_567)) then 1099511627777 else IntKind.i64.wrap ((IntKind.i64.wrap (x_544 + 1)) + v4_567))) rfl .nil) rfl rfl ?_ (.inr rfl)
              exact ⟨rfl, trivial⟩
            · skip
              refine Safe.condN rfl hc573 ?_
              repeat (first | refine Safe.seq ?_ | refine Safe.skip ?_ | with_reducible refine thenQ.n ?_ | with_reducible refine blockQ.n ?_)
              refine Safe.region ?_
              refine SafeOps.quiet0 E_good rfl rfl rfl (v := V.bool (((gt (gt a0_499 a1_500) v9_568).Op) == 2)) (.fn rfl) ?_
              refine SafeOps.quiet0 E_good rfl rfl rfl (v := V.bool (((gt (gt a0_499 a1_500) v9_568).Op) == 2)) (.fn rfl) ?_
              refine SafeOps.nil ?_
              repeat (first | refine Safe.seq ?_ | refine Safe.skip ?_ | with_reducible refine thenQ.n ?_ | with_reducible refine blockQ.n ?_)
              refine ifG h (fun hc574 h => ?_) (fun hc574 h => ?_)
              · skip
                refine Safe.condK rfl hc574 ?_
                repeat (first | refine Safe.seq ?_ | refine Safe.skip ?_ | with_reducible refine thenQ.n ?_ | with_reducible refine blockQ.n ?_)
                refine Safe.region ?_
                refine SafeOps.quiet0 E_good rfl rfl rfl (v := V.int .i64 v4_567) (.fn rfl) ?_
                refine SafeOps.quiet0 E_good rfl rfl rfl (v := V.agg [V.sl 1 (rws (fun l => [V.sl 3 (rws api_Instr.cells l)]) a0_499), V.mapr [9]]) (.load rfl rfl (.box rfl rfl) rfl) ?_
                refine SafeOps.quiet0 E_good rfl rfl rfl (v := V.ptr [9999, 38, 6] 0 1) (.fn rfl) ?_
                refine SafeOps.quiet0 E_good rfl rfl rfl (v := V.int .i64 ((gt (gt a0_499 a1_500) v9_568).A)) (.load rfl rfl (.box rfl rfl) rfl) ?_
                refine bindG h ?_
                rintro ⟨x_575, m_576⟩ he577 h
                refine SafeOps.callI (obs := [([9], Go.AM.Obj.map (mps (fun n : Int => V.int .i64 n) (fun n : Int => V.int .i64 n) vm_569))]) (obs' := [([9], Go.AM.Obj.map (mps (fun n : Int => V.int .i64 n) (fun n : Int => V.int .i64 n) m_576))]) rfl rfl rfl rfl rfl (HR_rec_502 a0_499 ((gt (gt a0_499 a1_500) v9_568).A) vm_569 _ he577) (.map .nil) rfl ⟨rfl, trivial⟩ rfl rfl ?_
                refine SafeOps.quiet0 E_good rfl rfl rfl (v := V.int .i64 (IntKind.i64.wrap (v4_567 + x_575))) (.fn rfl) ?_
                refine SafeOps.quiet0 E_good rfl rfl rfl (v := V.int .i64 (if 1099511627777 < (IntKind.i64.wrap (v4_567 + x_575)) then 1099511627777 else IntKind.i64.wrap (v4_567 + x_575))) (.fn rfl) ?_
                refine SafeOps.quiet0 E_good rfl rfl rfl (v := V.int .i64 (if 1099511627777 < (IntKind.i64.wrap (v4_567 + x_575)) then 1099511627777 else IntKind.i64.wrap (v4_567 + x_575))) (.fn rfl) ?_
                refine SafeOps.nil ?_
                repeat (first | refine Safe.seq ?_ | refine Safe.skip ?_ | with_reducible refine thenQ.n ?_ | with_reducible refine blockQ.n ?_)
                refine Safe.region ?_
                refine SafeOps.quiet0 E_good rfl rfl rfl (v := V.int .i64 (IntKind.i64.wrap (v9_568 + 1))) (.fn rfl) ?_
                refine SafeOps.quiet0 E_good rfl rfl rfl (v := V.int .i64 (IntKind.i64.wrap (v9_568 + 1))) (.fn rfl) ?_
                refine SafeOps.nil ?_
                repeat (first | refine Safe.seq ?_ | refine Safe.skip ?_ | with_reducible refine thenQ.n ?_ | with_reducible refine blockQ.n ?_)
                exact ⟨_, next_out h, (.cov ⟨rfl, rfl, (upT_cons (.refl _) (upT_cons (.refl _) (upT_cons (.refl _) (upT_cons (.refl _) (upT_cons (.refl _) upT_nil))))), (upOb_cons rfl (.refl _) (upOb_cons rfl (.refl _) (upOb_cons rfl (.refl _) upOb_nil))), (upOut_cons rfl (upT_cons (.refl _) (upT_cons (.refl _) (upT_cons (.refl _) upT_nil))) (upOut_cons rfl (upT_cons (.refl _) upT_nil) upOut_nil)), rfl⟩)⟩
              · skip
                refine Safe.condN rfl hc574 ?_
                repeat (first | refine Safe.seq ?_ | refine Safe.skip ?_ | with_reducible refine thenQ.n ?_ | with_reducible refine blockQ.n ?_)
                refine Safe.region ?_
                refine SafeOps.quiet0 E_good rfl rfl rfl (v := V.int .i64 (IntKind.i64.wrap (v9_568 + 1))) (.fn rfl) ?_
                refine SafeOps.quiet0 E_good rfl rfl rfl (v := V.int .i64 (IntKind.i64.wrap (v9_568 + 1))) (.fn rfl) ?_
                refine SafeOps.nil ?_
                repeat (first | refine Safe.seq ?_ | refine Safe.skip ?_ | with_reducible refine thenQ.n ?_ | with_reducible refine blockQ.n ?_)
                exact ⟨_, next_out h, (.cov ⟨rfl, rfl, (upT_cons (.refl _) (upT_cons (.refl _) (upT_cons (.refl _) (upT_cons (.refl _) (upT_cons (.refl _) upT_nil))))), (upOb_cons rfl (.refl _) (upOb_cons rfl (.refl _) (upOb_cons rfl (.refl _) upOb_nil))), (upOut_cons rfl (upT_cons (.refl _) (upT_cons (.refl _) (upT_cons (.refl _) upT_nil))) (upOut_cons rfl (upT_cons (.refl _) upT_nil) upOut_nil)), rfl⟩)⟩
          · skip
            refine Safe.condN rfl hc571 ?_
            repeat (first | refine Safe.seq ?_ | refine Safe.skip ?_ | with_reducible refine thenQ.n ?_ | with_reducible refine blockQ.n ?_)
            refine Safe.exit ?_
            repeat (first | with_reducible refine thenQ.e ?_ | with_reducible refine blockQ.x rfl ?_ | with_reducible refine blockQ.y rfl ?_)
            replace h := inr_out h hr570
            repeat (first | refine Safe.seq ?_ | refine Safe.skip ?_ | with_reducible refine thenQ.n ?_ | with_reducible refine blockQ.n ?_)
            refine Safe.region ?_
            refine SafeOps.quiet0 E_good rfl rfl rfl (v := V.int .i64 v4_567) (.fn rfl) ?_
            refine SafeOps.quiet0 E_good rfl rfl rfl (v := V.int .i64 v4_567) (.fn rfl) ?_
            refine SafeOps.nil ?_
            repeat (first | refine Safe.seq ?_ | refine Safe.skip ?_ | with_reducible refine thenQ.n ?_ | with_reducible refine blockQ.n ?_)
            refine Safe.ret ?_
            repeat (first | with_reducible refine thenQ.r ?_ | with_reducible refine blockQ.r ?_)
            refine inQ.gen (vs := [V.int .i64 v4_567]) (v := V.int .i64 v4_567) (.inr rfl) rfl (.tmp (v := V.int .i64 v4_567) rfl .nil) rfl ?_
            refine SafeOps.nil ⟨rfl, ?_⟩
            refine DAny.take (i := 1) rfl (by kernel_rfl) [] (by kernel_rfl) (by kernel_rfl) (by kernel_rfl) rfl rfl rfl (v := V.int .i64 (IntKind.i64.wrap (x_544 + 1))) (fun _ hz => (.fn rfl)) ?_
            refine DAny.take (i := 9) rfl (by kernel_rfl) [] (by kernel_rfl) (by kernel_rfl) (by kernel_rfl) rfl rfl rfl (v := V.int .i64 (IntKind.i64.wrap ((IntKind.i64.wrap (x_544 + 1)) + v4_567))) (fun _ hz => (.fn rfl)) ?_
            refine DAny.take (i := 10) rfl (by kernel_rfl) [] (by kernel_rfl) (by kernel_rfl) (by kernel_rfl) rfl rfl rfl (v := V.int .i64 (if 1099511627777 < (IntKind.i64.wrap ((IntKind.i64.wrap (x_544 + 1)) + v4_567)) then 1099511627777 else IntKind.i64.wrap ((IntKind.i64.wrap (x_544 + 1)) + v4_567))) (fun _ hz => (.fn rfl)) ?_
            refine DAny.take (i := 11) rfl (by kernel_rfl) [] (by kernel_rfl) (by kernel_rfl) (by kernel_rfl) rfl rfl rfl (v := V.int .i64 (if 1099511627777 < (IntKind.i64.wrap ((IntKind.i64.wrap (x_544 + 1)) + v4_567)) then 1099511627777 else IntKind.i64.wrap ((IntKind.i64.wrap (x_544 + 1)) + v4_567))) (fun _ hz => (.fn rfl)) ?_
            refine DAny.nil (by kernel_rfl) ?_
            repeat (first | refine Safe.seq ?_ | refine Safe.skip ?_ | with_reducible refine thenQ.n ?_ | with_reducible refine blockQ.n ?_)
            refine Safe.region ?_
            refine SafeOps.quiet0 E_good rfl rfl rfl (v := V.ptr [9999, 2] 0 1) (.fn rfl) ?_
            refine SafeOps.quiet0 E_good rfl rfl rfl (v := V.mapr [9]) (.load rfl rfl (.box rfl rfl) rfl) ?_
            refine SafeOps.quiet0 E_good rfl rfl rfl (v := V.int .i64 a1_500) (.fn rfl) ?_
            refine SafeOps.quiet0 E_good rfl rfl rfl (v := V.int .i64 (if 1099511627777 < (IntKind.i64.wrap ((IntKind.i64.wrap (x_544 + 1)) + v4_567)) then 1099511627777 else IntKind.i64.wrap ((IntKind.i64.wrap (x_544 + 1)) + v4_567))) (.fn rfl) ?_
            refine SafeOps.mputM (fun n : Int => V.int .i64 n) (fun n : Int => V.int .i64 n) vm_569 a1_500 (if 1099511627777 < (IntKind.i64.wrap ((IntKind.i64.wrap (x_544 + 1)) + v4_567)) then 1099511627777 else IntKind.i64.wrap ((IntKind.i64.wrap (x_544 + 1)) + v4_567)) E_good (keyI .i64) rfl (.inl rfl) rfl rfl rfl rfl rfl rfl rfl rfl rfl ?_
            refine SafeOps.nil ?_
            repeat (first | refine Safe.seq ?_ | refine Safe.skip ?_ | with_reducible refine thenQ.n ?_ | with_reducible refine blockQ.n ?_)
            refine Safe.region ?_
            refine SafeOps.quiet0 E_good rfl rfl rfl (v := V.int .i64 (if 1099511627777 < (IntKind.i64.wrap ((IntKind.i64.wrap (x_544 + 1)) + v4_567)) then 1099511627777 else IntKind.i64.wrap ((IntKind.i64.wrap (x_544 + 1)) + v4_567))) (.fn rfl) ?_
            refine SafeOps.quiet0 E_good rfl rfl rfl (v := V.int .i64 (if 1099511627777 < (IntKind.i64.wrap ((IntKind.i64.wrap (x_544 + 1)) + v4_567)) then 1099511627777 else IntKind.i64.wrap ((IntKind.i64.wrap (x_544 + 1)) + v4_567))) (.fn rfl) ?_
            refine SafeOps.nil ?_
            repeat (first | refine Safe.seq ?_ | refine Safe.skip ?_ | with_reducible refine thenQ.n ?_ | with_reducible refine blockQ.n ?_)
            refine Safe.ret ?_
            repeat (first | with_reducible refine thenQ.r ?_ | with_reducible refine blockQ.r ?_)
            obtain rfl := Option.some.inj h
            refine siQ.gen (vs := [V.int .i64 (if 1099511627777 < (IntKind.i64.wrap ((IntKind.i64.wrap (x_544 + 1)) + v4_567)) then 1099511627777 else IntKind.i64.wrap ((IntKind.i64.wrap (x_544 + 1)) + v4_567))]) rfl (.tmp (v := V.int .i64 (if 1099511627777 < (IntKind.i64.wrap ((IntKind.i64.wrap (x_544 + 1)) + v4_567)) then 1099511627777 else IntKind.i64.wrap ((IntKind.i64.wrap (x_544 + 1)) + v4_567))) rfl .nil) rfl rfl ?_ (.inr rfl)
            exact ⟨rfl, trivial⟩
      · skip
        refine .other rfl ?_
        refine SafeOps.inline E_good rfl rfl rfl rfl rfl Try.func18 rfl (fun _ _ => Try.call18 _ _) rfl ?_
        repeat (first | refine Safe.seq ?_ | refine Safe.skip ?_ | with_reducible refine thenQ.n ?_ | with_reducible refine blockQ.n ?_)
        refine Safe.region ?_
        refine SafeOps.quiet1 E_good rfl rfl rfl (.box rfl rfl) rfl ?_
        refine SafeOps.quiet0 E_good rfl rfl rfl (v := V.int .i64 0) (.fn rfl) ?_
        refine SafeOps.nil ?_
        repeat (first | refine Safe.seq ?_ | refine Safe.skip ?_ | with_reducible refine thenQ.n ?_ | with_reducible refine blockQ.n ?_)
        refine Safe.region ?_
        refine SafeOps.quiet0 E_good rfl rfl rfl (v := V.sl 3 (rws api_Instr.cells (gt a0_499 a1_500))) (.fn rfl) ?_
        refine SafeOps.quiet0 E_good rfl rfl rfl (v := V.int .i64 ((gt a0_499 a1_500).length : Int)) (.fnE rfl lenE) ?_
        refine SafeOps.quiet0 E_good rfl rfl rfl (v := V.int .i64 0) (.fn rfl) ?_
        refine SafeOps.nil ?_
        repeat (first | refine Safe.seq ?_ | refine Safe.skip ?_ | with_reducible refine thenQ.n ?_ | with_reducible refine blockQ.n ?_)
        refine Safe.block ?_
        repeat (first | refine Safe.seq ?_ | refine Safe.skip ?_ | with_reducible refine thenQ.n ?_ | with_reducible refine blockQ.n ?_)
        refine Safe.loopW (fun ((v4_567, v9_568, vm_569) : Int × Int × (List (Int × Int))) => ⟨Try.f18.ntmps, [(2, V.ptr [9999, 38, 2] 0 0), (4, V.int .i64 v4_567), (7, V.sl 3 (rws api_Instr.cells (gt a0_499 a1_500))), (8, V.int .i64 ((gt a0_499 a1_500).length : Int)), (9, V.int .i64 v9_568)], [([9], Go.AM.Obj.map (mps (fun n : Int => V.int .i64 n) (fun n : Int => V.int .i64 n) vm_569)), ([9999, 2], Obj.box [V.sl 1 (rws (fun l => [V.sl 3 (rws api_Instr.cells l)]) a0_499), V.mapr [9]]), ([9999, 38, 2], Obj.box [V.sl 1 (rws (fun l => [V.sl 3 (rws api_Instr.cells l)]) a0_499), V.mapr [9]])], [(Try.f11.ntmps, [(1, V.int .i64 a1_500), (2, V.ptr [9999, 2] 0 0), (7, V.int .i64 x_544)]), (1, [(0, V.mapr [9])])], [9999, 38]⟩) h (.cov ⟨rfl, rfl, (upT_cons (.refl _) (upT_cons (.refl _) (upT_cons (.refl _) (upT_cons (.refl _) (upT_cons (.refl _) upT_nil))))), (upOb_cons rfl (.refl _) (upOb_cons rfl (.refl _) (upOb_cons rfl (.refl _) upOb_nil))), (upOut_cons rfl (upT_cons (.refl _) (upT_cons (.refl _) (upT_cons (.refl _) upT_nil))) (upOut_cons rfl (upT_cons (.refl _) upT_nil) upOut_nil)), rfl⟩) ?_
        rintro ⟨v4_567, v9_568, vm_569⟩ ohr570 h hr570
        replace h : go_drain_measure_full_b_s1 a0_499 a1_500 rec_502 x_544 (v4_567, v9_568, vm_569) = some ohr570 := h
        rw [go_drain_measure_full_b_s1] at h
        repeat (first | refine Safe.seq ?_ | refine Safe.skip ?_ | with_reducible refine thenQ.n ?_ | with_reducible refine blockQ.n ?_)
        refine Safe.region ?_
        refine SafeOps.quiet0 E_good rfl rfl rfl (v := V.bool (decide (v9_568 < ((gt a0_499 a1_500).length : Int)))) (.fn rfl) ?_
        refine SafeOps.nil ?_
        repeat (first | refine Safe.seq ?_ | refine Safe.skip ?_ | with_reducible refine thenQ.n ?_ | with_reducible refine blockQ.n ?_)
        refine ifG h (fun hc571 h => ?_) (fun hc571 h => ?_)
        · skip
          refine Safe.condK rfl hc571 ?_
          repeat (first | refine Safe.seq ?_ | refine Safe.skip ?_ | with_reducible refine thenQ.n ?_ | with_reducible refine blockQ.n ?_)
          refine Safe.block ?_
          repeat (first | refine Safe.seq ?_ | refine Safe.skip ?_ | with_reducible refine thenQ.n ?_ | with_reducible refine blockQ.n ?_)
          refine Safe.region ?_
          refine okG h (fun hb572 h => ?_)
          refine SafeOps.quiet0 E_good rfl rfl rfl (v := V.spt 3 (rws api_Instr.cells (gt a0_499 a1_500)) (Int.toNat v9_568) 0) (.idxSlM (f := api_Instr.cells) rfl rfl rfl rfl rfl hb572) ?_
          refine SafeOps.quiet0 E_good rfl rfl rfl (v := V.agg [V.int .i64 ((gt (gt a0_499 a1_500) v9_568).Op), V.int .i64 ((gt (gt a0_499 a1_500) v9_568).A), V.int .i64 ((gt (gt a0_499 a1_500) v9_568).B)]) (.load rfl rfl (.sptM (f := api_Instr.cells) hb572 rfl) rfl) ?_
          refine SafeOps.quiet1 E_good rfl rfl rfl (.alloc rfl rfl) rfl ?_
          refine SafeOps.store (z := Obj.box [V.int .i64 ((gt (gt a0_499 a1_500) v9_568).Op), V.int .i64 ((gt (gt a0_499 a1_500) v9_568).A), V.int .i64 ((gt (gt a0_499 a1_500) v9_568).B)]) E_good rfl rfl rfl rfl rfl rfl rfl (.boxM (c := 3) rfl rfl (Nat.le_of_ble_eq_true rfl) rfl) ?_
          refine SafeOps.nil ?_
          repeat (first | refine Safe.seq ?_ | refine Safe.skip ?_ | with_reducible refine thenQ.n ?_ | with_reducible refine blockQ.n ?_)
          refine Safe.region ?_
          refine SafeOps.quiet0 E_good rfl rfl rfl (v := V.ptr [9999, 38, 6] 0 0) (.fn rfl) ?_
          refine SafeOps.quiet0 E_good rfl rfl rfl (v := V.int .i64 ((gt (gt a0_499 a1_500) v9_568).Op)) (.load rfl rfl (.box rfl rfl) rfl) ?_
          refine SafeOps.nil ?_
          repeat (first | refine Safe.seq ?_ | refine Safe.skip ?_ | with_reducible refine thenQ.n ?_ | with_reducible refine blockQ.n ?_)
          refine Safe.block ?_
          repeat (first | refine Safe.seq ?_ | refine Safe.skip ?_ | with_reducible refine thenQ.n ?_ | with_reducible refine blockQ.n ?_)
          refine Safe.region ?_
          refine SafeOps.quiet0 E_good rfl rfl rfl (v := V.bool (((gt (gt a0_499 a1_500) v9_568).Op) == 9)) (.fn rfl) ?_
          refine SafeOps.quiet0 E_good rfl rfl rfl (v := V.bool (((gt (gt a0_499 a1_500) v9_568).Op) == 9)) (.fn rfl) ?_
          refine SafeOps.nil ?_
          repeat (first | refine Safe.seq ?_ | refine Safe.skip ?_ | with_reducible refine thenQ.n ?_ | with_reducible refine blockQ.n ?_)
          refine ifG h (fun hc573 h => ?_) (fun hc573 h => ?_)
          · skip
            refine Safe.condK rfl hc573 ?_
            repeat (first | refine Safe.seq ?_ | refine Safe.skip ?_ | with_reducible refine thenQ.n ?_ | with_reducible refine blockQ.n ?_)
            refine Safe.region ?_
            refine SafeOps.quiet0 E_good rfl rfl rfl (v := V.int .i64 v4_567) (.fn rfl) ?_
            refine SafeOps.quiet0 E_good rfl rfl rfl (v := V.int .i64 v4_567) (.fn rfl) ?_
            refine SafeOps.nil ?_
            repeat (first | refine Safe.seq ?_ | refine Safe.skip ?_ | with_reducible refine thenQ.n ?_ | with_reducible refine blockQ.n ?_)
            refine Safe.ret ?_
            repeat (first | with_reducible refine thenQ.r ?_ | with_reducible refine blockQ.r ?_)
            refine inQ.gen (vs := [V.int .i64 v4_567]) (v := V.int .i64 v4_567) (.inr rfl) rfl (.tmp (v := V.int .i64 v4_567) rfl .nil) rfl ?_
            replace h := inr_out h hr570
            refine SafeOps.nil ⟨rfl, ?_⟩
            refine DAny.take (i := 0) rfl (by kernel_rfl) [] (by kernel_rfl) (by kernel_rfl) (by kernel_rfl) rfl rfl rfl (v := V.int .i64 x_544) (fun _ hz => (.fn rfl)) ?_
            refine DAny.take (i := 1) rfl (by kernel_rfl) [] (by kernel_rfl) (by kernel_rfl) (by kernel_rfl) rfl rfl rfl (v := V.int .i64 (IntKind.i64.wrap (x_544 + 1))) (fun _ hz => (.fn rfl)) ?_
            refine DAny.take (i := 9) rfl (by kernel_rfl) [] (by kernel_rfl) (by kernel_rfl) (by kernel_rfl) rfl rfl rfl (v := V.int .i64 (IntKind.i64.wrap ((IntKind.i64.wrap (x_544 + 1)) + v4_567))) (fun _ hz => (.fn rfl)) ?_
            refine DAny.take (i := 10) rfl (by kernel_rfl) [] (by kernel_rfl) (by kernel_rfl) (by kernel_rfl) rfl rfl rfl (v := V.int .i64 (if 1099511627777 < (IntKind.i64.wrap ((IntKind.i64.wrap (x_544 + 1)) + v4_567)) then 1099511627777 else IntKind.i64.wrap ((IntKind.i64.wrap (x_544 + 1)) + v4_567))) (fun _ hz => (.fn rfl)) ?_
            refine DAny.take (i := 11) rfl (by kernel_rfl) [] (by kernel_rfl) (by kernel_rfl) (by kernel_rfl) rfl rfl rfl (v := V.int .i64 (if 1099511627777 < (IntKind.i64.wrap ((IntKind.i64.wrap (x_544 + 1)) + v4_567)) then 1099511627777 else IntKind.i64.wrap ((IntKind.i64.wrap (x_544 + 1)) + v4_567))) (fun _ hz => (.fn rfl)) ?_
            refine DAny.nil (by kernel_rfl) ?_
            repeat (first | refine Safe.seq ?_ | refine Safe.skip ?_ | with_reducible refine thenQ.n ?_ | with_reducible refine blockQ.n ?_)
            refine Safe.region ?_
            refine SafeOps.quiet0 E_good rfl rfl rfl (v := V.ptr [9999, 2] 0 1) (.fn rfl) ?_
            refine SafeOps.quiet0 E_good rfl rfl rfl (v := V.mapr [9]) (.load rfl rfl (.box rfl rfl) rfl) ?_
            refine SafeOps.quiet0 E_good rfl rfl rfl (v := V.int .i64 a1_500) (.fn rfl) ?_
            refine SafeOps.quiet0 E_good rfl rfl rfl (v := V.int .i64 (if 1099511627777 < (IntKind.i64.wrap ((IntKind.i64.wrap (x_544 + 1)) + v4_567)) then 1099511627777 else IntKind.i64.wrap ((IntKind.i64.wrap (x_544 + 1)) + v4_567))) (.fn rfl) ?_
            refine SafeOps.mputM (fun n : Int => V.int .i64 n) (fun n : Int => V.int .i64 n) vm_569 a1_500 (if 1099511627777 < (IntKind.i64.wrap ((IntKind.i64.wrap (x_544 + 1)) + v4_567)) then 1099511627777 else IntKind.i64.wrap ((IntKind.i64.wrap (x_544 + 1)) + v4_567)) E_good (keyI .i64) rfl (.inl rfl) rfl rfl rfl rfl rfl rfl rfl rfl rfl ?_
            refine SafeOps.nil ?_
            repeat (first | refine Safe.seq ?_ | refine Safe.skip ?_ | with_reducible refine thenQ.n ?_ | with_reducible refine blockQ.n ?_)
            refine Safe.region ?_
            refine SafeOps.quiet0 E_good rfl rfl rfl (v := V.int .i64 (if 1099511627777 < (IntKind.i64.wrap ((IntKind.i64.wrap (x_544 + 1)) + v4_567)) then 1099511627777 else IntKind.i64.wrap ((IntKind.i64.wrap (x_544 + 1)) + v4_567))) (.fn rfl) ?_
            refine SafeOps.quiet0 E_good rfl rfl rfl (v := V.int .i64 (if 1099511627777 < (IntKind.i64.wrap ((IntKind.i64.wrap (x_544 + 1)) + v4_567)) then 1099511627777 else IntKind.i64.wrap ((IntKind.i64.wrap (x_544 + 1)) + v4_567))) (.fn rfl) ?_
            refine SafeOps.nil ?_
            repeat (first | refine Safe.seq ?_ | refine Safe.skip ?_ | with_reducible refine thenQ.n ?_ | with_reducible refine blockQ.n ?_)
            refine Safe.ret ?_
            repeat (first | with_reducible refine thenQ.r ?_ | with_reducible refine blockQ.r ?_)
            obtain rfl := Option.some.inj h
            refine siQ.gen (vs := [V.int .i64 (if 1099511627777 < (IntKind.i64.wrap ((IntKind.i64.wrap (x_544 + 1)) + v4_567)) then 1099511627777 else IntKind.i64.wrap ((IntKind.i64.wrap (x_544 + 1)) + v4_567))]) rfl (.tmp (v := V.int .i64 (if 1099511627777 < (IntKind.i64.wrap ((IntKind.i64.wrap (x_544 + 1)) + v4_567)) then 1099511627777 else IntKind.i64.wrap ((IntKind.i64.wrap (x_544 + 1)) + v4_567))) rfl .nil) rfl rfl ?_ (.inr rfl)
            exact ⟨rfl, trivial⟩
          · skip
            refine Safe.condN rfl hc573 ?_
            repeat (first | refine Safe.seq ?_ | refine Safe.skip ?_ | with_reducible refine thenQ.n ?_ | with_reducible refine blockQ.n ?_)
            refine Safe.region ?_
            refine SafeOps.quiet0 E_good rfl rfl rfl (v := V.bool (((gt (gt a0_499 a1_500) v9_568).Op) == 2)) (.fn rfl) ?_
            refine SafeOps.quiet0 E_good rfl rfl rfl (v := V.bool (((gt (gt a0_499 a1_500) v9_568).Op) == 2)) (.fn rfl) ?_
            refine SafeOps.nil ?_
            repeat (first | refine Safe.seq ?_ | refine Safe.skip ?_ | with_reducible refine thenQ.n ?_ | with_reducible refine blockQ.n ?_)
            refine ifG h (fun hc574 h => ?_) (fun hc574 h => ?_)
            · skip
              refine Safe.condK rfl hc574 ?_
              repeat (first | refine Safe.seq ?_ | refine Safe.skip ?_ | with_reducible refine thenQ.n ?_ | with_reducible refine blockQ.n ?_)
              refine Safe.region ?_
              refine SafeOps.quiet0 E_good rfl rfl rfl (v := V.int .i64 v4_567) (.fn rfl) ?_
              refine SafeOps.quiet0 E_good rfl rfl rfl (v := V.agg [V.sl 1 (rws (fun l => [V.sl 3 (rws api_Instr.cells l)]) a0_499), V.mapr [9]]) (.load rfl rfl (.box rfl rfl) rfl) ?_
              refine SafeOps.quiet0 E_good rfl rfl rfl (v := V.ptr [9999, 38, 6] 0 1) (.fn rfl) ?_
              refine SafeOps.quiet0 E_good rfl rfl rfl (v := V.int .i64 ((gt (gt a0_499 a1_500) v9_568).A)) (.load rfl rfl (.box rfl rfl) rfl) ?_
              refine bindG h ?_
              rintro ⟨x_575, m_576⟩ he577 h
              refine SafeOps.callI (obs := [([9], Go.AM.Obj.map (mps (fun n : Int => V.int .i64 n) (fun n : Int => V.int .i64 n) vm_569))]) (obs' := [([9], Go.AM.Obj.map (mps (fun n : Int => V.int .i64 n) (fun n : Int => V.int .i64 n) m_576))]) rfl rfl rfl rfl rfl (HR_rec_502 a0_499 ((gt (gt a0_499 a1_500) v9_568).A) vm_569 _ he577) (.map .nil) rfl ⟨rfl, trivial⟩ rfl rfl ?_
              refine SafeOps.quiet0 E_good rfl rfl rfl (v := V.int .i64 (IntKind.i64.wrap (v4_567 + x_575))) (.fn rfl) ?_
              refine SafeOps.quiet0 E_good rfl rfl rfl (v := V.int .i64 (if 1099511627777 < (IntKind.i64.wrap (v4_567 + x_575)) then 1099511627777 else IntKind.i64.wrap (v4_567 + x_575))) (.fn rfl) ?_
              refine SafeOps.quiet0 E_good rfl rfl rfl (v := V.int .i64 (if 1099511627777 < (IntKind.i64.wrap (v4_567 + x_575)) then 1099511627777 else IntKind.i64.wrap (v4_567 + x_575))) (.fn rfl) ?_
              refine SafeOps.nil ?_
              repeat (first | refine Safe.seq ?_ | refine Safe.skip ?_ | with_reducible refine thenQ.n ?_ | with_reducible refine blockQ.n ?_)
              refine Safe.region ?_
              refine SafeOps.quiet0 E_good rfl rfl rfl (v := V.int .i64 (IntKind.i64.wrap (v9_568 + 1))) (.fn rfl) ?_
              refine SafeOps.quiet0 E_good rfl rfl rfl (v := V.int .i64 (IntKind.i64.wrap (v9_568 + 1))) (.fn rfl) ?_
              refine SafeOps.nil ?_
              repeat (first | refine Safe.seq ?_ | refine Safe.skip ?_ | with_reducible refine thenQ.n ?_ | with_reducible refine blockQ.n ?_)
              exact ⟨_, next_out h, (.cov ⟨rfl, rfl, (upT_cons (.refl _) (upT_cons (.refl _) (upT_cons (.refl _) (upT_cons (.refl _) (upT_cons (.refl _) upT_nil))))), (upOb_cons rfl (.refl _) (upOb_cons rfl (.refl _) (upOb_cons rfl (.refl _) upOb_nil))), (upOut_cons rfl (upT_cons (.refl _) (upT_cons (.refl _) (upT_cons (.refl _) upT_nil))) (upOut_cons rfl (upT_cons (.refl _) upT_nil) upOut_nil)), rfl⟩)⟩
            · skip
              refine Safe.condN rfl hc574 ?_
              repeat (first | refine Safe.seq ?_ | refine Safe.skip ?_ | with_reducible refine thenQ.n ?_ | with_reducible refine blockQ.n ?_)
              refine Safe.region ?_
              refine SafeOps.quiet0 E_good rfl rfl rfl (v := V.int .i64 (IntKind.i64.wrap (v9_568 + 1))) (.fn rfl) ?_
              refine SafeOps.quiet0 E_good rfl rfl rfl (v := V.int .i64 (IntKind.i64.wrap (v9_568 + 1))) (.fn rfl) ?_
              refine SafeOps.nil ?_
              repeat (first | refine Safe.seq ?_ | refine Safe.skip ?_ | with_reducible refine thenQ.n ?_ | with_reducible refine blockQ.n ?_)
              exact ⟨_, next_out h, (.cov ⟨rfl, rfl, (upT_cons (.refl _) (upT_cons (.refl _) (upT_cons (.refl _) (upT_cons (.refl _) (upT_cons (.refl _) upT_nil))))), (upOb_cons rfl (.refl _) (upOb_cons rfl (.refl _) (upOb_cons rfl (.refl _) upOb_nil))), (upOut_cons rfl (upT_cons (.refl _) (upT_cons (.refl _) (upT_cons (.refl _) upT_nil))) (upOut_cons rfl (upT_cons (.refl _) upT_nil) upOut_nil)), rfl⟩)⟩
        · skip
          refine Safe.condN rfl hc571 ?_
          repeat (first | refine Safe.seq ?_ | refine Safe.skip ?_ | with_reducible refine thenQ.n ?_ | with_reducible refine blockQ.n ?_)
          refine Safe.exit ?_
          repeat (first | with_reducible refine thenQ.e ?_ | with_reducible refine blockQ.x rfl ?_ | with_reducible refine blockQ.y rfl ?_)
          replace h := inr_out h hr570
          repeat (first | refine Safe.seq ?_ | refine Safe.skip ?_ | with_reducible refine thenQ.n ?_ | with_reducible refine blockQ.n ?_)
          refine Safe.region ?_
          refine SafeOps.quiet0 E_good rfl rfl rfl (v := V.int .i64 v4_567) (.fn rfl) ?_
          refine SafeOps.quiet0 E_good rfl rfl rfl (v := V.int .i64 v4_567) (.fn rfl) ?_
          refine SafeOps.nil ?_
          repeat (first | refine Safe.seq ?_ | refine Safe.skip ?_ | with_reducible refine thenQ.n ?_ | with_reducible refine blockQ.n ?_)
          refine Safe.ret ?_
          repeat (first | with_reducible refine thenQ.r ?_ | with_reducible refine blockQ.r ?_)
          refine inQ.gen (vs := [V.int .i64 v4_567]) (v := V.int .i64 v4_567) (.inr rfl) rfl (.tmp (v := V.int .i64 v4_567) rfl .nil) rfl ?_
          refine SafeOps.nil ⟨rfl, ?_⟩
          refine DAny.take (i := 0) rfl (by kernel_rfl) [] (by kernel_rfl) (by kernel_rfl) (by kernel_rfl) rfl rfl rfl (v := V.int .i64 x_544) (fun _ hz => (.fn rfl)) ?_
          refine DAny.take (i := 1) rfl (by kernel_rfl) [] (by kernel_rfl) (by kernel_rfl) (by kernel_rfl) rfl rfl rfl (v := V.int .i64 (IntKind.i64.wrap (x_544 + 1))) (fun _ hz => (.fn rfl)) ?_
          refine DAny.take (i := 9) rfl (by kernel_rfl) [] (by kernel_rfl) (by kernel_rfl) (by kernel_rfl) rfl rfl rfl (v := V.int .i64 (IntKind.i64.wrap ((IntKind.i64.wrap (x_544 + 1)) + v4_567))) (fun _ hz => (.fn rfl)) ?_
          refine DAny.take (i := 10) rfl (by kernel_rfl) [] (by kernel_rfl) (by kernel_rfl) (by kernel_rfl) rfl rfl rfl (v := V.int .i64 (if 1099511627777 < (IntKind.i64.wrap ((IntKind.i64.wrap (x_544 + 1)) + v4_567)) then 1099511627777 else IntKind.i64.wrap ((IntKind.i64.wrap (x_544 + 1)) + v4_567))) (fun _ hz => (.fn rfl)) ?_
          refine DAny.take (i := 11) rfl (by kernel_rfl) [] (by kernel_rfl) (by kernel_rfl) (by kernel_rfl) rfl rfl rfl (v := V.int .i64 (if 1099511627777 < (IntKind.i64.wrap ((IntKind.i64.wrap (x_544 + 1)) + v4_567)) then 1099511627777 else IntKind.i64.wrap ((IntKind.i64.wrap (x_544 + 1)) + v4_567))) (fun _ hz => (.fn rfl)) ?_
          refine DAny.nil (by kernel_rfl) ?_
          repeat (first | refine Safe.seq ?_ | refine Safe.skip ?_ | with_reducible refine thenQ.n ?_ | with_reducible refine blockQ.n ?_)
          refine Safe.region ?_
          refine SafeOps.quiet0 E_good rfl rfl rfl (v := V.ptr [9999, 2] 0 1) (.fn rfl) ?_
          refine SafeOps.quiet0 E_good rfl rfl rfl (v := V.mapr [9]) (.load rfl rfl (.box rfl rfl) rfl) ?_
          refine SafeOps.quiet0 E_good rfl rfl rfl (v := V.int .i64 a1_500) (.fn rfl) ?_
          refine SafeOps.quiet0 E_good rfl rfl rfl (v := V.int .i64 (if 1099511627777 < (IntKind.i64.wrap ((IntKind.i64.wrap (x_544 + 1)) + v4_567)) then 1099511627777 else IntKind.i64.wrap ((IntKind.i64.wrap (x_544 + 1)) + v4_567))) (.fn rfl) ?_
          refine SafeOps.mputM (fun n : Int => V.int .i64 n) (fun n : Int => V.int .i64 n) vm_569 a1_500 (if 1099511627777 < (IntKind.i64.wrap ((IntKind.i64.wrap (x_544 + 1)) + v4_567)) then 1099511627777 else IntKind.i64.wrap ((IntKind.i64.wrap (x_544 + 1)) + v4_567)) E_good (keyI .i64) rfl (.inl rfl) rfl rfl rfl rfl rfl rfl rfl rfl rfl ?_
          refine SafeOps.nil ?_
          repeat (first | refine Safe.seq ?_ | refine Safe.skip ?_ | with_reducible refine thenQ.n ?_ | with_reducible refine blockQ.n ?_)
          refine Safe.region ?_
          refine SafeOps.quiet0 E_good rfl rfl rfl (v := V.int .i64 (if 1099511627777 < (IntKind.i64.wrap ((IntKind.i64.wrap (x_544 + 1)) + v4_567)) then 1099511627777 else IntKind.i64.wrap ((IntKind.i64.wrap (x_544 + 1)) + v4_567))) (.fn rfl) ?_
          refine SafeOps.quiet0 E_good rfl rfl rfl (v := V.int .i64 (if 1099511627777 < (IntKind.i64.wrap ((IntKind.i64.wrap (x_544 + 1)) + v4_567)) then 1099511627777 else IntKind.i64.wrap ((IntKind.i64.wrap (x_544 + 1)) + v4_567))) (.fn rfl) ?_
          refine SafeOps.nil ?_
          repeat (first | refine Safe.seq ?_ | refine Safe.skip ?_ | with_reducible refine thenQ.n ?_ | with_reducible refine blockQ.n ?_)
          refine Safe.ret ?_
          repeat (first | with_reducible refine thenQ.r ?_ | with_reducible refine blockQ.r ?_)
          obtain rfl := Option.some.inj h
          refine siQ.gen (vs := [V.int .i64 (if 1099511627777 < (IntKind.i64.wrap ((IntKind.i64.wrap (x_544 + 1)) + v4_567)) then 1099511627777 else IntKind.i64.wrap ((IntKind.i64.wrap (x_544 + 1)) + v4_567))]) rfl (.tmp (v := V.int .i64 (if 1099511627777 < (IntKind.i64.wrap ((IntKind.i64.wrap (x_544 + 1)) + v4_567)) then 1099511627777 else IntKind.i64.wrap ((IntKind.i64.wrap (x_544 + 1)) + v4_567))) rfl .nil) rfl rfl ?_ (.inr rfl)
          exact ⟨rfl, trivial⟩

noncomputable def go_drain_measure_full : Nat → (List (List api_Instr)) → Int → (List (Int × Int)) → Option (Int × (List (Int × Int)))
  | 0 => fun _ _ _ => none
  | n + 1 => go_drain_measure_full_b (go_drain_measure_full n)

theorem go_drain_measure_full_si : ∀ (n : Nat) (a0_499 : List (List api_Instr)) (a1_500 : Int) (m_501 : List (Int × Int)) (r : Int × (List (Int × Int))), go_drain_measure_full n a0_499 a1_500 m_501 = some r → SI Try.prog gl 11 [V.agg [V.sl 1 (rws (fun l => [V.sl 3 (rws api_Instr.cells l)]) a0_499), V.mapr [9]], V.int .i64 a1_500] [([9], Go.AM.Obj.map (mps (fun n : Int => V.int .i64 n) (fun n : Int => V.int .i64 n) m_501))] [([9], Go.AM.Obj.map (mps (fun n : Int => V.int .i64 n) (fun n : Int => V.int .i64 n) r.2))] (V.int .i64 r.1)
  | 0, _, _, _, _, h => by cases h
  | n + 1, a0_499, a1_500, m_501, r, h => go_drain_measure_full_b_si (go_drain_measure_full n) (go_drain_measure_full_si n) a0_499 a1_500 m_501 r h
end Go.Proofs.Ytmobjkihhbnkhaa
