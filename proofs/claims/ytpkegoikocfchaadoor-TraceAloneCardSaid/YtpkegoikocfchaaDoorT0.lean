/- Helper lemmas for the claim's theorem: an abstract machine over the model, proved sound; no condition beyond each lemma's own. -/
import Derived.Test.YtpkegoikocfchaaDoorSEnv
import Derived.Test.YtpkegoikocfchaaDoorAmK
set_option linter.unusedVariables false
set_option linter.unusedSimpArgs false
set_option linter.unnecessarySimpa false
set_option linter.unusedSectionVars false
namespace Go.Proofs.YtpkegoikocfchaaDoor
open Go Go.AM
set_option maxRecDepth 100000
set_option maxHeartbeats 1000000
set_option linter.unusedVariables false
set_option linter.unusedSimpArgs false
@[ext] structure api_Instr where
  Op : Int
  A : Int
  B : Int
  deriving Inhabited
def api_Instr.cells (x : api_Instr) : List V := [V.int .i64 x.Op, V.int .i64 x.A, V.int .i64 x.B]
def api_Instr.zero : api_Instr := ⟨0, 0, 0⟩
def api_Instr.beq (x y : api_Instr) : Bool := ((x.Op == y.Op) && ((x.A == y.A) && ((x.B == y.B) && true)))

@[ext] structure api_Event where
  Kind : Int
  Id : Int
  A : Int
  deriving Inhabited
def api_Event.cells (x : api_Event) : List V := [V.int .i64 x.Kind, V.int .i64 x.Id, V.int .i64 x.A]
def api_Event.zero : api_Event := ⟨0, 0, 0⟩
def api_Event.beq (x y : api_Event) : Bool := ((x.Kind == y.Kind) && ((x.Id == y.Id) && ((x.A == y.A) && true)))

def go_code_within (a0_26 : Int) (a1_27 : Int) : Bool :=
  ((decide (a0_26 ≥ 0)) && (decide (a0_26 < a1_27)))

theorem go_code_within_sc (a0_26 : Int) (a1_27 : Int) (r : Bool) (h : go_code_within a0_26 a1_27 = r) : SC Tryd.prog gl 46 [V.int .i64 a0_26, V.int .i64 a1_27] (V.bool r) := by
  rw [go_code_within] at h
  refine SC.of E_good Tryd.func46 rfl (fun _ _ => Tryd.call46 _ _) rfl ?_
  repeat (first | refine Safe.seq ?_ | refine Safe.skip ?_ | with_reducible refine thenQ.n ?_ | with_reducible refine blockQ.n ?_)
  refine Safe.region ?_
  refine SafeOps.quiet0 E_good rfl rfl rfl (v := V.bool false) (.fn rfl) ?_
  refine SafeOps.nil ?_
  repeat (first | refine Safe.seq ?_ | refine Safe.skip ?_ | with_reducible refine thenQ.n ?_ | with_reducible refine blockQ.n ?_)
  refine Safe.region ?_
  refine SafeOps.quiet0 E_good rfl rfl rfl (v := V.int .i64 a0_26) (.fn rfl) ?_
  refine SafeOps.quiet0 E_good rfl rfl rfl (v := V.bool (decide (a0_26 ≥ 0))) (.fn rfl) ?_
  refine SafeOps.quiet0 E_good rfl rfl rfl (v := V.bool (decide (a0_26 ≥ 0))) (.fn rfl) ?_
  refine SafeOps.bjoin 4 11 (b := ((decide (a0_26 ≥ 0)) && (decide (a0_26 < a1_27)))) (b1 := decide (a0_26 < a1_27)) (b0 := false) (fun hc29 K => ?_) (fun hc29 K => ?_) bj_and ?_
  · skip
    refine SafeOps.quiet0 E_good (congrArg some hc29) rfl rfl (v := V.int .i64 a0_26) (.fn rfl) ?_
    refine SafeOps.quiet0 E_good (congrArg some hc29) rfl rfl (v := V.int .i64 a1_27) (.fn rfl) ?_
    refine SafeOps.quiet0 E_good (congrArg some hc29) rfl rfl (v := V.bool (decide (a0_26 < a1_27))) (.fn rfl) ?_
    refine SafeOps.quiet0 E_good rfl rfl rfl (v := V.bool (decide (a0_26 < a1_27))) (.pickK rfl hc29 rfl) ?_
    exact SafeOps.drop' 4 rfl rfl rfl K
  · skip
    refine SafeOps.skip (congrArg some hc29) rfl rfl ?_
    refine SafeOps.skip (congrArg some hc29) rfl rfl ?_
    refine SafeOps.skip (congrArg some hc29) rfl rfl ?_
    refine SafeOps.quiet0 E_good rfl rfl rfl (v := V.bool false) (.pickK rfl hc29 rfl) ?_
    exact SafeOps.drop' 4 rfl rfl rfl K
  refine SafeOps.quiet0 E_good rfl rfl rfl (v := V.bool ((decide (a0_26 ≥ 0)) && (decide (a0_26 < a1_27)))) (.fn rfl) ?_
  refine SafeOps.nil ?_
  repeat (first | refine Safe.seq ?_ | refine Safe.skip ?_ | with_reducible refine thenQ.n ?_ | with_reducible refine blockQ.n ?_)
  refine Safe.ret ?_
  repeat (first | with_reducible refine thenQ.r ?_ | with_reducible refine blockQ.r ?_)
  obtain rfl := h
  exact retQ.gen (vs := [V.bool ((decide (a0_26 ≥ 0)) && (decide (a0_26 < a1_27)))]) rfl (.tmp (v := V.bool ((decide (a0_26 ≥ 0)) && (decide (a0_26 < a1_27)))) rfl .nil) (.free rfl) (by simp) (.inr rfl)

def go_code_odd_j2 (v3_72 : Bool) (v4_73 : Bool) : Bool :=
  ((!v3_72) || (!v4_73))

def go_code_odd_j4 (a0_24 : api_Instr) (v46_84 : Bool) : Bool :=
  if v46_84 = true then
    go_code_odd_j2 (go_code_within a0_24.A 8) (a0_24.B == 0)
  else
    true

def go_code_odd_j3 (a0_24 : api_Instr) (v27_78 : Bool) : Bool :=
  if v27_78 = true then
    go_code_odd_j2 (a0_24.A == 0) (a0_24.B == 0)
  else
    if (a0_24.Op == 4) = true then
      go_code_odd_j2 (go_code_within (IntKind.i64.wrap (a0_24.A - 1)) 1000) (a0_24.B == 0)
    else
      if (a0_24.Op == 5) = true then
        go_code_odd_j2 (go_code_within a0_24.A 16) (a0_24.B == 0)
      else
        if (a0_24.Op == 6) = true then
          go_code_odd_j2 (go_code_within a0_24.A 4) (a0_24.B == 0)
        else
          if (a0_24.Op == 7) = true then
            go_code_odd_j4 a0_24 (a0_24.Op == 7)
          else
            go_code_odd_j4 a0_24 (a0_24.Op == 8)

def go_code_odd (a0_24 : api_Instr) : Bool :=
  if (a0_24.Op == 1) = true then
    go_code_odd_j2 (go_code_within (IntKind.i64.wrap (a0_24.A - 1)) 100) (a0_24.B == 0)
  else
    if (a0_24.Op == 2) = true then
      go_code_odd_j2 (go_code_within a0_24.A 16) (go_code_within a0_24.B 4)
    else
      if (a0_24.Op == 3) = true then
        go_code_odd_j3 a0_24 (a0_24.Op == 3)
      else
        go_code_odd_j3 a0_24 (a0_24.Op == 9)

theorem go_code_odd_sc (a0_24 : api_Instr) (r : Bool) (h : go_code_odd a0_24 = r) : SC Tryd.prog gl 35 [V.agg [V.int .i64 a0_24.Op, V.int .i64 a0_24.A, V.int .i64 a0_24.B]] (V.bool r) := by
  rw [go_code_odd] at h
  refine SC.of E_good Tryd.func35 rfl (fun _ _ => Tryd.call35 _ _) rfl ?_
  repeat (first | refine Safe.seq ?_ | refine Safe.skip ?_ | with_reducible refine thenQ.n ?_ | with_reducible refine blockQ.n ?_)
  refine Safe.region ?_
  refine SafeOps.quiet1 E_good rfl rfl rfl (.box rfl rfl) rfl ?_
  refine SafeOps.quiet0 E_good rfl rfl rfl (v := V.bool false) (.fn rfl) ?_
  refine SafeOps.nil ?_
  repeat (first | refine Safe.seq ?_ | refine Safe.skip ?_ | with_reducible refine thenQ.n ?_ | with_reducible refine blockQ.n ?_)
  refine Safe.regionD (n := 8) [] [] E_good mixed rfl ?_
  refine DAny.take (i := 0) rfl (by kernel_rfl) [] (by kernel_rfl) (by kernel_rfl) (by kernel_rfl) rfl rfl rfl (v := V.ptr [1] 0 1) (fun _ hz => (.fn rfl)) ?_
  refine DAny.take (i := 1) rfl (by kernel_rfl) [] (by kernel_rfl) (by kernel_rfl) (by kernel_rfl) rfl rfl rfl (v := V.int .i64 a0_24.A) (fun _ hz => (.load rfl rfl (.box (hz _ _ rfl rfl) rfl) rfl)) ?_
  refine DAny.take (i := 2) rfl (by kernel_rfl) [] (by kernel_rfl) (by kernel_rfl) (by kernel_rfl) rfl rfl rfl (v := V.bool (a0_24.A == 0)) (fun _ hz => (.fn rfl)) ?_
  refine DAny.take (i := 3) rfl (by kernel_rfl) [] (by kernel_rfl) (by kernel_rfl) (by kernel_rfl) rfl rfl rfl (v := V.ptr [1] 0 2) (fun _ hz => (.fn rfl)) ?_
  refine DAny.take (i := 4) rfl (by kernel_rfl) [] (by kernel_rfl) (by kernel_rfl) (by kernel_rfl) rfl rfl rfl (v := V.int .i64 a0_24.B) (fun _ hz => (.load rfl rfl (.box (hz _ _ rfl rfl) rfl) rfl)) ?_
  refine DAny.take (i := 5) rfl (by kernel_rfl) [] (by kernel_rfl) (by kernel_rfl) (by kernel_rfl) rfl rfl rfl (v := V.bool (a0_24.B == 0)) (fun _ hz => (.fn rfl)) ?_
  refine DAny.take (i := 6) rfl (by kernel_rfl) [] (by kernel_rfl) (by kernel_rfl) (by kernel_rfl) rfl rfl rfl (v := V.bool (a0_24.A == 0)) (fun _ hz => (.fn rfl)) ?_
  refine DAny.take (i := 7) rfl (by kernel_rfl) [] (by kernel_rfl) (by kernel_rfl) (by kernel_rfl) rfl rfl rfl (v := V.bool (a0_24.B == 0)) (fun _ hz => (.fn rfl)) ?_
  refine DAny.nil (by kernel_rfl) ?_
  repeat (first | refine Safe.seq ?_ | refine Safe.skip ?_ | with_reducible refine thenQ.n ?_ | with_reducible refine blockQ.n ?_)
  refine Safe.region ?_
  refine SafeOps.quiet0 E_good rfl rfl rfl (v := V.ptr [1] 0 0) (.fn rfl) ?_
  refine SafeOps.quiet0 E_good rfl rfl rfl (v := V.int .i64 a0_24.Op) (.load rfl rfl (.box rfl rfl) rfl) ?_
  refine SafeOps.nil ?_
  repeat (first | refine Safe.seq ?_ | refine Safe.skip ?_ | with_reducible refine thenQ.n ?_ | with_reducible refine blockQ.n ?_)
  refine Safe.joinT (fun ((v3_72, v4_73) : Bool × Bool) => go_code_odd_j2 v3_72 v4_73 = r) (fun ((v3_72, v4_73) : Bool × Bool) => ⟨Tryd.f35.ntmps, [(3, V.bool v3_72), (4, V.bool v4_73)], [], [], []⟩) ?_ (fun HJ74 => ?_)
  · rintro ⟨v3_72, v4_73⟩ h
    replace h : go_code_odd_j2 v3_72 v4_73 = r := h
    rw [go_code_odd_j2] at h
    repeat (first | refine Safe.seq ?_ | refine Safe.skip ?_ | with_reducible refine thenQ.n ?_ | with_reducible refine blockQ.n ?_)
    refine Safe.region ?_
    refine SafeOps.quiet0 E_good rfl rfl rfl (v := V.bool v3_72) (.fn rfl) ?_
    refine SafeOps.quiet0 E_good rfl rfl rfl (v := V.bool (!v3_72)) (.fn rfl) ?_
    refine SafeOps.quiet0 E_good rfl rfl rfl (v := V.bool (!v3_72)) (.fn rfl) ?_
    refine SafeOps.bjoin 3 57 (b := ((!v3_72) || (!v4_73))) (b1 := true) (b0 := (!v4_73)) (fun hc75 K => ?_) (fun hc75 K => ?_) bj_or ?_
    · skip
      refine SafeOps.skip (congrArg (fun b => some (!b)) hc75) rfl rfl ?_
      refine SafeOps.skip (congrArg (fun b => some (!b)) hc75) rfl rfl ?_
      refine SafeOps.quiet0 E_good rfl rfl rfl (v := V.bool true) (.pickK rfl hc75 rfl) ?_
      exact SafeOps.drop' 3 rfl rfl rfl K
    · skip
      refine SafeOps.quiet0 E_good (congrArg (fun b => some (!b)) hc75) rfl rfl (v := V.bool v4_73) (.fn rfl) ?_
      refine SafeOps.quiet0 E_good (congrArg (fun b => some (!b)) hc75) rfl rfl (v := V.bool (!v4_73)) (.fn rfl) ?_
      refine SafeOps.quiet0 E_good rfl rfl rfl (v := V.bool (!v4_73)) (.pickK rfl hc75 rfl) ?_
      exact SafeOps.drop' 3 rfl rfl rfl K
    refine SafeOps.quiet0 E_good rfl rfl rfl (v := V.bool ((!v3_72) || (!v4_73))) (.fn rfl) ?_
    refine SafeOps.nil ?_
    repeat (first | refine Safe.seq ?_ | refine Safe.skip ?_ | with_reducible refine thenQ.n ?_ | with_reducible refine blockQ.n ?_)
    refine Safe.ret ?_
    repeat (first | with_reducible refine thenQ.r ?_ | with_reducible refine blockQ.r ?_)
    obtain rfl := h
    exact retQ.gen (vs := [V.bool ((!v3_72) || (!v4_73))]) rfl (.tmp (v := V.bool ((!v3_72) || (!v4_73))) rfl .nil) (.free rfl) (by simp) (.inr rfl)
  · skip
    refine Safe.block ?_
    repeat (first | refine Safe.seq ?_ | refine Safe.skip ?_ | with_reducible refine thenQ.n ?_ | with_reducible refine blockQ.n ?_)
    refine Safe.region ?_
    refine SafeOps.quiet0 E_good rfl rfl rfl (v := V.bool (a0_24.Op == 1)) (.fn rfl) ?_
    refine SafeOps.quiet0 E_good rfl rfl rfl (v := V.bool (a0_24.Op == 1)) (.fn rfl) ?_
    refine SafeOps.nil ?_
    repeat (first | refine Safe.seq ?_ | refine Safe.skip ?_ | with_reducible refine thenQ.n ?_ | with_reducible refine blockQ.n ?_)
    refine ifG h (fun hc76 h => ?_) (fun hc76 h => ?_)
    · skip
      refine Safe.condK rfl hc76 ?_
      repeat (first | refine Safe.seq ?_ | refine Safe.skip ?_ | with_reducible refine thenQ.n ?_ | with_reducible refine blockQ.n ?_)
      refine Safe.region ?_
      refine SafeOps.quiet0 E_good rfl rfl rfl (v := V.ptr [1] 0 1) (.fn rfl) ?_
      refine SafeOps.quiet0 E_good rfl rfl rfl (v := V.int .i64 a0_24.A) (.load rfl rfl (.box rfl rfl) rfl) ?_
      refine SafeOps.quiet0 E_good rfl rfl rfl (v := V.int .i64 (IntKind.i64.wrap (a0_24.A - 1))) (.fn rfl) ?_
      refine SafeOps.quiet0 E_good rfl rfl rfl (v := V.bool (go_code_within (IntKind.i64.wrap (a0_24.A - 1)) 100)) (.callP rfl rfl (go_code_within_sc (IntKind.i64.wrap (a0_24.A - 1)) 100 _ rfl) rfl) ?_
      refine SafeOps.quiet0 E_good rfl rfl rfl (v := V.bool (go_code_within (IntKind.i64.wrap (a0_24.A - 1)) 100)) (.fn rfl) ?_
      refine SafeOps.nil ?_
      repeat (first | refine Safe.skip ?_ | with_reducible refine thenQ.n ?_ | with_reducible refine blockQ.n ?_)
      exact Safe.got (HJ74 (go_code_within (IntKind.i64.wrap (a0_24.A - 1)) 100, (a0_24.B == 0)) h) (.cov ⟨rfl, rfl, (upT_cons (.refl _) (upT_cons (.refl _) upT_nil)), upOb_nil, upOut_nil, rfl⟩)
    · skip
      refine Safe.condN rfl hc76 ?_
      repeat (first | refine Safe.seq ?_ | refine Safe.skip ?_ | with_reducible refine thenQ.n ?_ | with_reducible refine blockQ.n ?_)
      refine Safe.region ?_
      refine SafeOps.quiet0 E_good rfl rfl rfl (v := V.bool (a0_24.Op == 2)) (.fn rfl) ?_
      refine SafeOps.quiet0 E_good rfl rfl rfl (v := V.bool (a0_24.Op == 2)) (.fn rfl) ?_
      refine SafeOps.nil ?_
      repeat (first | refine Safe.seq ?_ | refine Safe.skip ?_ | with_reducible refine thenQ.n ?_ | with_reducible refine blockQ.n ?_)
      refine ifG h (fun hc77 h => ?_) (fun hc77 h => ?_)
      · skip
        refine Safe.condK rfl hc77 ?_
        repeat (first | refine Safe.seq ?_ | refine Safe.skip ?_ | with_reducible refine thenQ.n ?_ | with_reducible refine blockQ.n ?_)
        refine Safe.regionD (n := 8) [] [] E_good mixed rfl ?_
        refine DAny.take (i := 0) rfl (by kernel_rfl) [] (by kernel_rfl) (by kernel_rfl) (by kernel_rfl) rfl rfl rfl (v := V.ptr [1] 0 1) (fun _ hz => (.fn rfl)) ?_
        refine DAny.take (i := 1) rfl (by kernel_rfl) [] (by kernel_rfl) (by kernel_rfl) (by kernel_rfl) rfl rfl rfl (v := V.int .i64 a0_24.A) (fun _ hz => (.load rfl rfl (.box (hz _ _ rfl rfl) rfl) rfl)) ?_
        refine DAny.take (i := 2) rfl (by kernel_rfl) [] (by kernel_rfl) (by kernel_rfl) (by kernel_rfl) rfl rfl rfl (v := V.bool (go_code_within a0_24.A 16)) (fun _ hz => (.callP rfl rfl (go_code_within_sc a0_24.A 16 _ rfl) rfl)) ?_
        refine DAny.take (i := 3) rfl (by kernel_rfl) [] (by kernel_rfl) (by kernel_rfl) (by kernel_rfl) rfl rfl rfl (v := V.ptr [1] 0 2) (fun _ hz => (.fn rfl)) ?_
        refine DAny.take (i := 4) rfl (by kernel_rfl) [] (by kernel_rfl) (by kernel_rfl) (by kernel_rfl) rfl rfl rfl (v := V.int .i64 a0_24.B) (fun _ hz => (.load rfl rfl (.box (hz _ _ rfl rfl) rfl) rfl)) ?_
        refine DAny.take (i := 5) rfl (by kernel_rfl) [] (by kernel_rfl) (by kernel_rfl) (by kernel_rfl) rfl rfl rfl (v := V.bool (go_code_within a0_24.B 4)) (fun _ hz => (.callP rfl rfl (go_code_within_sc a0_24.B 4 _ rfl) rfl)) ?_
        refine DAny.take (i := 6) rfl (by kernel_rfl) [] (by kernel_rfl) (by kernel_rfl) (by kernel_rfl) rfl rfl rfl (v := V.bool (go_code_within a0_24.A 16)) (fun _ hz => (.fn rfl)) ?_
        refine DAny.take (i := 7) rfl (by kernel_rfl) [] (by kernel_rfl) (by kernel_rfl) (by kernel_rfl) rfl rfl rfl (v := V.bool (go_code_within a0_24.B 4)) (fun _ hz => (.fn rfl)) ?_
        refine DAny.nil (by kernel_rfl) ?_
        repeat (first | refine Safe.skip ?_ | with_reducible refine thenQ.n ?_ | with_reducible refine blockQ.n ?_)
        exact Safe.got (HJ74 (go_code_within a0_24.A 16, go_code_within a0_24.B 4) h) (.cov ⟨rfl, rfl, (upT_cons (.refl _) (upT_cons (.refl _) upT_nil)), upOb_nil, upOut_nil, rfl⟩)
      · skip
        refine Safe.condN rfl hc77 ?_
        repeat (first | refine Safe.seq ?_ | refine Safe.skip ?_ | with_reducible refine thenQ.n ?_ | with_reducible refine blockQ.n ?_)
        refine Safe.region ?_
        refine SafeOps.quiet0 E_good rfl rfl rfl (v := V.bool (a0_24.Op == 3)) (.fn rfl) ?_
        refine SafeOps.quiet0 E_good rfl rfl rfl (v := V.bool (a0_24.Op == 3)) (.fn rfl) ?_
        refine SafeOps.nil ?_
        repeat (first | refine Safe.seq ?_ | refine Safe.skip ?_ | with_reducible refine thenQ.n ?_ | with_reducible refine blockQ.n ?_)
        refine Safe.joinT (fun (v27_78 : Bool) => go_code_odd_j3 a0_24 v27_78 = r) (fun (v27_78 : Bool) => ⟨Tryd.f35.ntmps, [(1, V.ptr [1] 0 0), (3, V.bool (a0_24.A == 0)), (4, V.bool (a0_24.B == 0)), (12, V.int .i64 a0_24.Op), (27, V.bool v27_78)], [([1], Obj.box [V.int .i64 a0_24.Op, V.int .i64 a0_24.A, V.int .i64 a0_24.B])], [], []⟩) ?_ (fun HJ79 => ?_)
        · intro v27_78 h
          replace h : go_code_odd_j3 a0_24 v27_78 = r := h
          rw [go_code_odd_j3] at h
          repeat (first | refine Safe.seq ?_ | refine Safe.skip ?_ | with_reducible refine thenQ.n ?_ | with_reducible refine blockQ.n ?_)
          refine ifG h (fun hc80 h => ?_) (fun hc80 h => ?_)
          · skip
            refine Safe.condK rfl hc80 ?_
            repeat (first | refine Safe.skip ?_ | with_reducible refine thenQ.n ?_ | with_reducible refine blockQ.n ?_)
            exact Safe.got (HJ74 ((a0_24.A == 0), (a0_24.B == 0)) h) (.cov ⟨rfl, rfl, (upT_cons (.refl _) (upT_cons (.refl _) upT_nil)), upOb_nil, upOut_nil, rfl⟩)
          · skip
            refine Safe.condN rfl hc80 ?_
            repeat (first | refine Safe.seq ?_ | refine Safe.skip ?_ | with_reducible refine thenQ.n ?_ | with_reducible refine blockQ.n ?_)
            refine Safe.region ?_
            refine SafeOps.quiet0 E_good rfl rfl rfl (v := V.bool (a0_24.Op == 4)) (.fn rfl) ?_
            refine SafeOps.quiet0 E_good rfl rfl rfl (v := V.bool (a0_24.Op == 4)) (.fn rfl) ?_
            refine SafeOps.nil ?_
            repeat (first | refine Safe.seq ?_ | refine Safe.skip ?_ | with_reducible refine thenQ.n ?_ | with_reducible refine blockQ.n ?_)
            refine ifG h (fun hc81 h => ?_) (fun hc81 h => ?_)
            · skip
              refine Safe.condK rfl hc81 ?_
              repeat (first | refine Safe.seq ?_ | refine Safe.skip ?_ | with_reducible refine thenQ.n ?_ | with_reducible refine blockQ.n ?_)
              refine Safe.region ?_
              refine SafeOps.quiet0 E_good rfl rfl rfl (v := V.ptr [1] 0 1) (.fn rfl) ?_
              refine SafeOps.quiet0 E_good rfl rfl rfl (v := V.int .i64 a0_24.A) (.load rfl rfl (.box rfl rfl) rfl) ?_
              refine SafeOps.quiet0 E_good rfl rfl rfl (v := V.int .i64 (IntKind.i64.wrap (a0_24.A - 1))) (.fn rfl) ?_
              refine SafeOps.quiet0 E_good rfl rfl rfl (v := V.bool (go_code_within (IntKind.i64.wrap (a0_24.A - 1)) 1000)) (.callP rfl rfl (go_code_within_sc (IntKind.i64.wrap (a0_24.A - 1)) 1000 _ rfl) rfl) ?_
              refine SafeOps.quiet0 E_good rfl rfl rfl (v := V.bool (go_code_within (IntKind.i64.wrap (a0_24.A - 1)) 1000)) (.fn rfl) ?_
              refine SafeOps.nil ?_
              repeat (first | refine Safe.skip ?_ | with_reducible refine thenQ.n ?_ | with_reducible refine blockQ.n ?_)
              exact Safe.got (HJ74 (go_code_within (IntKind.i64.wrap (a0_24.A - 1)) 1000, (a0_24.B == 0)) h) (.cov ⟨rfl, rfl, (upT_cons (.refl _) (upT_cons (.refl _) upT_nil)), upOb_nil, upOut_nil, rfl⟩)
            · skip
              refine Safe.condN rfl hc81 ?_
              repeat (first | refine Safe.seq ?_ | refine Safe.skip ?_ | with_reducible refine thenQ.n ?_ | with_reducible refine blockQ.n ?_)
              refine Safe.region ?_
              refine SafeOps.quiet0 E_good rfl rfl rfl (v := V.bool (a0_24.Op == 5)) (.fn rfl) ?_
              refine SafeOps.quiet0 E_good rfl rfl rfl (v := V.bool (a0_24.Op == 5)) (.fn rfl) ?_
              refine SafeOps.nil ?_
              repeat (first | refine Safe.seq ?_ | refine Safe.skip ?_ | with_reducible refine thenQ.n ?_ | with_reducible refine blockQ.n ?_)
              refine ifG h (fun hc82 h => ?_) (fun hc82 h => ?_)
              · skip
                refine Safe.condK rfl hc82 ?_
                repeat (first | refine Safe.seq ?_ | refine Safe.skip ?_ | with_reducible refine thenQ.n ?_ | with_reducible refine blockQ.n ?_)
                refine Safe.region ?_
                refine SafeOps.quiet0 E_good rfl rfl rfl (v := V.ptr [1] 0 1) (.fn rfl) ?_
                refine SafeOps.quiet0 E_good rfl rfl rfl (v := V.int .i64 a0_24.A) (.load rfl rfl (.box rfl rfl) rfl) ?_
                refine SafeOps.quiet0 E_good rfl rfl rfl (v := V.bool (go_code_within a0_24.A 16)) (.callP rfl rfl (go_code_within_sc a0_24.A 16 _ rfl) rfl) ?_
                refine SafeOps.quiet0 E_good rfl rfl rfl (v := V.bool (go_code_within a0_24.A 16)) (.fn rfl) ?_
                refine SafeOps.nil ?_
                repeat (first | refine Safe.skip ?_ | with_reducible refine thenQ.n ?_ | with_reducible refine blockQ.n ?_)
                exact Safe.got (HJ74 (go_code_within a0_24.A 16, (a0_24.B == 0)) h) (.cov ⟨rfl, rfl, (upT_cons (.refl _) (upT_cons (.refl _) upT_nil)), upOb_nil, upOut_nil, rfl⟩)
              · skip
                refine Safe.condN rfl hc82 ?_
                repeat (first | refine Safe.seq ?_ | refine Safe.skip ?_ | with_reducible refine thenQ.n ?_ | with_reducible refine blockQ.n ?_)
                refine Safe.region ?_
                refine SafeOps.quiet0 E_good rfl rfl rfl (v := V.bool (a0_24.Op == 6)) (.fn rfl) ?_
                refine SafeOps.quiet0 E_good rfl rfl rfl (v := V.bool (a0_24.Op == 6)) (.fn rfl) ?_
                refine SafeOps.nil ?_
                repeat (first | refine Safe.seq ?_ | refine Safe.skip ?_ | with_reducible refine thenQ.n ?_ | with_reducible refine blockQ.n ?_)
                refine ifG h (fun hc83 h => ?_) (fun hc83 h => ?_)
                · skip
                  refine Safe.condK rfl hc83 ?_
                  repeat (first | refine Safe.seq ?_ | refine Safe.skip ?_ | with_reducible refine thenQ.n ?_ | with_reducible refine blockQ.n ?_)
                  refine Safe.region ?_
                  refine SafeOps.quiet0 E_good rfl rfl rfl (v := V.ptr [1] 0 1) (.fn rfl) ?_
                  refine SafeOps.quiet0 E_good rfl rfl rfl (v := V.int .i64 a0_24.A) (.load rfl rfl (.box rfl rfl) rfl) ?_
                  refine SafeOps.quiet0 E_good rfl rfl rfl (v := V.bool (go_code_within a0_24.A 4)) (.callP rfl rfl (go_code_within_sc a0_24.A 4 _ rfl) rfl) ?_
                  refine SafeOps.quiet0 E_good rfl rfl rfl (v := V.bool (go_code_within a0_24.A 4)) (.fn rfl) ?_
                  refine SafeOps.nil ?_
                  repeat (first | refine Safe.skip ?_ | with_reducible refine thenQ.n ?_ | with_reducible refine blockQ.n ?_)
                  exact Safe.got (HJ74 (go_code_within a0_24.A 4, (a0_24.B == 0)) h) (.cov ⟨rfl, rfl, (upT_cons (.refl _) (upT_cons (.refl _) upT_nil)), upOb_nil, upOut_nil, rfl⟩)
                · skip
                  refine Safe.condN rfl hc83 ?_
                  repeat (first | refine Safe.seq ?_ | refine Safe.skip ?_ | with_reducible refine thenQ.n ?_ | with_reducible refine blockQ.n ?_)
                  refine Safe.region ?_
                  refine SafeOps.quiet0 E_good rfl rfl rfl (v := V.bool (a0_24.Op == 7)) (.fn rfl) ?_
                  refine SafeOps.quiet0 E_good rfl rfl rfl (v := V.bool (a0_24.Op == 7)) (.fn rfl) ?_
                  refine SafeOps.nil ?_
                  repeat (first | refine Safe.seq ?_ | refine Safe.skip ?_ | with_reducible refine thenQ.n ?_ | with_reducible refine blockQ.n ?_)
                  refine Safe.joinT (fun (v46_84 : Bool) => go_code_odd_j4 a0_24 v46_84 = r) (fun (v46_84 : Bool) => ⟨Tryd.f35.ntmps, [(1, V.ptr [1] 0 0), (4, V.bool (a0_24.B == 0)), (46, V.bool v46_84)], [([1], Obj.box [V.int .i64 a0_24.Op, V.int .i64 a0_24.A, V.int .i64 a0_24.B])], [], []⟩) ?_ (fun HJ85 => ?_)
                  · intro v46_84 h
                    replace h : go_code_odd_j4 a0_24 v46_84 = r := h
                    rw [go_code_odd_j4] at h
                    repeat (first | refine Safe.seq ?_ | refine Safe.skip ?_ | with_reducible refine thenQ.n ?_ | with_reducible refine blockQ.n ?_)
                    refine ifG h (fun hc86 h => ?_) (fun hc86 h => ?_)
                    · skip
                      refine Safe.condK rfl hc86 ?_
                      repeat (first | refine Safe.seq ?_ | refine Safe.skip ?_ | with_reducible refine thenQ.n ?_ | with_reducible refine blockQ.n ?_)
                      refine Safe.region ?_
                      refine SafeOps.quiet0 E_good rfl rfl rfl (v := V.ptr [1] 0 1) (.fn rfl) ?_
                      refine SafeOps.quiet0 E_good rfl rfl rfl (v := V.int .i64 a0_24.A) (.load rfl rfl (.box rfl rfl) rfl) ?_
                      refine SafeOps.quiet0 E_good rfl rfl rfl (v := V.bool (go_code_within a0_24.A 8)) (.callP rfl rfl (go_code_within_sc a0_24.A 8 _ rfl) rfl) ?_
                      refine SafeOps.quiet0 E_good rfl rfl rfl (v := V.bool (go_code_within a0_24.A 8)) (.fn rfl) ?_
                      refine SafeOps.nil ?_
                      repeat (first | refine Safe.skip ?_ | with_reducible refine thenQ.n ?_ | with_reducible refine blockQ.n ?_)
                      exact Safe.got (HJ74 (go_code_within a0_24.A 8, (a0_24.B == 0)) h) (.cov ⟨rfl, rfl, (upT_cons (.refl _) (upT_cons (.refl _) upT_nil)), upOb_nil, upOut_nil, rfl⟩)
                    · skip
                      refine Safe.condN rfl hc86 ?_
                      repeat (first | refine Safe.seq ?_ | refine Safe.skip ?_ | with_reducible refine thenQ.n ?_ | with_reducible refine blockQ.n ?_)
                      refine Safe.region ?_
                      refine SafeOps.quiet0 E_good rfl rfl rfl (v := V.bool true) (.fn rfl) ?_
                      refine SafeOps.nil ?_
                      repeat (first | refine Safe.seq ?_ | refine Safe.skip ?_ | with_reducible refine thenQ.n ?_ | with_reducible refine blockQ.n ?_)
                      refine Safe.ret ?_
                      repeat (first | with_reducible refine thenQ.r ?_ | with_reducible refine blockQ.r ?_)
                      obtain rfl := h
                      exact retQ.gen (vs := [V.bool true]) rfl (.tmp (v := V.bool true) rfl .nil) (.free rfl) (by simp) (.inr rfl)
                  · skip
                    refine ifG h (fun hc87 h => ?_) (fun hc87 h => ?_)
                    · skip
                      refine Safe.condK rfl hc87 ?_
                      repeat (first | refine Safe.skip ?_ | with_reducible refine thenQ.n ?_ | with_reducible refine blockQ.n ?_)
                      exact Safe.got (HJ85 ((a0_24.Op == 7)) h) (.cov ⟨rfl, rfl, (upT_cons (.refl _) (upT_cons (.refl _) (upT_cons (.refl _) upT_nil))), (upOb_cons rfl (.refl _) upOb_nil), upOut_nil, rfl⟩)
                    · skip
                      refine Safe.condN rfl hc87 ?_
                      repeat (first | refine Safe.seq ?_ | refine Safe.skip ?_ | with_reducible refine thenQ.n ?_ | with_reducible refine blockQ.n ?_)
                      refine Safe.region ?_
                      refine SafeOps.quiet0 E_good rfl rfl rfl (v := V.bool (a0_24.Op == 8)) (.fn rfl) ?_
                      refine SafeOps.quiet0 E_good rfl rfl rfl (v := V.bool (a0_24.Op == 8)) (.fn rfl) ?_
                      refine SafeOps.nil ?_
                      repeat (first | refine Safe.skip ?_ | with_reducible refine thenQ.n ?_ | with_reducible refine blockQ.n ?_)
                      exact Safe.got (HJ85 ((a0_24.Op == 8)) h) (.cov ⟨rfl, rfl, (upT_cons (.refl _) (upT_cons (.refl _) (upT_cons (.refl _) upT_nil))), (upOb_cons rfl (.refl _) upOb_nil), upOut_nil, rfl⟩)
        · skip
          refine ifG h (fun hc88 h => ?_) (fun hc88 h => ?_)
          · skip
            refine Safe.condK rfl hc88 ?_
            repeat (first | refine Safe.skip ?_ | with_reducible refine thenQ.n ?_ | with_reducible refine blockQ.n ?_)
            exact Safe.got (HJ79 ((a0_24.Op == 3)) h) (.cov ⟨rfl, rfl, (upT_cons (.refl _) (upT_cons (.refl _) (upT_cons (.refl _) (upT_cons (.refl _) (upT_cons (.refl _) upT_nil))))), (upOb_cons rfl (.refl _) upOb_nil), upOut_nil, rfl⟩)
          · skip
            refine Safe.condN rfl hc88 ?_
            repeat (first | refine Safe.seq ?_ | refine Safe.skip ?_ | with_reducible refine thenQ.n ?_ | with_reducible refine blockQ.n ?_)
            refine Safe.region ?_
            refine SafeOps.quiet0 E_good rfl rfl rfl (v := V.bool (a0_24.Op == 9)) (.fn rfl) ?_
            refine SafeOps.quiet0 E_good rfl rfl rfl (v := V.bool (a0_24.Op == 9)) (.fn rfl) ?_
            refine SafeOps.nil ?_
            repeat (first | refine Safe.skip ?_ | with_reducible refine thenQ.n ?_ | with_reducible refine blockQ.n ?_)
            exact Safe.got (HJ79 ((a0_24.Op == 9)) h) (.cov ⟨rfl, rfl, (upT_cons (.refl _) (upT_cons (.refl _) (upT_cons (.refl _) (upT_cons (.refl _) (upT_cons (.refl _) upT_nil))))), (upOb_cons rfl (.refl _) upOb_nil), upOut_nil, rfl⟩)

noncomputable def go_slices_IndexFunc_api_Instr_api_Instr_odd35_s1 (a0_20 : List api_Instr) : (Int) → Option ((Int) ⊕ (Int))
  | v8_106 =>
    if (decide (v8_106 < (a0_20.length : Int))) = true then
      if 0 ≤ v8_106 ∧ v8_106 < (a0_20.length : Int) then
        if (go_code_odd (gt a0_20 v8_106)) = true then
          inrO (
            some v8_106)
        else
          nextO (IntKind.i64.wrap (v8_106 + 1))
      else none
    else
      inrO (
        some (-1))

noncomputable def go_slices_IndexFunc_api_Instr_api_Instr_odd35 (a0_20 : List api_Instr) : Option Int :=
  whileO (go_slices_IndexFunc_api_Instr_api_Instr_odd35_s1 a0_20) 0

theorem go_slices_IndexFunc_api_Instr_api_Instr_odd35_sc (a0_20 : List api_Instr) (r : Int) (h : go_slices_IndexFunc_api_Instr_api_Instr_odd35 a0_20 = some r) : SC Tryd.prog gl 36 [V.sl 3 (rws api_Instr.cells a0_20), V.fn 35 []] (V.int .i64 r) := by
  rw [go_slices_IndexFunc_api_Instr_api_Instr_odd35] at h
  refine SC.of E_good Tryd.func36 rfl (fun _ _ => Tryd.call36 _ _) rfl ?_
  repeat (first | refine Safe.seq ?_ | refine Safe.skip ?_ | with_reducible refine thenQ.n ?_ | with_reducible refine blockQ.n ?_)
  refine Safe.region ?_
  refine SafeOps.quiet0 E_good rfl rfl rfl (v := V.int .i64 0) (.fn rfl) ?_
  refine SafeOps.nil ?_
  repeat (first | refine Safe.seq ?_ | refine Safe.skip ?_ | with_reducible refine thenQ.n ?_ | with_reducible refine blockQ.n ?_)
  refine Safe.region ?_
  refine SafeOps.quiet0 E_good rfl rfl rfl (v := V.sl 3 (rws api_Instr.cells a0_20)) (.fn rfl) ?_
  refine SafeOps.quiet0 E_good rfl rfl rfl (v := V.int .i64 (a0_20.length : Int)) (.fnE rfl lenE) ?_
  refine SafeOps.quiet0 E_good rfl rfl rfl (v := V.int .i64 0) (.fn rfl) ?_
  refine SafeOps.nil ?_
  repeat (first | refine Safe.seq ?_ | refine Safe.skip ?_ | with_reducible refine thenQ.n ?_ | with_reducible refine blockQ.n ?_)
  refine Safe.block ?_
  repeat (first | refine Safe.seq ?_ | refine Safe.skip ?_ | with_reducible refine thenQ.n ?_ | with_reducible refine blockQ.n ?_)
  refine Safe.loopW (fun (v8_106 : Int) => ⟨Tryd.f36.ntmps, [(0, V.sl 3 (rws api_Instr.cells a0_20)), (1, V.fn 35 []), (7, V.int .i64 (a0_20.length : Int)), (8, V.int .i64 v8_106)], [], [], []⟩) h (.cov ⟨rfl, rfl, (upT_cons (.refl _) (upT_cons (.refl _) (upT_cons (.refl _) (upT_cons (.refl _) upT_nil)))), upOb_nil, upOut_nil, rfl⟩) ?_
  intro v8_106 ohr107 h hr107
  replace h : go_slices_IndexFunc_api_Instr_api_Instr_odd35_s1 a0_20 v8_106 = some ohr107 := h
  rw [go_slices_IndexFunc_api_Instr_api_Instr_odd35_s1] at h
  repeat (first | refine Safe.seq ?_ | refine Safe.skip ?_ | with_reducible refine thenQ.n ?_ | with_reducible refine blockQ.n ?_)
  refine Safe.region ?_
  refine SafeOps.quiet0 E_good rfl rfl rfl (v := V.bool (decide (v8_106 < (a0_20.length : Int)))) (.fn rfl) ?_
  refine SafeOps.nil ?_
  repeat (first | refine Safe.seq ?_ | refine Safe.skip ?_ | with_reducible refine thenQ.n ?_ | with_reducible refine blockQ.n ?_)
  refine ifG h (fun hc108 h => ?_) (fun hc108 h => ?_)
  · skip
    refine Safe.condK rfl hc108 ?_
    repeat (first | refine Safe.seq ?_ | refine Safe.skip ?_ | with_reducible refine thenQ.n ?_ | with_reducible refine blockQ.n ?_)
    refine Safe.block ?_
    repeat (first | refine Safe.seq ?_ | refine Safe.skip ?_ | with_reducible refine thenQ.n ?_ | with_reducible refine blockQ.n ?_)
    refine Safe.region ?_
    refine SafeOps.quiet0 E_good rfl rfl rfl (v := V.int .i64 v8_106) (.fn rfl) ?_
    refine SafeOps.quiet0 E_good rfl rfl rfl (v := V.int .i64 v8_106) (.fn rfl) ?_
    refine SafeOps.nil ?_
    repeat (first | refine Safe.seq ?_ | refine Safe.skip ?_ | with_reducible refine thenQ.n ?_ | with_reducible refine blockQ.n ?_)
    refine Safe.region ?_
    refine SafeOps.quiet0 E_good rfl rfl rfl (v := V.fn 35 []) (.fn rfl) ?_
    refine SafeOps.quiet0 E_good rfl rfl rfl (v := V.sl 3 (rws api_Instr.cells a0_20)) (.fn rfl) ?_
    refine SafeOps.quiet0 E_good rfl rfl rfl (v := V.int .i64 v8_106) (.fn rfl) ?_
    refine okG h (fun hb109 h => ?_)
    refine SafeOps.quiet0 E_good rfl rfl rfl (v := V.spt 3 (rws api_Instr.cells a0_20) (Int.toNat v8_106) 0) (.idxSlM (f := api_Instr.cells) rfl rfl rfl rfl rfl hb109) ?_
    refine SafeOps.quiet0 E_good rfl rfl rfl (v := V.agg [V.int .i64 ((gt a0_20 v8_106).Op), V.int .i64 ((gt a0_20 v8_106).A), V.int .i64 ((gt a0_20 v8_106).B)]) (.load rfl rfl (.sptM (f := api_Instr.cells) hb109 rfl) rfl) ?_
    refine SafeOps.quiet0 E_good rfl rfl rfl (v := V.bool (go_code_odd (gt a0_20 v8_106))) (.callP rfl rfl (go_code_odd_sc (gt a0_20 v8_106) _ rfl) rfl) ?_
    refine SafeOps.nil ?_
    repeat (first | refine Safe.seq ?_ | refine Safe.skip ?_ | with_reducible refine thenQ.n ?_ | with_reducible refine blockQ.n ?_)
    refine ifG h (fun hc110 h => ?_) (fun hc110 h => ?_)
    · skip
      refine Safe.condK rfl hc110 ?_
      repeat (first | refine Safe.seq ?_ | refine Safe.skip ?_ | with_reducible refine thenQ.n ?_ | with_reducible refine blockQ.n ?_)
      refine Safe.region ?_
      refine SafeOps.quiet0 E_good rfl rfl rfl (v := V.int .i64 v8_106) (.fn rfl) ?_
      refine SafeOps.quiet0 E_good rfl rfl rfl (v := V.int .i64 v8_106) (.fn rfl) ?_
      refine SafeOps.nil ?_
      repeat (first | refine Safe.seq ?_ | refine Safe.skip ?_ | with_reducible refine thenQ.n ?_ | with_reducible refine blockQ.n ?_)
      refine Safe.ret ?_
      repeat (first | with_reducible refine thenQ.r ?_ | with_reducible refine blockQ.r ?_)
      replace h := inr_out h hr107
      obtain rfl := Option.some.inj h
      exact retQ.gen (vs := [V.int .i64 v8_106]) rfl (.tmp (v := V.int .i64 v8_106) rfl .nil) (.free rfl) (by simp) (.inr rfl)
    · skip
      refine Safe.condN rfl hc110 ?_
      repeat (first | refine Safe.seq ?_ | refine Safe.skip ?_ | with_reducible refine thenQ.n ?_ | with_reducible refine blockQ.n ?_)
      refine Safe.region ?_
      refine SafeOps.quiet0 E_good rfl rfl rfl (v := V.int .i64 (IntKind.i64.wrap (v8_106 + 1))) (.fn rfl) ?_
      refine SafeOps.quiet0 E_good rfl rfl rfl (v := V.int .i64 (IntKind.i64.wrap (v8_106 + 1))) (.fn rfl) ?_
      refine SafeOps.nil ?_
      repeat (first | refine Safe.seq ?_ | refine Safe.skip ?_ | with_reducible refine thenQ.n ?_ | with_reducible refine blockQ.n ?_)
      exact ⟨_, next_out h, (.cov ⟨rfl, rfl, (upT_cons (.refl _) (upT_cons (.refl _) (upT_cons (.refl _) (upT_cons (.refl _) upT_nil)))), upOb_nil, upOut_nil, rfl⟩)⟩
  · skip
    refine Safe.condN rfl hc108 ?_
    repeat (first | refine Safe.seq ?_ | refine Safe.skip ?_ | with_reducible refine thenQ.n ?_ | with_reducible refine blockQ.n ?_)
    refine Safe.exit ?_
    repeat (first | with_reducible refine thenQ.e ?_ | with_reducible refine blockQ.x rfl ?_ | with_reducible refine blockQ.y rfl ?_)
    replace h := inr_out h hr107
    repeat (first | refine Safe.seq ?_ | refine Safe.skip ?_ | with_reducible refine thenQ.n ?_ | with_reducible refine blockQ.n ?_)
    refine Safe.region ?_
    refine SafeOps.quiet0 E_good rfl rfl rfl (v := V.int .i64 (-1)) (.fn rfl) ?_
    refine SafeOps.nil ?_
    repeat (first | refine Safe.seq ?_ | refine Safe.skip ?_ | with_reducible refine thenQ.n ?_ | with_reducible refine blockQ.n ?_)
    refine Safe.ret ?_
    repeat (first | with_reducible refine thenQ.r ?_ | with_reducible refine blockQ.r ?_)
    obtain rfl := Option.some.inj h
    exact retQ.gen (vs := [V.int .i64 (-1)]) rfl (.tmp (v := V.int .i64 (-1)) rfl .nil) (.free rfl) (by simp) (.inr rfl)

noncomputable def go_slices_ContainsFunc_api_Instr_api_Instr_odd35 (a0_19 : List api_Instr) : Option Bool :=
  (go_slices_IndexFunc_api_Instr_api_Instr_odd35 a0_19).bind fun x_113 =>
  some (decide (x_113 ≥ 0))

theorem go_slices_ContainsFunc_api_Instr_api_Instr_odd35_sc (a0_19 : List api_Instr) (r : Bool) (h : go_slices_ContainsFunc_api_Instr_api_Instr_odd35 a0_19 = some r) : SC Tryd.prog gl 28 [V.sl 3 (rws api_Instr.cells a0_19), V.fn 35 []] (V.bool r) := by
  rw [go_slices_ContainsFunc_api_Instr_api_Instr_odd35] at h
  refine SC.of E_good Tryd.func28 rfl (fun _ _ => Tryd.call28 _ _) rfl ?_
  repeat (first | refine Safe.seq ?_ | refine Safe.skip ?_ | with_reducible refine thenQ.n ?_ | with_reducible refine blockQ.n ?_)
  refine Safe.region ?_
  refine SafeOps.quiet0 E_good rfl rfl rfl (v := V.bool false) (.fn rfl) ?_
  refine SafeOps.nil ?_
  repeat (first | refine Safe.seq ?_ | refine Safe.skip ?_ | with_reducible refine thenQ.n ?_ | with_reducible refine blockQ.n ?_)
  refine Safe.region ?_
  refine SafeOps.quiet0 E_good rfl rfl rfl (v := V.sl 3 (rws api_Instr.cells a0_19)) (.fn rfl) ?_
  refine SafeOps.quiet0 E_good rfl rfl rfl (v := V.fn 35 []) (.fn rfl) ?_
  refine bindG h ?_
  intro x_113 he114 h
  refine SafeOps.quiet0 E_good rfl rfl rfl (v := V.int .i64 x_113) (.callP rfl rfl (go_slices_IndexFunc_api_Instr_api_Instr_odd35_sc a0_19 _ he114) rfl) ?_
  refine SafeOps.quiet0 E_good rfl rfl rfl (v := V.bool (decide (x_113 ≥ 0))) (.fn rfl) ?_
  refine SafeOps.quiet0 E_good rfl rfl rfl (v := V.bool (decide (x_113 ≥ 0))) (.fn rfl) ?_
  refine SafeOps.nil ?_
  repeat (first | refine Safe.seq ?_ | refine Safe.skip ?_ | with_reducible refine thenQ.n ?_ | with_reducible refine blockQ.n ?_)
  refine Safe.ret ?_
  repeat (first | with_reducible refine thenQ.r ?_ | with_reducible refine blockQ.r ?_)
  obtain rfl := Option.some.inj h
  exact retQ.gen (vs := [V.bool (decide (x_113 ≥ 0))]) rfl (.tmp (v := V.bool (decide (x_113 ≥ 0))) rfl .nil) (.free rfl) (by simp) (.inr rfl)

noncomputable def go_code_Check (a0_16 : List api_Instr) : Option Int :=
  if ((decide ((a0_16.length : Int) < 1)) || (decide ((a0_16.length : Int) > 32))) = true then
    some 1
  else
    (go_slices_ContainsFunc_api_Instr_api_Instr_odd35 a0_16).bind fun x_129 =>
    if x_129 = true then
      some 1
    else
      some 0

theorem go_code_Check_sc (a0_16 : List api_Instr) (r : Int) (h : go_code_Check a0_16 = some r) : SC Tryd.prog gl 27 [V.sl 3 (rws api_Instr.cells a0_16)] (V.int .i64 r) := by
  rw [go_code_Check] at h
  refine SC.of E_good Tryd.func27 rfl (fun _ _ => Tryd.call27 _ _) rfl ?_
  repeat (first | refine Safe.seq ?_ | refine Safe.skip ?_ | with_reducible refine thenQ.n ?_ | with_reducible refine blockQ.n ?_)
  refine Safe.region ?_
  refine SafeOps.quiet0 E_good rfl rfl rfl (v := V.int .i64 0) (.fn rfl) ?_
  refine SafeOps.nil ?_
  repeat (first | refine Safe.seq ?_ | refine Safe.skip ?_ | with_reducible refine thenQ.n ?_ | with_reducible refine blockQ.n ?_)
  refine Safe.region ?_
  refine SafeOps.quiet0 E_good rfl rfl rfl (v := V.sl 3 (rws api_Instr.cells a0_16)) (.fn rfl) ?_
  refine SafeOps.quiet0 E_good rfl rfl rfl (v := V.int .i64 (a0_16.length : Int)) (.fnE rfl lenE) ?_
  refine SafeOps.quiet0 E_good rfl rfl rfl (v := V.bool (decide ((a0_16.length : Int) < 1))) (.fn rfl) ?_
  refine SafeOps.quiet0 E_good rfl rfl rfl (v := V.bool (decide ((a0_16.length : Int) < 1))) (.fn rfl) ?_
  refine SafeOps.bjoin 4 10 (b := ((decide ((a0_16.length : Int) < 1)) || (decide ((a0_16.length : Int) > 32)))) (b1 := true) (b0 := decide ((a0_16.length : Int) > 32)) (fun hc125 K => ?_) (fun hc125 K => ?_) bj_or ?_
  · skip
    refine SafeOps.skip (congrArg (fun b => some (!b)) hc125) rfl rfl ?_
    refine SafeOps.skip (congrArg (fun b => some (!b)) hc125) rfl rfl ?_
    refine SafeOps.skip (congrArg (fun b => some (!b)) hc125) rfl rfl ?_
    refine SafeOps.quiet0 E_good rfl rfl rfl (v := V.bool true) (.pickK rfl hc125 rfl) ?_
    exact SafeOps.drop' 4 rfl rfl rfl K
  · skip
    refine SafeOps.quiet0 E_good (congrArg (fun b => some (!b)) hc125) rfl rfl (v := V.sl 3 (rws api_Instr.cells a0_16)) (.fn rfl) ?_
    refine SafeOps.quiet0 E_good (congrArg (fun b => some (!b)) hc125) rfl rfl (v := V.int .i64 (a0_16.length : Int)) (.fnE rfl lenE) ?_
    refine SafeOps.quiet0 E_good (congrArg (fun b => some (!b)) hc125) rfl rfl (v := V.bool (decide ((a0_16.length : Int) > 32))) (.fn rfl) ?_
    refine SafeOps.quiet0 E_good rfl rfl rfl (v := V.bool (decide ((a0_16.length : Int) > 32))) (.pickK rfl hc125 rfl) ?_
    exact SafeOps.drop' 4 rfl rfl rfl K
  refine SafeOps.quiet0 E_good rfl rfl rfl (v := V.bool ((decide ((a0_16.length : Int) < 1)) || (decide ((a0_16.length : Int) > 32)))) (.fn rfl) ?_
  refine ifG h (fun hc126 h => ?_) (fun hc126 h => ?_)
  · skip
    refine SafeOps.skip (congrArg (fun b => some (!b)) hc126) rfl rfl ?_
    refine SafeOps.skip (congrArg (fun b => some (!b)) hc126) rfl rfl ?_
    refine SafeOps.quiet0 E_good rfl rfl rfl (v := V.bool true) (.pickK rfl hc126 rfl) ?_
    refine SafeOps.nil ?_
    repeat (first | refine Safe.seq ?_ | refine Safe.skip ?_ | with_reducible refine thenQ.n ?_ | with_reducible refine blockQ.n ?_)
    refine Safe.condK rfl rfl ?_
    repeat (first | refine Safe.seq ?_ | refine Safe.skip ?_ | with_reducible refine thenQ.n ?_ | with_reducible refine blockQ.n ?_)
    refine Safe.region ?_
    refine SafeOps.quiet0 E_good rfl rfl rfl (v := V.int .i64 1) (.fn rfl) ?_
    refine SafeOps.nil ?_
    repeat (first | refine Safe.seq ?_ | refine Safe.skip ?_ | with_reducible refine thenQ.n ?_ | with_reducible refine blockQ.n ?_)
    refine Safe.ret ?_
    repeat (first | with_reducible refine thenQ.r ?_ | with_reducible refine blockQ.r ?_)
    obtain rfl := Option.some.inj h
    exact retQ.gen (vs := [V.int .i64 1]) rfl (.tmp (v := V.int .i64 1) rfl .nil) (.free rfl) (by simp) (.inr rfl)
  · skip
    refine SafeOps.quiet0 E_good (congrArg (fun b => some (!b)) hc126) rfl rfl (v := V.sl 3 (rws api_Instr.cells a0_16)) (.fn rfl) ?_
    refine bindG h ?_
    intro x_129 he130 h
    refine SafeOps.quiet0 E_good (congrArg (fun b => some (!b)) hc126) rfl rfl (v := V.bool x_129) (.callP rfl rfl (go_slices_ContainsFunc_api_Instr_api_Instr_odd35_sc a0_16 _ he130) rfl) ?_
    refine SafeOps.quiet0 E_good rfl rfl rfl (v := V.bool x_129) (.pickK rfl hc126 rfl) ?_
    refine SafeOps.nil ?_
    repeat (first | refine Safe.seq ?_ | refine Safe.skip ?_ | with_reducible refine thenQ.n ?_ | with_reducible refine blockQ.n ?_)
    refine ifG h (fun hc131 h => ?_) (fun hc131 h => ?_)
    · skip
      refine Safe.condK rfl hc131 ?_
      repeat (first | refine Safe.seq ?_ | refine Safe.skip ?_ | with_reducible refine thenQ.n ?_ | with_reducible refine blockQ.n ?_)
      refine Safe.region ?_
      refine SafeOps.quiet0 E_good rfl rfl rfl (v := V.int .i64 1) (.fn rfl) ?_
      refine SafeOps.nil ?_
      repeat (first | refine Safe.seq ?_ | refine Safe.skip ?_ | with_reducible refine thenQ.n ?_ | with_reducible refine blockQ.n ?_)
      refine Safe.ret ?_
      repeat (first | with_reducible refine thenQ.r ?_ | with_reducible refine blockQ.r ?_)
      obtain rfl := Option.some.inj h
      exact retQ.gen (vs := [V.int .i64 1]) rfl (.tmp (v := V.int .i64 1) rfl .nil) (.free rfl) (by simp) (.inr rfl)
    · skip
      refine Safe.condN rfl hc131 ?_
      repeat (first | refine Safe.seq ?_ | refine Safe.skip ?_ | with_reducible refine thenQ.n ?_ | with_reducible refine blockQ.n ?_)
      refine Safe.region ?_
      refine SafeOps.quiet0 E_good rfl rfl rfl (v := V.int .i64 0) (.fn rfl) ?_
      refine SafeOps.nil ?_
      repeat (first | refine Safe.seq ?_ | refine Safe.skip ?_ | with_reducible refine thenQ.n ?_ | with_reducible refine blockQ.n ?_)
      refine Safe.ret ?_
      repeat (first | with_reducible refine thenQ.r ?_ | with_reducible refine blockQ.r ?_)
      obtain rfl := Option.some.inj h
      exact retQ.gen (vs := [V.int .i64 0]) rfl (.tmp (v := V.int .i64 0) rfl .nil) (.free rfl) (by simp) (.inr rfl)

noncomputable def go_code_CheckAll_j13 (v17_366 : Int) (v7_469 : Int) : Option ((Int) ⊕ (Int)) :=
  if (decide (v7_469 ≥ 0)) = true then
    inrO (
      some 1)
  else
    nextO (IntKind.i64.wrap (v17_366 + 1))

noncomputable def go_code_CheckAll_s14 (a0_6 : List (List api_Instr)) (v17_366 : Int) : (Int) → Option ((Int) ⊕ ((Int) ⊕ (Int)))
  | v8_483 =>
    if (decide (v8_483 < ((gt a0_6 v17_366).length : Int))) = true then
      if 0 ≤ v8_483 ∧ v8_483 < ((gt a0_6 v17_366).length : Int) then
        if ((((gt (gt a0_6 v17_366) v8_483).Op) == 2) && (decide (((gt (gt a0_6 v17_366) v8_483).A) ≥ (a0_6.length : Int)))) = true then
          inrO (
            go_code_CheckAll_j13 v17_366 v8_483)
        else
          nextO (IntKind.i64.wrap (v8_483 + 1))
      else none
    else
      inrO (
        go_code_CheckAll_j13 v17_366 (-1))

noncomputable def go_code_CheckAll_s9 (a0_6 : List (List api_Instr)) : (Int) → Option ((Int) ⊕ (Int))
  | v17_366 =>
    if (decide (v17_366 < (a0_6.length : Int))) = true then
      if 0 ≤ v17_366 ∧ v17_366 < (a0_6.length : Int) then
        (go_code_Check (gt a0_6 v17_366)).bind fun x_370 =>
        if (x_370 != 0) = true then
          inrO (
            some 1)
        else
          whileO (go_code_CheckAll_s14 a0_6 v17_366) 0
      else none
    else
      inrO (
        some 0)

noncomputable def go_code_CheckAll (a0_6 : List (List api_Instr)) : Option Int :=
  if ((decide ((a0_6.length : Int) < 1)) || (decide ((a0_6.length : Int) > 16))) = true then
    some 1
  else
    whileO (go_code_CheckAll_s9 a0_6) 0

theorem go_code_CheckAll_sc (a0_6 : List (List api_Instr)) (r : Int) (h : go_code_CheckAll a0_6 = some r) : SC Tryd.prog gl 12 [V.sl 1 (rws (fun l => [V.sl 3 (rws api_Instr.cells l)]) a0_6)] (V.int .i64 r) := by
  rw [go_code_CheckAll] at h
  refine SC.of E_good Tryd.func12 rfl (fun _ _ => Tryd.call12 _ _) rfl ?_
  repeat (first | refine Safe.seq ?_ | refine Safe.skip ?_ | with_reducible refine thenQ.n ?_ | with_reducible refine blockQ.n ?_)
  refine Safe.region ?_
  refine SafeOps.quiet1 E_good rfl rfl rfl (.box rfl rfl) rfl ?_
  refine SafeOps.quiet0 E_good rfl rfl rfl (v := V.int .i64 0) (.fn rfl) ?_
  refine SafeOps.nil ?_
  repeat (first | refine Safe.seq ?_ | refine Safe.skip ?_ | with_reducible refine thenQ.n ?_ | with_reducible refine blockQ.n ?_)
  refine Safe.region ?_
  refine SafeOps.quiet0 E_good rfl rfl rfl (v := V.sl 1 (rws (fun l => [V.sl 3 (rws api_Instr.cells l)]) a0_6)) (.load rfl rfl (.box rfl rfl) rfl) ?_
  refine SafeOps.quiet0 E_good rfl rfl rfl (v := V.int .i64 (a0_6.length : Int)) (.fnE rfl lenE) ?_
  refine SafeOps.quiet0 E_good rfl rfl rfl (v := V.bool (decide ((a0_6.length : Int) < 1))) (.fn rfl) ?_
  refine SafeOps.quiet0 E_good rfl rfl rfl (v := V.bool (decide ((a0_6.length : Int) < 1))) (.fn rfl) ?_
  refine SafeOps.bjoin 4 13 (b := ((decide ((a0_6.length : Int) < 1)) || (decide ((a0_6.length : Int) > 16)))) (b1 := true) (b0 := decide ((a0_6.length : Int) > 16)) (fun hc271 K => ?_) (fun hc271 K => ?_) bj_or ?_
  · skip
    refine SafeOps.skip (congrArg (fun b => some (!b)) hc271) rfl rfl ?_
    refine SafeOps.skip (congrArg (fun b => some (!b)) hc271) rfl rfl ?_
    refine SafeOps.skip (congrArg (fun b => some (!b)) hc271) rfl rfl ?_
    refine SafeOps.quiet0 E_good rfl rfl rfl (v := V.bool true) (.pickK rfl hc271 rfl) ?_
    exact SafeOps.drop' 4 rfl rfl rfl K
  · skip
    refine SafeOps.quiet0 E_good (congrArg (fun b => some (!b)) hc271) rfl rfl (v := V.sl 1 (rws (fun l => [V.sl 3 (rws api_Instr.cells l)]) a0_6)) (.load rfl rfl (.box rfl rfl) rfl) ?_
    refine SafeOps.quiet0 E_good (congrArg (fun b => some (!b)) hc271) rfl rfl (v := V.int .i64 (a0_6.length : Int)) (.fnE rfl lenE) ?_
    refine SafeOps.quiet0 E_good (congrArg (fun b => some (!b)) hc271) rfl rfl (v := V.bool (decide ((a0_6.length : Int) > 16))) (.fn rfl) ?_
    refine SafeOps.quiet0 E_good rfl rfl rfl (v := V.bool (decide ((a0_6.length : Int) > 16))) (.pickK rfl hc271 rfl) ?_
    exact SafeOps.drop' 4 rfl rfl rfl K
  refine SafeOps.nil ?_
  repeat (first | refine Safe.seq ?_ | refine Safe.skip ?_ | with_reducible refine thenQ.n ?_ | with_reducible refine blockQ.n ?_)
  refine ifG h (fun hc272 h => ?_) (fun hc272 h => ?_)
  · skip
    refine Safe.condK rfl hc272 ?_
    repeat (first | refine Safe.seq ?_ | refine Safe.skip ?_ | with_reducible refine thenQ.n ?_ | with_reducible refine blockQ.n ?_)
    refine Safe.region ?_
    refine SafeOps.quiet0 E_good rfl rfl rfl (v := V.int .i64 1) (.fn rfl) ?_
    refine SafeOps.nil ?_
    repeat (first | refine Safe.seq ?_ | refine Safe.skip ?_ | with_reducible refine thenQ.n ?_ | with_reducible refine blockQ.n ?_)
    refine Safe.ret ?_
    repeat (first | with_reducible refine thenQ.r ?_ | with_reducible refine blockQ.r ?_)
    obtain rfl := Option.some.inj h
    exact retQ.gen (vs := [V.int .i64 1]) rfl (.tmp (v := V.int .i64 1) rfl .nil) (.free rfl) (by simp) (.inr rfl)
  · skip
    refine Safe.condN rfl hc272 ?_
    repeat (first | refine Safe.seq ?_ | refine Safe.skip ?_ | with_reducible refine thenQ.n ?_ | with_reducible refine blockQ.n ?_)
    refine Safe.region ?_
    refine SafeOps.quiet0 E_good rfl rfl rfl (v := V.fn 26 [V.ptr [1] 0 0]) (.fn rfl) ?_
    refine SafeOps.quiet0 E_good rfl rfl rfl (v := V.fn 26 [V.ptr [1] 0 0]) (.fn rfl) ?_
    refine SafeOps.nil ?_
    repeat (first | refine Safe.seq ?_ | refine Safe.skip ?_ | with_reducible refine thenQ.n ?_ | with_reducible refine blockQ.n ?_)
    refine Safe.region ?_
    refine SafeOps.quiet0 E_good rfl rfl rfl (v := V.sl 1 (rws (fun l => [V.sl 3 (rws api_Instr.cells l)]) a0_6)) (.load rfl rfl (.box rfl rfl) rfl) ?_
    refine SafeOps.quiet0 E_good rfl rfl rfl (v := V.int .i64 (a0_6.length : Int)) (.fnE rfl lenE) ?_
    refine SafeOps.quiet0 E_good rfl rfl rfl (v := V.int .i64 0) (.fn rfl) ?_
    refine SafeOps.nil ?_
    repeat (first | refine Safe.seq ?_ | refine Safe.skip ?_ | with_reducible refine thenQ.n ?_ | with_reducible refine blockQ.n ?_)
    refine Safe.block ?_
    repeat (first | refine Safe.seq ?_ | refine Safe.skip ?_ | with_reducible refine thenQ.n ?_ | with_reducible refine blockQ.n ?_)
    refine Safe.loopW (fun (v17_366 : Int) => ⟨Tryd.f12.ntmps, [(3, V.fn 26 [V.ptr [1] 0 0]), (15, V.sl 1 (rws (fun l => [V.sl 3 (rws api_Instr.cells l)]) a0_6)), (16, V.int .i64 (a0_6.length : Int)), (17, V.int .i64 v17_366)], [([1], Obj.box [V.sl 1 (rws (fun l => [V.sl 3 (rws api_Instr.cells l)]) a0_6)])], [], []⟩) h (.cov ⟨rfl, rfl, (upT_cons (.refl _) (upT_cons (.refl _) (upT_cons (.refl _) (upT_cons (.refl _) upT_nil)))), (upOb_cons rfl (.refl _) upOb_nil), upOut_nil, rfl⟩) ?_
    intro v17_366 ohr367 h hr367
    replace h : go_code_CheckAll_s9 a0_6 v17_366 = some ohr367 := h
    rw [go_code_CheckAll_s9] at h
    repeat (first | refine Safe.seq ?_ | refine Safe.skip ?_ | with_reducible refine thenQ.n ?_ | with_reducible refine blockQ.n ?_)
    refine Safe.region ?_
    refine SafeOps.quiet0 E_good rfl rfl rfl (v := V.bool (decide (v17_366 < (a0_6.length : Int)))) (.fn rfl) ?_
    refine SafeOps.nil ?_
    repeat (first | refine Safe.seq ?_ | refine Safe.skip ?_ | with_reducible refine thenQ.n ?_ | with_reducible refine blockQ.n ?_)
    refine ifG h (fun hc368 h => ?_) (fun hc368 h => ?_)
    · skip
      refine Safe.condK rfl hc368 ?_
      repeat (first | refine Safe.seq ?_ | refine Safe.skip ?_ | with_reducible refine thenQ.n ?_ | with_reducible refine blockQ.n ?_)
      refine Safe.block ?_
      repeat (first | refine Safe.seq ?_ | refine Safe.skip ?_ | with_reducible refine thenQ.n ?_ | with_reducible refine blockQ.n ?_)
      refine Safe.region ?_
      refine okG h (fun hb369 h => ?_)
      refine SafeOps.quiet0 E_good rfl rfl rfl (v := V.spt 1 (rws (fun l => [V.sl 3 (rws api_Instr.cells l)]) a0_6) (Int.toNat v17_366) 0) (.idxSlM (f := (fun l => [V.sl 3 (rws api_Instr.cells l)])) rfl rfl rfl rfl rfl hb369) ?_
      refine SafeOps.quiet0 E_good rfl rfl rfl (v := V.sl 3 (rws api_Instr.cells (gt a0_6 v17_366))) (.load rfl rfl (.sptM (f := (fun l => [V.sl 3 (rws api_Instr.cells l)])) hb369 rfl) rfl) ?_
      refine SafeOps.quiet0 E_good rfl rfl rfl (v := V.sl 3 (rws api_Instr.cells (gt a0_6 v17_366))) (.fn rfl) ?_
      refine SafeOps.nil ?_
      repeat (first | refine Safe.seq ?_ | refine Safe.skip ?_ | with_reducible refine thenQ.n ?_ | with_reducible refine blockQ.n ?_)
      refine Safe.region ?_
      refine SafeOps.quiet0 E_good rfl rfl rfl (v := V.sl 3 (rws api_Instr.cells (gt a0_6 v17_366))) (.fn rfl) ?_
      refine bindG h ?_
      intro x_370 he371 h
      refine SafeOps.quiet0 E_good rfl rfl rfl (v := V.int .i64 x_370) (.callP rfl rfl (go_code_Check_sc (gt a0_6 v17_366) _ he371) rfl) ?_
      refine SafeOps.quiet0 E_good rfl rfl rfl (v := V.bool (x_370 != 0)) (.fn rfl) ?_
      refine SafeOps.quiet0 E_good rfl rfl rfl (v := V.bool (x_370 != 0)) (.fn rfl) ?_
      refine ifG h (fun hc372 h => ?_) (fun hc372 h => ?_)
      · skip
        refine SafeOps.skip (congrArg (fun b => some (!b)) hc372) rfl rfl ?_
        refine SafeOps.skip (congrArg (fun b => some (!b)) hc372) rfl rfl ?_
        refine SafeOps.skip (congrArg (fun b => some (!b)) hc372) rfl rfl ?_
        refine SafeOps.quiet0 E_good rfl rfl rfl (v := V.bool true) (.pickK rfl hc372 rfl) ?_
        refine SafeOps.nil ?_
        repeat (first | refine Safe.seq ?_ | refine Safe.skip ?_ | with_reducible refine thenQ.n ?_ | with_reducible refine blockQ.n ?_)
        refine Safe.condK rfl rfl ?_
        repeat (first | refine Safe.seq ?_ | refine Safe.skip ?_ | with_reducible refine thenQ.n ?_ | with_reducible refine blockQ.n ?_)
        refine Safe.region ?_
        refine SafeOps.quiet0 E_good rfl rfl rfl (v := V.int .i64 1) (.fn rfl) ?_
        refine SafeOps.nil ?_
        repeat (first | refine Safe.seq ?_ | refine Safe.skip ?_ | with_reducible refine thenQ.n ?_ | with_reducible refine blockQ.n ?_)
        refine Safe.ret ?_
        repeat (first | with_reducible refine thenQ.r ?_ | with_reducible refine blockQ.r ?_)
        replace h := inr_out h hr367
        obtain rfl := Option.some.inj h
        exact retQ.gen (vs := [V.int .i64 1]) rfl (.tmp (v := V.int .i64 1) rfl .nil) (.free rfl) (by simp) (.inr rfl)
      · skip
        refine SafeOps.quiet0 E_good (congrArg (fun b => some (!b)) hc372) rfl rfl (v := V.sl 3 (rws api_Instr.cells (gt a0_6 v17_366))) (.fn rfl) ?_
        refine SafeOps.quiet0 E_good (congrArg (fun b => some (!b)) hc372) rfl rfl (v := V.fn 26 [V.ptr [1] 0 0]) (.fn rfl) ?_
        refine SafeOps.inline E_good (congrArg (fun b => some (!b)) hc372) rfl rfl rfl rfl Tryd.func28 rfl (fun _ _ => Tryd.call28 _ _) rfl ?_
        repeat (first | refine Safe.seq ?_ | refine Safe.skip ?_ | with_reducible refine thenQ.n ?_ | with_reducible refine blockQ.n ?_)
        refine Safe.region ?_
        refine SafeOps.quiet0 E_good rfl rfl rfl (v := V.bool false) (.fn rfl) ?_
        refine SafeOps.nil ?_
        repeat (first | refine Safe.seq ?_ | refine Safe.skip ?_ | with_reducible refine thenQ.n ?_ | with_reducible refine blockQ.n ?_)
        refine Safe.region ?_
        refine SafeOps.quiet0 E_good rfl rfl rfl (v := V.sl 3 (rws api_Instr.cells (gt a0_6 v17_366))) (.fn rfl) ?_
        refine SafeOps.quiet0 E_good rfl rfl rfl (v := V.fn 26 [V.ptr [1] 0 0]) (.fn rfl) ?_
        refine SafeOps.joinT 1 (fun (v7_469 : Int) => go_code_CheckAll_j13 v17_366 v7_469 = some ohr367) (fun (v7_469 : Int) => ⟨Tryd.f28.ntmps, [(7, V.int .i64 v7_469)], [([1], Obj.box [V.sl 1 (rws (fun l => [V.sl 3 (rws api_Instr.cells l)]) a0_6)])], [(Tryd.f12.ntmps, [(3, V.fn 26 [V.ptr [1] 0 0]), (15, V.sl 1 (rws (fun l => [V.sl 3 (rws api_Instr.cells l)]) a0_6)), (16, V.int .i64 (a0_6.length : Int)), (17, V.int .i64 v17_366), (24, V.bool (x_370 != 0)), (25, V.sl 3 (rws api_Instr.cells (gt a0_6 v17_366))), (26, V.fn 26 [V.ptr [1] 0 0])])], [27]⟩) ?_ (fun HJ470 => ?_)
        · intro v7_469 h
          replace h : go_code_CheckAll_j13 v17_366 v7_469 = some ohr367 := h
          rw [go_code_CheckAll_j13] at h
          refine SafeOps.quiet0 E_good rfl rfl rfl (v := V.bool (decide (v7_469 ≥ 0))) (.fn rfl) ?_
          refine SafeOps.quiet0 E_good rfl rfl rfl (v := V.bool (decide (v7_469 ≥ 0))) (.fn rfl) ?_
          refine SafeOps.nil ?_
          repeat (first | refine Safe.seq ?_ | refine Safe.skip ?_ | with_reducible refine thenQ.n ?_ | with_reducible refine blockQ.n ?_)
          refine Safe.ret ?_
          repeat (first | with_reducible refine thenQ.r ?_ | with_reducible refine blockQ.r ?_)
          refine inQ.gen (vs := [V.bool (decide (v7_469 ≥ 0))]) (v := V.bool (decide (v7_469 ≥ 0))) (.inr rfl) rfl (.tmp (v := V.bool (decide (v7_469 ≥ 0))) rfl .nil) rfl ?_
          refine SafeOps.quiet0 E_good rfl rfl rfl (v := V.bool (decide (v7_469 ≥ 0))) (.pickK rfl hc372 rfl) ?_
          refine SafeOps.nil ?_
          repeat (first | refine Safe.seq ?_ | refine Safe.skip ?_ | with_reducible refine thenQ.n ?_ | with_reducible refine blockQ.n ?_)
          refine ifG h (fun hc471 h => ?_) (fun hc471 h => ?_)
          · skip
            refine Safe.condK rfl hc471 ?_
            repeat (first | refine Safe.seq ?_ | refine Safe.skip ?_ | with_reducible refine thenQ.n ?_ | with_reducible refine blockQ.n ?_)
            refine Safe.region ?_
            refine SafeOps.quiet0 E_good rfl rfl rfl (v := V.int .i64 1) (.fn rfl) ?_
            refine SafeOps.nil ?_
            repeat (first | refine Safe.seq ?_ | refine Safe.skip ?_ | with_reducible refine thenQ.n ?_ | with_reducible refine blockQ.n ?_)
            refine Safe.ret ?_
            repeat (first | with_reducible refine thenQ.r ?_ | with_reducible refine blockQ.r ?_)
            replace h := inr_out h hr367
            obtain rfl := Option.some.inj h
            exact retQ.gen (vs := [V.int .i64 1]) rfl (.tmp (v := V.int .i64 1) rfl .nil) (.free rfl) (by simp) (.inr rfl)
          · skip
            refine Safe.condN rfl hc471 ?_
            repeat (first | refine Safe.seq ?_ | refine Safe.skip ?_ | with_reducible refine thenQ.n ?_ | with_reducible refine blockQ.n ?_)
            refine Safe.region ?_
            refine SafeOps.quiet0 E_good rfl rfl rfl (v := V.int .i64 (IntKind.i64.wrap (v17_366 + 1))) (.fn rfl) ?_
            refine SafeOps.quiet0 E_good rfl rfl rfl (v := V.int .i64 (IntKind.i64.wrap (v17_366 + 1))) (.fn rfl) ?_
            refine SafeOps.nil ?_
            repeat (first | refine Safe.seq ?_ | refine Safe.skip ?_ | with_reducible refine thenQ.n ?_ | with_reducible refine blockQ.n ?_)
            exact ⟨_, next_out h, (.cov ⟨rfl, rfl, (upT_cons (.refl _) (upT_cons (.refl _) (upT_cons (.refl _) (upT_cons (.refl _) upT_nil)))), (upOb_cons rfl (.refl _) upOb_nil), upOut_nil, rfl⟩)⟩
        · skip
          refine SafeOps.inline E_good rfl rfl rfl rfl rfl Tryd.func36 rfl (fun _ _ => Tryd.call36 _ _) rfl ?_
          repeat (first | refine Safe.seq ?_ | refine Safe.skip ?_ | with_reducible refine thenQ.n ?_ | with_reducible refine blockQ.n ?_)
          refine Safe.region ?_
          refine SafeOps.quiet0 E_good rfl rfl rfl (v := V.int .i64 0) (.fn rfl) ?_
          refine SafeOps.nil ?_
          repeat (first | refine Safe.seq ?_ | refine Safe.skip ?_ | with_reducible refine thenQ.n ?_ | with_reducible refine blockQ.n ?_)
          refine Safe.region ?_
          refine SafeOps.quiet0 E_good rfl rfl rfl (v := V.sl 3 (rws api_Instr.cells (gt a0_6 v17_366))) (.fn rfl) ?_
          refine SafeOps.quiet0 E_good rfl rfl rfl (v := V.int .i64 ((gt a0_6 v17_366).length : Int)) (.fnE rfl lenE) ?_
          refine SafeOps.quiet0 E_good rfl rfl rfl (v := V.int .i64 0) (.fn rfl) ?_
          refine SafeOps.nil ?_
          repeat (first | refine Safe.seq ?_ | refine Safe.skip ?_ | with_reducible refine thenQ.n ?_ | with_reducible refine blockQ.n ?_)
          refine Safe.block ?_
          repeat (first | refine Safe.seq ?_ | refine Safe.skip ?_ | with_reducible refine thenQ.n ?_ | with_reducible refine blockQ.n ?_)
          refine Safe.loopW (fun (v8_483 : Int) => ⟨Tryd.f36.ntmps, [(0, V.sl 3 (rws api_Instr.cells (gt a0_6 v17_366))), (1, V.fn 26 [V.ptr [1] 0 0]), (7, V.int .i64 ((gt a0_6 v17_366).length : Int)), (8, V.int .i64 v8_483)], [([1], Obj.box [V.sl 1 (rws (fun l => [V.sl 3 (rws api_Instr.cells l)]) a0_6)])], [(Tryd.f28.ntmps, []), (Tryd.f12.ntmps, [(3, V.fn 26 [V.ptr [1] 0 0]), (15, V.sl 1 (rws (fun l => [V.sl 3 (rws api_Instr.cells l)]) a0_6)), (16, V.int .i64 (a0_6.length : Int)), (17, V.int .i64 v17_366), (24, V.bool (x_370 != 0)), (25, V.sl 3 (rws api_Instr.cells (gt a0_6 v17_366))), (26, V.fn 26 [V.ptr [1] 0 0])])], [27, 7]⟩) h (.cov ⟨rfl, rfl, (upT_cons (.refl _) (upT_cons (.refl _) (upT_cons (.refl _) (upT_cons (.refl _) upT_nil)))), (upOb_cons rfl (.refl _) upOb_nil), (upOut_cons rfl upT_nil (upOut_cons rfl (upT_cons (.refl _) (upT_cons (.refl _) (upT_cons (.refl _) (upT_cons (.refl _) (upT_cons (.refl _) (upT_cons (.refl _) (upT_cons (.refl _) upT_nil))))))) upOut_nil)), rfl⟩) ?_
          intro v8_483 ohr484 h hr484
          replace h : go_code_CheckAll_s14 a0_6 v17_366 v8_483 = some ohr484 := h
          rw [go_code_CheckAll_s14] at h
          repeat (first | refine Safe.seq ?_ | refine Safe.skip ?_ | with_reducible refine thenQ.n ?_ | with_reducible refine blockQ.n ?_)
          refine Safe.region ?_
          refine SafeOps.quiet0 E_good rfl rfl rfl (v := V.bool (decide (v8_483 < ((gt a0_6 v17_366).length : Int)))) (.fn rfl) ?_
          refine SafeOps.nil ?_
          repeat (first | refine Safe.seq ?_ | refine Safe.skip ?_ | with_reducible refine thenQ.n ?_ | with_reducible refine blockQ.n ?_)
          refine ifG h (fun hc485 h => ?_) (fun hc485 h => ?_)
          · skip
            refine Safe.condK rfl hc485 ?_
            repeat (first | refine Safe.seq ?_ | refine Safe.skip ?_ | with_reducible refine thenQ.n ?_ | with_reducible refine blockQ.n ?_)
            refine Safe.block ?_
            repeat (first | refine Safe.seq ?_ | refine Safe.skip ?_ | with_reducible refine thenQ.n ?_ | with_reducible refine blockQ.n ?_)
            refine Safe.region ?_
            refine SafeOps.quiet0 E_good rfl rfl rfl (v := V.int .i64 v8_483) (.fn rfl) ?_
            refine SafeOps.quiet0 E_good rfl rfl rfl (v := V.int .i64 v8_483) (.fn rfl) ?_
            refine SafeOps.nil ?_
            repeat (first | refine Safe.seq ?_ | refine Safe.skip ?_ | with_reducible refine thenQ.n ?_ | with_reducible refine blockQ.n ?_)
            refine Safe.region ?_
            refine SafeOps.quiet0 E_good rfl rfl rfl (v := V.fn 26 [V.ptr [1] 0 0]) (.fn rfl) ?_
            refine SafeOps.quiet0 E_good rfl rfl rfl (v := V.sl 3 (rws api_Instr.cells (gt a0_6 v17_366))) (.fn rfl) ?_
            refine SafeOps.quiet0 E_good rfl rfl rfl (v := V.int .i64 v8_483) (.fn rfl) ?_
            refine okG h (fun hb486 h => ?_)
            refine SafeOps.quiet0 E_good rfl rfl rfl (v := V.spt 3 (rws api_Instr.cells (gt a0_6 v17_366)) (Int.toNat v8_483) 0) (.idxSlM (f := api_Instr.cells) rfl rfl rfl rfl rfl hb486) ?_
            refine SafeOps.quiet0 E_good rfl rfl rfl (v := V.agg [V.int .i64 ((gt (gt a0_6 v17_366) v8_483).Op), V.int .i64 ((gt (gt a0_6 v17_366) v8_483).A), V.int .i64 ((gt (gt a0_6 v17_366) v8_483).B)]) (.load rfl rfl (.sptM (f := api_Instr.cells) hb486 rfl) rfl) ?_
            refine SafeOps.inline E_good rfl rfl rfl rfl rfl Tryd.func26 rfl (fun _ _ => Tryd.call26 _ _) rfl ?_
            repeat (first | refine Safe.seq ?_ | refine Safe.skip ?_ | with_reducible refine thenQ.n ?_ | with_reducible refine blockQ.n ?_)
            refine Safe.region ?_
            refine SafeOps.quiet1 E_good rfl rfl rfl (.box rfl rfl) rfl ?_
            refine SafeOps.quiet0 E_good rfl rfl rfl (v := V.bool false) (.fn rfl) ?_
            refine SafeOps.nil ?_
            repeat (first | refine Safe.seq ?_ | refine Safe.skip ?_ | with_reducible refine thenQ.n ?_ | with_reducible refine blockQ.n ?_)
            refine Safe.region ?_
            refine SafeOps.quiet0 E_good rfl rfl rfl (v := V.ptr [27, 7, 16, 2] 0 0) (.fn rfl) ?_
            refine SafeOps.quiet0 E_good rfl rfl rfl (v := V.int .i64 ((gt (gt a0_6 v17_366) v8_483).Op)) (.load rfl rfl (.box rfl rfl) rfl) ?_
            refine SafeOps.quiet0 E_good rfl rfl rfl (v := V.bool (((gt (gt a0_6 v17_366) v8_483).Op) == 2)) (.fn rfl) ?_
            refine SafeOps.quiet0 E_good rfl rfl rfl (v := V.bool (((gt (gt a0_6 v17_366) v8_483).Op) == 2)) (.fn rfl) ?_
            refine SafeOps.bjoin 6 13 (b := ((((gt (gt a0_6 v17_366) v8_483).Op) == 2) && (decide (((gt (gt a0_6 v17_366) v8_483).A) ≥ (a0_6.length : Int))))) (b1 := decide (((gt (gt a0_6 v17_366) v8_483).A) ≥ (a0_6.length : Int))) (b0 := false) (fun hc488 K => ?_) (fun hc488 K => ?_) bj_and ?_
            · skip
              refine SafeOps.quiet0 E_good (congrArg some hc488) rfl rfl (v := V.ptr [27, 7, 16, 2] 0 1) (.fn rfl) ?_
              refine SafeOps.quiet0 E_good (congrArg some hc488) rfl rfl (v := V.int .i64 ((gt (gt a0_6 v17_366) v8_483).A)) (.load rfl rfl (.box rfl rfl) rfl) ?_
              refine SafeOps.quiet0 E_good (congrArg some hc488) rfl rfl (v := V.sl 1 (rws (fun l => [V.sl 3 (rws api_Instr.cells l)]) a0_6)) (.load rfl rfl (.box rfl rfl) rfl) ?_
              refine SafeOps.quiet0 E_good (congrArg some hc488) rfl rfl (v := V.int .i64 (a0_6.length : Int)) (.fnE rfl lenE) ?_
              refine SafeOps.quiet0 E_good (congrArg some hc488) rfl rfl (v := V.bool (decide (((gt (gt a0_6 v17_366) v8_483).A) ≥ (a0_6.length : Int)))) (.fn rfl) ?_
              refine SafeOps.quiet0 E_good rfl rfl rfl (v := V.bool (decide (((gt (gt a0_6 v17_366) v8_483).A) ≥ (a0_6.length : Int)))) (.pickK rfl hc488 rfl) ?_
              exact SafeOps.drop' 6 rfl rfl rfl K
            · skip
              refine SafeOps.skip (congrArg some hc488) rfl rfl ?_
              refine SafeOps.skip (congrArg some hc488) rfl rfl ?_
              refine SafeOps.skip (congrArg some hc488) rfl rfl ?_
              refine SafeOps.skip (congrArg some hc488) rfl rfl ?_
              refine SafeOps.skip (congrArg some hc488) rfl rfl ?_
              refine SafeOps.quiet0 E_good rfl rfl rfl (v := V.bool false) (.pickK rfl hc488 rfl) ?_
              exact SafeOps.drop' 6 rfl rfl rfl K
            refine SafeOps.quiet0 E_good rfl rfl rfl (v := V.bool ((((gt (gt a0_6 v17_366) v8_483).Op) == 2) && (decide (((gt (gt a0_6 v17_366) v8_483).A) ≥ (a0_6.length : Int))))) (.fn rfl) ?_
            refine SafeOps.nil ?_
            repeat (first | refine Safe.seq ?_ | refine Safe.skip ?_ | with_reducible refine thenQ.n ?_ | with_reducible refine blockQ.n ?_)
            refine Safe.ret ?_
            repeat (first | with_reducible refine thenQ.r ?_ | with_reducible refine blockQ.r ?_)
            refine inQ.gen (vs := [V.bool ((((gt (gt a0_6 v17_366) v8_483).Op) == 2) && (decide (((gt (gt a0_6 v17_366) v8_483).A) ≥ (a0_6.length : Int))))]) (v := V.bool ((((gt (gt a0_6 v17_366) v8_483).Op) == 2) && (decide (((gt (gt a0_6 v17_366) v8_483).A) ≥ (a0_6.length : Int))))) (.inr rfl) rfl (.tmp (v := V.bool ((((gt (gt a0_6 v17_366) v8_483).Op) == 2) && (decide (((gt (gt a0_6 v17_366) v8_483).A) ≥ (a0_6.length : Int))))) rfl .nil) rfl ?_
            refine SafeOps.nil ?_
            repeat (first | refine Safe.seq ?_ | refine Safe.skip ?_ | with_reducible refine thenQ.n ?_ | with_reducible refine blockQ.n ?_)
            refine ifG h (fun hc489 h => ?_) (fun hc489 h => ?_)
            · skip
              refine Safe.condK rfl hc489 ?_
              repeat (first | refine Safe.seq ?_ | refine Safe.skip ?_ | with_reducible refine thenQ.n ?_ | with_reducible refine blockQ.n ?_)
              refine Safe.region ?_
              refine SafeOps.quiet0 E_good rfl rfl rfl (v := V.int .i64 v8_483) (.fn rfl) ?_
              refine SafeOps.quiet0 E_good rfl rfl rfl (v := V.int .i64 v8_483) (.fn rfl) ?_
              refine SafeOps.nil ?_
              repeat (first | refine Safe.seq ?_ | refine Safe.skip ?_ | with_reducible refine thenQ.n ?_ | with_reducible refine blockQ.n ?_)
              refine Safe.ret ?_
              repeat (first | with_reducible refine thenQ.r ?_ | with_reducible refine blockQ.r ?_)
              refine inQ.gen (vs := [V.int .i64 v8_483]) (v := V.int .i64 v8_483) (.inr rfl) rfl (.tmp (v := V.int .i64 v8_483) rfl .nil) rfl ?_
              replace h := inr_out h hr484
              exact SafeOps.got (HJ470 (v8_483) h) (.cov ⟨rfl, rfl, (upT_cons (.refl _) upT_nil), (upOb_cons rfl (.refl _) upOb_nil), (upOut_cons rfl (upT_cons (.refl _) (upT_cons (.refl _) (upT_cons (.refl _) (upT_cons (.refl _) (upT_cons (.refl _) (upT_cons (.refl _) (upT_cons (.refl _) upT_nil))))))) upOut_nil), rfl⟩)
            · skip
              refine Safe.condN rfl hc489 ?_
              repeat (first | refine Safe.seq ?_ | refine Safe.skip ?_ | with_reducible refine thenQ.n ?_ | with_reducible refine blockQ.n ?_)
              refine Safe.region ?_
              refine SafeOps.quiet0 E_good rfl rfl rfl (v := V.int .i64 (IntKind.i64.wrap (v8_483 + 1))) (.fn rfl) ?_
              refine SafeOps.quiet0 E_good rfl rfl rfl (v := V.int .i64 (IntKind.i64.wrap (v8_483 + 1))) (.fn rfl) ?_
              refine SafeOps.nil ?_
              repeat (first | refine Safe.seq ?_ | refine Safe.skip ?_ | with_reducible refine thenQ.n ?_ | with_reducible refine blockQ.n ?_)
              exact ⟨_, next_out h, (.cov ⟨rfl, rfl, (upT_cons (.refl _) (upT_cons (.refl _) (upT_cons (.refl _) (upT_cons (.refl _) upT_nil)))), (upOb_cons rfl (.refl _) upOb_nil), (upOut_cons rfl upT_nil (upOut_cons rfl (upT_cons (.refl _) (upT_cons (.refl _) (upT_cons (.refl _) (upT_cons (.refl _) (upT_cons (.refl _) (upT_cons (.refl _) (upT_cons (.refl _) upT_nil))))))) upOut_nil)), rfl⟩)⟩
          · skip
            refine Safe.condN rfl hc485 ?_
            repeat (first | refine Safe.seq ?_ | refine Safe.skip ?_ | with_reducible refine thenQ.n ?_ | with_reducible refine blockQ.n ?_)
            refine Safe.exit ?_
            repeat (first | with_reducible refine thenQ.e ?_ | with_reducible refine blockQ.x rfl ?_ | with_reducible refine blockQ.y rfl ?_)
            replace h := inr_out h hr484
            repeat (first | refine Safe.seq ?_ | refine Safe.skip ?_ | with_reducible refine thenQ.n ?_ | with_reducible refine blockQ.n ?_)
            refine Safe.region ?_
            refine SafeOps.quiet0 E_good rfl rfl rfl (v := V.int .i64 (-1)) (.fn rfl) ?_
            refine SafeOps.nil ?_
            repeat (first | refine Safe.seq ?_ | refine Safe.skip ?_ | with_reducible refine thenQ.n ?_ | with_reducible refine blockQ.n ?_)
            refine Safe.ret ?_
            repeat (first | with_reducible refine thenQ.r ?_ | with_reducible refine blockQ.r ?_)
            refine inQ.gen (vs := [V.int .i64 (-1)]) (v := V.int .i64 (-1)) (.inr rfl) rfl (.tmp (v := V.int .i64 (-1)) rfl .nil) rfl ?_
            exact SafeOps.got (HJ470 (-1) h) (.cov ⟨rfl, rfl, (upT_cons (.refl _) upT_nil), (upOb_cons rfl (.refl _) upOb_nil), (upOut_cons rfl (upT_cons (.refl _) (upT_cons (.refl _) (upT_cons (.refl _) (upT_cons (.refl _) (upT_cons (.refl _) (upT_cons (.refl _) (upT_cons (.refl _) upT_nil))))))) upOut_nil), rfl⟩)
    · skip
      refine Safe.condN rfl hc368 ?_
      repeat (first | refine Safe.seq ?_ | refine Safe.skip ?_ | with_reducible refine thenQ.n ?_ | with_reducible refine blockQ.n ?_)
      refine Safe.exit ?_
      repeat (first | with_reducible refine thenQ.e ?_ | with_reducible refine blockQ.x rfl ?_ | with_reducible refine blockQ.y rfl ?_)
      replace h := inr_out h hr367
      repeat (first | refine Safe.seq ?_ | refine Safe.skip ?_ | with_reducible refine thenQ.n ?_ | with_reducible refine blockQ.n ?_)
      refine Safe.region ?_
      refine SafeOps.quiet0 E_good rfl rfl rfl (v := V.int .i64 0) (.fn rfl) ?_
      refine SafeOps.nil ?_
      repeat (first | refine Safe.seq ?_ | refine Safe.skip ?_ | with_reducible refine thenQ.n ?_ | with_reducible refine blockQ.n ?_)
      refine Safe.ret ?_
      repeat (first | with_reducible refine thenQ.r ?_ | with_reducible refine blockQ.r ?_)
      obtain rfl := Option.some.inj h
      exact retQ.gen (vs := [V.int .i64 0]) rfl (.tmp (v := V.int .i64 0) rfl .nil) (.free rfl) (by simp) (.inr rfl)

@[ext] structure A4_Int where
  a0 : Int
  a1 : Int
  a2 : Int
  a3 : Int
  deriving Inhabited
def A4_Int.cells (x : A4_Int) : List V := [V.int .i64 x.a0, V.int .i64 x.a1, V.int .i64 x.a2, V.int .i64 x.a3]
def A4_Int.zero : A4_Int := ⟨0, 0, 0, 0⟩
def A4_Int.beq (x y : A4_Int) : Bool := ((x.a0 == y.a0) && ((x.a1 == y.a1) && ((x.a2 == y.a2) && ((x.a3 == y.a3) && true))))

@[ext] structure api_Task where
  Id : Int
  Tenant : Int
  Prog : Int
  Pc : Int
  Unit : Int
  Keeps : A4_Int
  State : Int
  Ran : Int
  deriving Inhabited
def api_Task.cells (x : api_Task) : List V := [V.int .i64 x.Id, V.int .i64 x.Tenant, V.int .i64 x.Prog, V.int .i64 x.Pc, V.int .i64 x.Unit, V.int .i64 x.Keeps.a0, V.int .i64 x.Keeps.a1, V.int .i64 x.Keeps.a2, V.int .i64 x.Keeps.a3, V.int .i64 x.State, V.int .i64 x.Ran]
def api_Task.zero : api_Task := ⟨0, 0, 0, 0, 0, ⟨0, 0, 0, 0⟩, 0, 0⟩
def api_Task.beq (x y : api_Task) : Bool := ((x.Id == y.Id) && ((x.Tenant == y.Tenant) && ((x.Prog == y.Prog) && ((x.Pc == y.Pc) && ((x.Unit == y.Unit) && (((x.Keeps.a0 == y.Keeps.a0) && ((x.Keeps.a1 == y.Keeps.a1) && ((x.Keeps.a2 == y.Keeps.a2) && ((x.Keeps.a3 == y.Keeps.a3) && true)))) && ((x.State == y.State) && ((x.Ran == y.Ran) && true))))))))

@[ext] structure trace_seen where
  Task : api_Task
  last : api_Event
  deriving Inhabited
def trace_seen.cells (x : trace_seen) : List V := [V.int .i64 x.Task.Id, V.int .i64 x.Task.Tenant, V.int .i64 x.Task.Prog, V.int .i64 x.Task.Pc, V.int .i64 x.Task.Unit, V.int .i64 x.Task.Keeps.a0, V.int .i64 x.Task.Keeps.a1, V.int .i64 x.Task.Keeps.a2, V.int .i64 x.Task.Keeps.a3, V.int .i64 x.Task.State, V.int .i64 x.Task.Ran, V.int .i64 x.last.Kind, V.int .i64 x.last.Id, V.int .i64 x.last.A]
def trace_seen.zero : trace_seen := ⟨⟨0, 0, 0, 0, 0, ⟨0, 0, 0, 0⟩, 0, 0⟩, ⟨0, 0, 0⟩⟩
def trace_seen.beq (x y : trace_seen) : Bool := (((x.Task.Id == y.Task.Id) && ((x.Task.Tenant == y.Task.Tenant) && ((x.Task.Prog == y.Task.Prog) && ((x.Task.Pc == y.Task.Pc) && ((x.Task.Unit == y.Task.Unit) && (((x.Task.Keeps.a0 == y.Task.Keeps.a0) && ((x.Task.Keeps.a1 == y.Task.Keeps.a1) && ((x.Task.Keeps.a2 == y.Task.Keeps.a2) && ((x.Task.Keeps.a3 == y.Task.Keeps.a3) && true)))) && ((x.Task.State == y.Task.State) && ((x.Task.Ran == y.Task.Ran) && true)))))))) && (((x.last.Kind == y.last.Kind) && ((x.last.Id == y.last.Id) && ((x.last.A == y.last.A) && true))) && true))

def go_life_below (a0_503 : Int) (a1_504 : Int) : Bool :=
  ((decide (a0_503 ≥ 0)) && (decide (a0_503 < a1_504)))

theorem go_life_below_sc (a0_503 : Int) (a1_504 : Int) (r : Bool) (h : go_life_below a0_503 a1_504 = r) : SC Tryd.prog gl 59 [V.int .i64 a0_503, V.int .i64 a1_504] (V.bool r) := by
  rw [go_life_below] at h
  refine SC.of E_good Tryd.func59 rfl (fun _ _ => Tryd.call59 _ _) rfl ?_
  repeat (first | refine Safe.seq ?_ | refine Safe.skip ?_ | with_reducible refine thenQ.n ?_ | with_reducible refine blockQ.n ?_)
  refine Safe.region ?_
  refine SafeOps.quiet0 E_good rfl rfl rfl (v := V.bool false) (.fn rfl) ?_
  refine SafeOps.nil ?_
  repeat (first | refine Safe.seq ?_ | refine Safe.skip ?_ | with_reducible refine thenQ.n ?_ | with_reducible refine blockQ.n ?_)
  refine Safe.region ?_
  refine SafeOps.quiet0 E_good rfl rfl rfl (v := V.int .i64 a0_503) (.fn rfl) ?_
  refine SafeOps.quiet0 E_good rfl rfl rfl (v := V.bool (decide (a0_503 ≥ 0))) (.fn rfl) ?_
  refine SafeOps.quiet0 E_good rfl rfl rfl (v := V.bool (decide (a0_503 ≥ 0))) (.fn rfl) ?_
  refine SafeOps.bjoin 4 11 (b := ((decide (a0_503 ≥ 0)) && (decide (a0_503 < a1_504)))) (b1 := decide (a0_503 < a1_504)) (b0 := false) (fun hc506 K => ?_) (fun hc506 K => ?_) bj_and ?_
  · skip
    refine SafeOps.quiet0 E_good (congrArg some hc506) rfl rfl (v := V.int .i64 a0_503) (.fn rfl) ?_
    refine SafeOps.quiet0 E_good (congrArg some hc506) rfl rfl (v := V.int .i64 a1_504) (.fn rfl) ?_
    refine SafeOps.quiet0 E_good (congrArg some hc506) rfl rfl (v := V.bool (decide (a0_503 < a1_504))) (.fn rfl) ?_
    refine SafeOps.quiet0 E_good rfl rfl rfl (v := V.bool (decide (a0_503 < a1_504))) (.pickK rfl hc506 rfl) ?_
    exact SafeOps.drop' 4 rfl rfl rfl K
  · skip
    refine SafeOps.skip (congrArg some hc506) rfl rfl ?_
    refine SafeOps.skip (congrArg some hc506) rfl rfl ?_
    refine SafeOps.skip (congrArg some hc506) rfl rfl ?_
    refine SafeOps.quiet0 E_good rfl rfl rfl (v := V.bool false) (.pickK rfl hc506 rfl) ?_
    exact SafeOps.drop' 4 rfl rfl rfl K
  refine SafeOps.quiet0 E_good rfl rfl rfl (v := V.bool ((decide (a0_503 ≥ 0)) && (decide (a0_503 < a1_504)))) (.fn rfl) ?_
  refine SafeOps.nil ?_
  repeat (first | refine Safe.seq ?_ | refine Safe.skip ?_ | with_reducible refine thenQ.n ?_ | with_reducible refine blockQ.n ?_)
  refine Safe.ret ?_
  repeat (first | with_reducible refine thenQ.r ?_ | with_reducible refine blockQ.r ?_)
  obtain rfl := h
  exact retQ.gen (vs := [V.bool ((decide (a0_503 ≥ 0)) && (decide (a0_503 < a1_504)))]) rfl (.tmp (v := V.bool ((decide (a0_503 ≥ 0)) && (decide (a0_503 < a1_504)))) rfl .nil) (.free rfl) (by simp) (.inr rfl)

def go_life_state (a0_511 : Int) : Bool :=
  ((decide (a0_511 ≥ 1)) && (decide (a0_511 ≤ 7)))

theorem go_life_state_sc (a0_511 : Int) (r : Bool) (h : go_life_state a0_511 = r) : SC Tryd.prog gl 57 [V.int .i64 a0_511] (V.bool r) := by
  rw [go_life_state] at h
  refine SC.of E_good Tryd.func57 rfl (fun _ _ => Tryd.call57 _ _) rfl ?_
  repeat (first | refine Safe.seq ?_ | refine Safe.skip ?_ | with_reducible refine thenQ.n ?_ | with_reducible refine blockQ.n ?_)
  refine Safe.region ?_
  refine SafeOps.quiet0 E_good rfl rfl rfl (v := V.bool false) (.fn rfl) ?_
  refine SafeOps.nil ?_
  repeat (first | refine Safe.seq ?_ | refine Safe.skip ?_ | with_reducible refine thenQ.n ?_ | with_reducible refine blockQ.n ?_)
  refine Safe.region ?_
  refine SafeOps.quiet0 E_good rfl rfl rfl (v := V.int .i64 a0_511) (.fn rfl) ?_
  refine SafeOps.quiet0 E_good rfl rfl rfl (v := V.bool (decide (a0_511 ≥ 1))) (.fn rfl) ?_
  refine SafeOps.quiet0 E_good rfl rfl rfl (v := V.bool (decide (a0_511 ≥ 1))) (.fn rfl) ?_
  refine SafeOps.bjoin 3 8 (b := ((decide (a0_511 ≥ 1)) && (decide (a0_511 ≤ 7)))) (b1 := decide (a0_511 ≤ 7)) (b0 := false) (fun hc513 K => ?_) (fun hc513 K => ?_) bj_and ?_
  · skip
    refine SafeOps.quiet0 E_good (congrArg some hc513) rfl rfl (v := V.int .i64 a0_511) (.fn rfl) ?_
    refine SafeOps.quiet0 E_good (congrArg some hc513) rfl rfl (v := V.bool (decide (a0_511 ≤ 7))) (.fn rfl) ?_
    refine SafeOps.quiet0 E_good rfl rfl rfl (v := V.bool (decide (a0_511 ≤ 7))) (.pickK rfl hc513 rfl) ?_
    exact SafeOps.drop' 3 rfl rfl rfl K
  · skip
    refine SafeOps.skip (congrArg some hc513) rfl rfl ?_
    refine SafeOps.skip (congrArg some hc513) rfl rfl ?_
    refine SafeOps.quiet0 E_good rfl rfl rfl (v := V.bool false) (.pickK rfl hc513 rfl) ?_
    exact SafeOps.drop' 3 rfl rfl rfl K
  refine SafeOps.quiet0 E_good rfl rfl rfl (v := V.bool ((decide (a0_511 ≥ 1)) && (decide (a0_511 ≤ 7)))) (.fn rfl) ?_
  refine SafeOps.nil ?_
  repeat (first | refine Safe.seq ?_ | refine Safe.skip ?_ | with_reducible refine thenQ.n ?_ | with_reducible refine blockQ.n ?_)
  refine Safe.ret ?_
  repeat (first | with_reducible refine thenQ.r ?_ | with_reducible refine blockQ.r ?_)
  obtain rfl := h
  exact retQ.gen (vs := [V.bool ((decide (a0_511 ≥ 1)) && (decide (a0_511 ≤ 7)))]) rfl (.tmp (v := V.bool ((decide (a0_511 ≥ 1)) && (decide (a0_511 ≤ 7)))) rfl .nil) (.free rfl) (by simp) (.inr rfl)

noncomputable def go_slices_Min_int64_int64_s1 (a0_517 : List Int) : (Int × Int) → Option ((Int × Int) ⊕ (Int))
  | (v3_539, v4_540) =>
    if (decide (v4_540 < (a0_517.length : Int))) = true then
      if 0 ≤ v4_540 ∧ v4_540 < (a0_517.length : Int) then
        nextO ((if (gt a0_517 v4_540) < v3_539 then (gt a0_517 v4_540) else v3_539), IntKind.i64.wrap (v4_540 + 1))
      else none
    else
      inrO (
        some v3_539)

noncomputable def go_slices_Min_int64_int64 (a0_517 : List Int) : Option Int :=
  if (decide ((a0_517.length : Int) < 1)) = true then
    none
  else
    if 0 ≤ (0 : Int) ∧ (0 : Int) < (a0_517.length : Int) then
      whileO (go_slices_Min_int64_int64_s1 a0_517) ((gt a0_517 0), 1)
    else none

theorem go_slices_Min_int64_int64_sc (a0_517 : List Int) (r : Int) (h : go_slices_Min_int64_int64 a0_517 = some r) : SC Tryd.prog gl 60 [V.sl 1 (rws (fun n => [V.int .i64 n]) a0_517)] (V.int .i64 r) := by
  rw [go_slices_Min_int64_int64] at h
  refine SC.of E_good Tryd.func60 rfl (fun _ _ => Tryd.call60 _ _) rfl ?_
  repeat (first | refine Safe.seq ?_ | refine Safe.skip ?_ | with_reducible refine thenQ.n ?_ | with_reducible refine blockQ.n ?_)
  refine Safe.region ?_
  refine SafeOps.quiet0 E_good rfl rfl rfl (v := V.int .i64 0) (.fn rfl) ?_
  refine SafeOps.nil ?_
  repeat (first | refine Safe.seq ?_ | refine Safe.skip ?_ | with_reducible refine thenQ.n ?_ | with_reducible refine blockQ.n ?_)
  refine Safe.region ?_
  refine SafeOps.quiet0 E_good rfl rfl rfl (v := V.sl 1 (rws (fun n => [V.int .i64 n]) a0_517)) (.fn rfl) ?_
  refine SafeOps.quiet0 E_good rfl rfl rfl (v := V.int .i64 (a0_517.length : Int)) (.fnE rfl lenE) ?_
  refine SafeOps.quiet0 E_good rfl rfl rfl (v := V.bool (decide ((a0_517.length : Int) < 1))) (.fn rfl) ?_
  refine SafeOps.nil ?_
  repeat (first | refine Safe.seq ?_ | refine Safe.skip ?_ | with_reducible refine thenQ.n ?_ | with_reducible refine blockQ.n ?_)
  refine ifG h (fun hc531 h => ?_) (fun hc531 h => ?_)
  · skip
    refine Safe.condK rfl hc531 ?_
    repeat (first | refine Safe.seq ?_ | refine Safe.skip ?_ | with_reducible refine thenQ.n ?_ | with_reducible refine blockQ.n ?_)
    refine Safe.region ?_
    cases h
  · skip
    refine Safe.condN rfl hc531 ?_
    repeat (first | refine Safe.seq ?_ | refine Safe.skip ?_ | with_reducible refine thenQ.n ?_ | with_reducible refine blockQ.n ?_)
    refine Safe.region ?_
    refine SafeOps.quiet0 E_good rfl rfl rfl (v := V.sl 1 (rws (fun n => [V.int .i64 n]) a0_517)) (.fn rfl) ?_
    refine okG h (fun hb532 h => ?_)
    refine SafeOps.quiet0 E_good rfl rfl rfl (v := V.spt 1 (rws (fun n => [V.int .i64 n]) a0_517) (Int.toNat 0) 0) (.idxSlM (f := (fun n => [V.int .i64 n])) rfl rfl rfl rfl rfl hb532) ?_
    refine SafeOps.quiet0 E_good rfl rfl rfl (v := V.int .i64 (gt a0_517 0)) (.load rfl rfl (.sptM (f := (fun n => [V.int .i64 n])) hb532 rfl) rfl) ?_
    refine SafeOps.quiet0 E_good rfl rfl rfl (v := V.int .i64 (gt a0_517 0)) (.fn rfl) ?_
    refine SafeOps.nil ?_
    repeat (first | refine Safe.seq ?_ | refine Safe.skip ?_ | with_reducible refine thenQ.n ?_ | with_reducible refine blockQ.n ?_)
    refine Safe.region ?_
    refine SafeOps.quiet0 E_good rfl rfl rfl (v := V.int .i64 1) (.fn rfl) ?_
    refine SafeOps.nil ?_
    repeat (first | refine Safe.seq ?_ | refine Safe.skip ?_ | with_reducible refine thenQ.n ?_ | with_reducible refine blockQ.n ?_)
    refine Safe.block ?_
    repeat (first | refine Safe.seq ?_ | refine Safe.skip ?_ | with_reducible refine thenQ.n ?_ | with_reducible refine blockQ.n ?_)
    refine Safe.loopW (fun ((v3_539, v4_540) : Int × Int) => ⟨Tryd.f60.ntmps, [(0, V.sl 1 (rws (fun n => [V.int .i64 n]) a0_517)), (3, V.int .i64 v3_539), (4, V.int .i64 v4_540)], [], [], []⟩) h (.cov ⟨rfl, rfl, (upT_cons (.refl _) (upT_cons (.refl _) (upT_cons (.refl _) upT_nil))), upOb_nil, upOut_nil, rfl⟩) ?_
    rintro ⟨v3_539, v4_540⟩ ohr541 h hr541
    replace h : go_slices_Min_int64_int64_s1 a0_517 (v3_539, v4_540) = some ohr541 := h
    rw [go_slices_Min_int64_int64_s1] at h
    repeat (first | refine Safe.seq ?_ | refine Safe.skip ?_ | with_reducible refine thenQ.n ?_ | with_reducible refine blockQ.n ?_)
    refine Safe.region ?_
    refine SafeOps.quiet0 E_good rfl rfl rfl (v := V.int .i64 v4_540) (.fn rfl) ?_
    refine SafeOps.quiet0 E_good rfl rfl rfl (v := V.sl 1 (rws (fun n => [V.int .i64 n]) a0_517)) (.fn rfl) ?_
    refine SafeOps.quiet0 E_good rfl rfl rfl (v := V.int .i64 (a0_517.length : Int)) (.fnE rfl lenE) ?_
    refine SafeOps.quiet0 E_good rfl rfl rfl (v := V.bool (decide (v4_540 < (a0_517.length : Int)))) (.fn rfl) ?_
    refine SafeOps.nil ?_
    repeat (first | refine Safe.seq ?_ | refine Safe.skip ?_ | with_reducible refine thenQ.n ?_ | with_reducible refine blockQ.n ?_)
    refine ifG h (fun hc542 h => ?_) (fun hc542 h => ?_)
    · skip
      refine Safe.condK rfl hc542 ?_
      repeat (first | refine Safe.seq ?_ | refine Safe.skip ?_ | with_reducible refine thenQ.n ?_ | with_reducible refine blockQ.n ?_)
      refine Safe.block ?_
      repeat (first | refine Safe.seq ?_ | refine Safe.skip ?_ | with_reducible refine thenQ.n ?_ | with_reducible refine blockQ.n ?_)
      refine Safe.region ?_
      refine SafeOps.quiet0 E_good rfl rfl rfl (v := V.int .i64 v3_539) (.fn rfl) ?_
      refine SafeOps.quiet0 E_good rfl rfl rfl (v := V.sl 1 (rws (fun n => [V.int .i64 n]) a0_517)) (.fn rfl) ?_
      refine SafeOps.quiet0 E_good rfl rfl rfl (v := V.int .i64 v4_540) (.fn rfl) ?_
      refine okG h (fun hb543 h => ?_)
      refine SafeOps.quiet0 E_good rfl rfl rfl (v := V.spt 1 (rws (fun n => [V.int .i64 n]) a0_517) (Int.toNat v4_540) 0) (.idxSlM (f := (fun n => [V.int .i64 n])) rfl rfl rfl rfl rfl hb543) ?_
      refine SafeOps.quiet0 E_good rfl rfl rfl (v := V.int .i64 (gt a0_517 v4_540)) (.load rfl rfl (.sptM (f := (fun n => [V.int .i64 n])) hb543 rfl) rfl) ?_
      refine SafeOps.quiet0 E_good rfl rfl rfl (v := V.int .i64 (if (gt a0_517 v4_540) < v3_539 then (gt a0_517 v4_540) else v3_539)) (.fn rfl) ?_
      refine SafeOps.quiet0 E_good rfl rfl rfl (v := V.int .i64 (if (gt a0_517 v4_540) < v3_539 then (gt a0_517 v4_540) else v3_539)) (.fn rfl) ?_
      refine SafeOps.nil ?_
      repeat (first | refine Safe.seq ?_ | refine Safe.skip ?_ | with_reducible refine thenQ.n ?_ | with_reducible refine blockQ.n ?_)
      refine Safe.region ?_
      refine SafeOps.quiet0 E_good rfl rfl rfl (v := V.int .i64 v4_540) (.fn rfl) ?_
      refine SafeOps.quiet0 E_good rfl rfl rfl (v := V.int .i64 (IntKind.i64.wrap (v4_540 + 1))) (.fn rfl) ?_
      refine SafeOps.quiet0 E_good rfl rfl rfl (v := V.int .i64 (IntKind.i64.wrap (v4_540 + 1))) (.fn rfl) ?_
      refine SafeOps.nil ?_
      repeat (first | refine Safe.seq ?_ | refine Safe.skip ?_ | with_reducible refine thenQ.n ?_ | with_reducible refine blockQ.n ?_)
      exact ⟨_, next_out h, (.cov ⟨rfl, rfl, (upT_cons (.refl _) (upT_cons (.refl _) (upT_cons (.refl _) upT_nil))), upOb_nil, upOut_nil, rfl⟩)⟩
    · skip
      refine Safe.condN rfl hc542 ?_
      repeat (first | refine Safe.seq ?_ | refine Safe.skip ?_ | with_reducible refine thenQ.n ?_ | with_reducible refine blockQ.n ?_)
      refine Safe.exit ?_
      repeat (first | with_reducible refine thenQ.e ?_ | with_reducible refine blockQ.x rfl ?_ | with_reducible refine blockQ.y rfl ?_)
      replace h := inr_out h hr541
      repeat (first | refine Safe.seq ?_ | refine Safe.skip ?_ | with_reducible refine thenQ.n ?_ | with_reducible refine blockQ.n ?_)
      refine Safe.region ?_
      refine SafeOps.quiet0 E_good rfl rfl rfl (v := V.int .i64 v3_539) (.fn rfl) ?_
      refine SafeOps.quiet0 E_good rfl rfl rfl (v := V.int .i64 v3_539) (.fn rfl) ?_
      refine SafeOps.nil ?_
      repeat (first | refine Safe.seq ?_ | refine Safe.skip ?_ | with_reducible refine thenQ.n ?_ | with_reducible refine blockQ.n ?_)
      refine Safe.ret ?_
      repeat (first | with_reducible refine thenQ.r ?_ | with_reducible refine blockQ.r ?_)
      obtain rfl := Option.some.inj h
      exact retQ.gen (vs := [V.int .i64 v3_539]) rfl (.tmp (v := V.int .i64 v3_539) rfl .nil) (.free rfl) (by simp) (.inr rfl)

noncomputable def go_life_Check (a0_501 : api_Task) : Option Int :=
  if (!((((((((decide (a0_501.Id ≥ 0)) && (go_life_below a0_501.Tenant 16)) && (go_life_below a0_501.Prog 16)) && (go_life_below a0_501.Pc 33)) && (go_life_below a0_501.Unit 100)) && (go_life_state a0_501.State)) && (decide (a0_501.Ran ≥ 0))) && (decide (a0_501.Ran ≤ 1099511627776)))) = true then
    some 1
  else
    (go_slices_Min_int64_int64 [a0_501.Keeps.a0, a0_501.Keeps.a1, a0_501.Keeps.a2, a0_501.Keeps.a3]).bind fun x_1068 =>
    if (decide (x_1068 < (-1))) = true then
      some 1
    else
      some 0

theorem go_life_Check_sc (a0_501 : api_Task) (r : Int) (h : go_life_Check a0_501 = some r) : SC Tryd.prog gl 56 [V.agg [V.int .i64 a0_501.Id, V.int .i64 a0_501.Tenant, V.int .i64 a0_501.Prog, V.int .i64 a0_501.Pc, V.int .i64 a0_501.Unit, V.int .i64 a0_501.Keeps.a0, V.int .i64 a0_501.Keeps.a1, V.int .i64 a0_501.Keeps.a2, V.int .i64 a0_501.Keeps.a3, V.int .i64 a0_501.State, V.int .i64 a0_501.Ran]] (V.int .i64 r) := by
  rw [go_life_Check] at h
  refine SC.of E_good Tryd.func56 rfl (fun _ _ => Tryd.call56 _ _) rfl ?_
  repeat (first | refine Safe.seq ?_ | refine Safe.skip ?_ | with_reducible refine thenQ.n ?_ | with_reducible refine blockQ.n ?_)
  refine Safe.region ?_
  refine SafeOps.quiet1 E_good rfl rfl rfl (.box rfl rfl) rfl ?_
  refine SafeOps.quiet0 E_good rfl rfl rfl (v := V.int .i64 0) (.fn rfl) ?_
  refine SafeOps.nil ?_
  repeat (first | refine Safe.seq ?_ | refine Safe.skip ?_ | with_reducible refine thenQ.n ?_ | with_reducible refine blockQ.n ?_)
  refine Safe.region ?_
  refine SafeOps.quiet0 E_good rfl rfl rfl (v := V.ptr [1] 0 0) (.fn rfl) ?_
  refine SafeOps.quiet0 E_good rfl rfl rfl (v := V.int .i64 a0_501.Id) (.load rfl rfl (.box rfl rfl) rfl) ?_
  refine SafeOps.quiet0 E_good rfl rfl rfl (v := V.bool (decide (a0_501.Id ≥ 0))) (.fn rfl) ?_
  refine SafeOps.quiet0 E_good rfl rfl rfl (v := V.bool (decide (a0_501.Id ≥ 0))) (.fn rfl) ?_
  refine SafeOps.bjoin 4 11 (b := ((decide (a0_501.Id ≥ 0)) && (go_life_below a0_501.Tenant 16))) (b1 := go_life_below a0_501.Tenant 16) (b0 := false) (fun hc1058 K => ?_) (fun hc1058 K => ?_) bj_and ?_
  · skip
    refine SafeOps.quiet0 E_good (congrArg some hc1058) rfl rfl (v := V.ptr [1] 0 1) (.fn rfl) ?_
    refine SafeOps.quiet0 E_good (congrArg some hc1058) rfl rfl (v := V.int .i64 a0_501.Tenant) (.load rfl rfl (.box rfl rfl) rfl) ?_
    refine SafeOps.quiet0 E_good (congrArg some hc1058) rfl rfl (v := V.bool (go_life_below a0_501.Tenant 16)) (.callP rfl rfl (go_life_below_sc a0_501.Tenant 16 _ rfl) rfl) ?_
    refine SafeOps.quiet0 E_good rfl rfl rfl (v := V.bool (go_life_below a0_501.Tenant 16)) (.pickK rfl hc1058 rfl) ?_
    exact SafeOps.drop' 4 rfl rfl rfl K
  · skip
    refine SafeOps.skip (congrArg some hc1058) rfl rfl ?_
    refine SafeOps.skip (congrArg some hc1058) rfl rfl ?_
    refine SafeOps.skip (congrArg some hc1058) rfl rfl ?_
    refine SafeOps.quiet0 E_good rfl rfl rfl (v := V.bool false) (.pickK rfl hc1058 rfl) ?_
    exact SafeOps.drop' 4 rfl rfl rfl K
  refine SafeOps.quiet0 E_good rfl rfl rfl (v := V.bool ((decide (a0_501.Id ≥ 0)) && (go_life_below a0_501.Tenant 16))) (.fn rfl) ?_
  refine SafeOps.bjoin 4 16 (b := (((decide (a0_501.Id ≥ 0)) && (go_life_below a0_501.Tenant 16)) && (go_life_below a0_501.Prog 16))) (b1 := go_life_below a0_501.Prog 16) (b0 := false) (fun hc1059 K => ?_) (fun hc1059 K => ?_) bj_and ?_
  · skip
    refine SafeOps.quiet0 E_good (congrArg some hc1059) rfl rfl (v := V.ptr [1] 0 2) (.fn rfl) ?_
    refine SafeOps.quiet0 E_good (congrArg some hc1059) rfl rfl (v := V.int .i64 a0_501.Prog) (.load rfl rfl (.box rfl rfl) rfl) ?_
    refine SafeOps.quiet0 E_good (congrArg some hc1059) rfl rfl (v := V.bool (go_life_below a0_501.Prog 16)) (.callP rfl rfl (go_life_below_sc a0_501.Prog 16 _ rfl) rfl) ?_
    refine SafeOps.quiet0 E_good rfl rfl rfl (v := V.bool (go_life_below a0_501.Prog 16)) (.pickK rfl hc1059 rfl) ?_
    exact SafeOps.drop' 4 rfl rfl rfl K
  · skip
    refine SafeOps.skip (congrArg some hc1059) rfl rfl ?_
    refine SafeOps.skip (congrArg some hc1059) rfl rfl ?_
    refine SafeOps.skip (congrArg some hc1059) rfl rfl ?_
    refine SafeOps.quiet0 E_good rfl rfl rfl (v := V.bool false) (.pickK rfl hc1059 rfl) ?_
    exact SafeOps.drop' 4 rfl rfl rfl K
  refine SafeOps.quiet0 E_good rfl rfl rfl (v := V.bool (((decide (a0_501.Id ≥ 0)) && (go_life_below a0_501.Tenant 16)) && (go_life_below a0_501.Prog 16))) (.fn rfl) ?_
  refine SafeOps.bjoin 4 21 (b := ((((decide (a0_501.Id ≥ 0)) && (go_life_below a0_501.Tenant 16)) && (go_life_below a0_501.Prog 16)) && (go_life_below a0_501.Pc 33))) (b1 := go_life_below a0_501.Pc 33) (b0 := false) (fun hc1060 K => ?_) (fun hc1060 K => ?_) bj_and ?_
  · skip
    refine SafeOps.quiet0 E_good (congrArg some hc1060) rfl rfl (v := V.ptr [1] 0 3) (.fn rfl) ?_
    refine SafeOps.quiet0 E_good (congrArg some hc1060) rfl rfl (v := V.int .i64 a0_501.Pc) (.load rfl rfl (.box rfl rfl) rfl) ?_
    refine SafeOps.quiet0 E_good (congrArg some hc1060) rfl rfl (v := V.bool (go_life_below a0_501.Pc 33)) (.callP rfl rfl (go_life_below_sc a0_501.Pc 33 _ rfl) rfl) ?_
    refine SafeOps.quiet0 E_good rfl rfl rfl (v := V.bool (go_life_below a0_501.Pc 33)) (.pickK rfl hc1060 rfl) ?_
    exact SafeOps.drop' 4 rfl rfl rfl K
  · skip
    refine SafeOps.skip (congrArg some hc1060) rfl rfl ?_
    refine SafeOps.skip (congrArg some hc1060) rfl rfl ?_
    refine SafeOps.skip (congrArg some hc1060) rfl rfl ?_
    refine SafeOps.quiet0 E_good rfl rfl rfl (v := V.bool false) (.pickK rfl hc1060 rfl) ?_
    exact SafeOps.drop' 4 rfl rfl rfl K
  refine SafeOps.quiet0 E_good rfl rfl rfl (v := V.bool ((((decide (a0_501.Id ≥ 0)) && (go_life_below a0_501.Tenant 16)) && (go_life_below a0_501.Prog 16)) && (go_life_below a0_501.Pc 33))) (.fn rfl) ?_
  refine SafeOps.bjoin 4 26 (b := (((((decide (a0_501.Id ≥ 0)) && (go_life_below a0_501.Tenant 16)) && (go_life_below a0_501.Prog 16)) && (go_life_below a0_501.Pc 33)) && (go_life_below a0_501.Unit 100))) (b1 := go_life_below a0_501.Unit 100) (b0 := false) (fun hc1061 K => ?_) (fun hc1061 K => ?_) bj_and ?_
  · skip
    refine SafeOps.quiet0 E_good (congrArg some hc1061) rfl rfl (v := V.ptr [1] 0 4) (.fn rfl) ?_
    refine SafeOps.quiet0 E_good (congrArg some hc1061) rfl rfl (v := V.int .i64 a0_501.Unit) (.load rfl rfl (.box rfl rfl) rfl) ?_
    refine SafeOps.quiet0 E_good (congrArg some hc1061) rfl rfl (v := V.bool (go_life_below a0_501.Unit 100)) (.callP rfl rfl (go_life_below_sc a0_501.Unit 100 _ rfl) rfl) ?_
    refine SafeOps.quiet0 E_good rfl rfl rfl (v := V.bool (go_life_below a0_501.Unit 100)) (.pickK rfl hc1061 rfl) ?_
    exact SafeOps.drop' 4 rfl rfl rfl K
  · skip
    refine SafeOps.skip (congrArg some hc1061) rfl rfl ?_
    refine SafeOps.skip (congrArg some hc1061) rfl rfl ?_
    refine SafeOps.skip (congrArg some hc1061) rfl rfl ?_
    refine SafeOps.quiet0 E_good rfl rfl rfl (v := V.bool false) (.pickK rfl hc1061 rfl) ?_
    exact SafeOps.drop' 4 rfl rfl rfl K
  refine SafeOps.quiet0 E_good rfl rfl rfl (v := V.bool (((((decide (a0_501.Id ≥ 0)) && (go_life_below a0_501.Tenant 16)) && (go_life_below a0_501.Prog 16)) && (go_life_below a0_501.Pc 33)) && (go_life_below a0_501.Unit 100))) (.fn rfl) ?_
  refine SafeOps.bjoin 4 31 (b := ((((((decide (a0_501.Id ≥ 0)) && (go_life_below a0_501.Tenant 16)) && (go_life_below a0_501.Prog 16)) && (go_life_below a0_501.Pc 33)) && (go_life_below a0_501.Unit 100)) && (go_life_state a0_501.State))) (b1 := go_life_state a0_501.State) (b0 := false) (fun hc1062 K => ?_) (fun hc1062 K => ?_) bj_and ?_
  · skip
    refine SafeOps.quiet0 E_good (congrArg some hc1062) rfl rfl (v := V.ptr [1] 0 9) (.fn rfl) ?_
    refine SafeOps.quiet0 E_good (congrArg some hc1062) rfl rfl (v := V.int .i64 a0_501.State) (.load rfl rfl (.box rfl rfl) rfl) ?_
    refine SafeOps.quiet0 E_good (congrArg some hc1062) rfl rfl (v := V.bool (go_life_state a0_501.State)) (.callP rfl rfl (go_life_state_sc a0_501.State _ rfl) rfl) ?_
    refine SafeOps.quiet0 E_good rfl rfl rfl (v := V.bool (go_life_state a0_501.State)) (.pickK rfl hc1062 rfl) ?_
    exact SafeOps.drop' 4 rfl rfl rfl K
  · skip
    refine SafeOps.skip (congrArg some hc1062) rfl rfl ?_
    refine SafeOps.skip (congrArg some hc1062) rfl rfl ?_
    refine SafeOps.skip (congrArg some hc1062) rfl rfl ?_
    refine SafeOps.quiet0 E_good rfl rfl rfl (v := V.bool false) (.pickK rfl hc1062 rfl) ?_
    exact SafeOps.drop' 4 rfl rfl rfl K
  refine SafeOps.quiet0 E_good rfl rfl rfl (v := V.bool ((((((decide (a0_501.Id ≥ 0)) && (go_life_below a0_501.Tenant 16)) && (go_life_below a0_501.Prog 16)) && (go_life_below a0_501.Pc 33)) && (go_life_below a0_501.Unit 100)) && (go_life_state a0_501.State))) (.fn rfl) ?_
  refine SafeOps.bjoin 4 36 (b := (((((((decide (a0_501.Id ≥ 0)) && (go_life_below a0_501.Tenant 16)) && (go_life_below a0_501.Prog 16)) && (go_life_below a0_501.Pc 33)) && (go_life_below a0_501.Unit 100)) && (go_life_state a0_501.State)) && (decide (a0_501.Ran ≥ 0)))) (b1 := decide (a0_501.Ran ≥ 0)) (b0 := false) (fun hc1063 K => ?_) (fun hc1063 K => ?_) bj_and ?_
  · skip
    refine SafeOps.quiet0 E_good (congrArg some hc1063) rfl rfl (v := V.ptr [1] 0 10) (.fn rfl) ?_
    refine SafeOps.quiet0 E_good (congrArg some hc1063) rfl rfl (v := V.int .i64 a0_501.Ran) (.load rfl rfl (.box rfl rfl) rfl) ?_
    refine SafeOps.quiet0 E_good (congrArg some hc1063) rfl rfl (v := V.bool (decide (a0_501.Ran ≥ 0))) (.fn rfl) ?_
    refine SafeOps.quiet0 E_good rfl rfl rfl (v := V.bool (decide (a0_501.Ran ≥ 0))) (.pickK rfl hc1063 rfl) ?_
    exact SafeOps.drop' 4 rfl rfl rfl K
  · skip
    refine SafeOps.skip (congrArg some hc1063) rfl rfl ?_
    refine SafeOps.skip (congrArg some hc1063) rfl rfl ?_
    refine SafeOps.skip (congrArg some hc1063) rfl rfl ?_
    refine SafeOps.quiet0 E_good rfl rfl rfl (v := V.bool false) (.pickK rfl hc1063 rfl) ?_
    exact SafeOps.drop' 4 rfl rfl rfl K
  refine SafeOps.quiet0 E_good rfl rfl rfl (v := V.bool (((((((decide (a0_501.Id ≥ 0)) && (go_life_below a0_501.Tenant 16)) && (go_life_below a0_501.Prog 16)) && (go_life_below a0_501.Pc 33)) && (go_life_below a0_501.Unit 100)) && (go_life_state a0_501.State)) && (decide (a0_501.Ran ≥ 0)))) (.fn rfl) ?_
  refine SafeOps.bjoin 4 41 (b := ((((((((decide (a0_501.Id ≥ 0)) && (go_life_below a0_501.Tenant 16)) && (go_life_below a0_501.Prog 16)) && (go_life_below a0_501.Pc 33)) && (go_life_below a0_501.Unit 100)) && (go_life_state a0_501.State)) && (decide (a0_501.Ran ≥ 0))) && (decide (a0_501.Ran ≤ 1099511627776)))) (b1 := decide (a0_501.Ran ≤ 1099511627776)) (b0 := false) (fun hc1064 K => ?_) (fun hc1064 K => ?_) bj_and ?_
  · skip
    refine SafeOps.quiet0 E_good (congrArg some hc1064) rfl rfl (v := V.ptr [1] 0 10) (.fn rfl) ?_
    refine SafeOps.quiet0 E_good (congrArg some hc1064) rfl rfl (v := V.int .i64 a0_501.Ran) (.load rfl rfl (.box rfl rfl) rfl) ?_
    refine SafeOps.quiet0 E_good (congrArg some hc1064) rfl rfl (v := V.bool (decide (a0_501.Ran ≤ 1099511627776))) (.fn rfl) ?_
    refine SafeOps.quiet0 E_good rfl rfl rfl (v := V.bool (decide (a0_501.Ran ≤ 1099511627776))) (.pickK rfl hc1064 rfl) ?_
    exact SafeOps.drop' 4 rfl rfl rfl K
  · skip
    refine SafeOps.skip (congrArg some hc1064) rfl rfl ?_
    refine SafeOps.skip (congrArg some hc1064) rfl rfl ?_
    refine SafeOps.skip (congrArg some hc1064) rfl rfl ?_
    refine SafeOps.quiet0 E_good rfl rfl rfl (v := V.bool false) (.pickK rfl hc1064 rfl) ?_
    exact SafeOps.drop' 4 rfl rfl rfl K
  refine SafeOps.quiet0 E_good rfl rfl rfl (v := V.bool ((((((((decide (a0_501.Id ≥ 0)) && (go_life_below a0_501.Tenant 16)) && (go_life_below a0_501.Prog 16)) && (go_life_below a0_501.Pc 33)) && (go_life_below a0_501.Unit 100)) && (go_life_state a0_501.State)) && (decide (a0_501.Ran ≥ 0))) && (decide (a0_501.Ran ≤ 1099511627776)))) (.fn rfl) ?_
  refine SafeOps.nil ?_
  repeat (first | refine Safe.seq ?_ | refine Safe.skip ?_ | with_reducible refine thenQ.n ?_ | with_reducible refine blockQ.n ?_)
  refine Safe.region ?_
  refine SafeOps.quiet0 E_good rfl rfl rfl (v := V.bool ((((((((decide (a0_501.Id ≥ 0)) && (go_life_below a0_501.Tenant 16)) && (go_life_below a0_501.Prog 16)) && (go_life_below a0_501.Pc 33)) && (go_life_below a0_501.Unit 100)) && (go_life_state a0_501.State)) && (decide (a0_501.Ran ≥ 0))) && (decide (a0_501.Ran ≤ 1099511627776)))) (.fn rfl) ?_
  refine SafeOps.quiet0 E_good rfl rfl rfl (v := V.bool (!((((((((decide (a0_501.Id ≥ 0)) && (go_life_below a0_501.Tenant 16)) && (go_life_below a0_501.Prog 16)) && (go_life_below a0_501.Pc 33)) && (go_life_below a0_501.Unit 100)) && (go_life_state a0_501.State)) && (decide (a0_501.Ran ≥ 0))) && (decide (a0_501.Ran ≤ 1099511627776))))) (.fn rfl) ?_
  refine SafeOps.quiet0 E_good rfl rfl rfl (v := V.bool (!((((((((decide (a0_501.Id ≥ 0)) && (go_life_below a0_501.Tenant 16)) && (go_life_below a0_501.Prog 16)) && (go_life_below a0_501.Pc 33)) && (go_life_below a0_501.Unit 100)) && (go_life_state a0_501.State)) && (decide (a0_501.Ran ≥ 0))) && (decide (a0_501.Ran ≤ 1099511627776))))) (.fn rfl) ?_
  refine ifG h (fun hc1065 h => ?_) (fun hc1065 h => ?_)
  · skip
    refine SafeOps.skip (congrArg (fun b => some (!b)) hc1065) rfl rfl ?_
    refine SafeOps.skip (congrArg (fun b => some (!b)) hc1065) rfl rfl ?_
    refine SafeOps.skip (congrArg (fun b => some (!b)) hc1065) rfl rfl ?_
    refine SafeOps.skip (congrArg (fun b => some (!b)) hc1065) rfl rfl ?_
    refine SafeOps.quiet0 E_good rfl rfl rfl (v := V.bool true) (.pickK rfl hc1065 rfl) ?_
    refine SafeOps.nil ?_
    repeat (first | refine Safe.seq ?_ | refine Safe.skip ?_ | with_reducible refine thenQ.n ?_ | with_reducible refine blockQ.n ?_)
    refine Safe.condK rfl rfl ?_
    repeat (first | refine Safe.seq ?_ | refine Safe.skip ?_ | with_reducible refine thenQ.n ?_ | with_reducible refine blockQ.n ?_)
    refine Safe.region ?_
    refine SafeOps.quiet0 E_good rfl rfl rfl (v := V.int .i64 1) (.fn rfl) ?_
    refine SafeOps.nil ?_
    repeat (first | refine Safe.seq ?_ | refine Safe.skip ?_ | with_reducible refine thenQ.n ?_ | with_reducible refine blockQ.n ?_)
    refine Safe.ret ?_
    repeat (first | with_reducible refine thenQ.r ?_ | with_reducible refine blockQ.r ?_)
    obtain rfl := Option.some.inj h
    exact retQ.gen (vs := [V.int .i64 1]) rfl (.tmp (v := V.int .i64 1) rfl .nil) (.free rfl) (by simp) (.inr rfl)
  · skip
    refine SafeOps.quiet0 E_good (congrArg (fun b => some (!b)) hc1065) rfl rfl (v := V.ptr [1] 0 5) (.fn rfl) ?_
    refine SafeOps.quiet0 E_good (congrArg (fun b => some (!b)) hc1065) rfl rfl (v := V.bref [1] 5 1 4) (.slArrM rfl rfl rfl rfl rfl rfl rfl) ?_
    refine bindG h ?_
    intro x_1068 he1069 h
    refine SafeOps.quiet0 E_good (congrArg (fun b => some (!b)) hc1065) rfl rfl (v := V.int .i64 x_1068) (.callS rfl (.cons (.bref rfl rfl rfl) .nil) (go_slices_Min_int64_int64_sc [a0_501.Keeps.a0, a0_501.Keeps.a1, a0_501.Keeps.a2, a0_501.Keeps.a3] _ he1069) (.plain rfl) rfl) ?_
    refine SafeOps.quiet0 E_good (congrArg (fun b => some (!b)) hc1065) rfl rfl (v := V.bool (decide (x_1068 < (-1)))) (.fn rfl) ?_
    refine SafeOps.quiet0 E_good rfl rfl rfl (v := V.bool (decide (x_1068 < (-1)))) (.pickK rfl hc1065 rfl) ?_
    refine SafeOps.nil ?_
    repeat (first | refine Safe.seq ?_ | refine Safe.skip ?_ | with_reducible refine thenQ.n ?_ | with_reducible refine blockQ.n ?_)
    refine ifG h (fun hc1070 h => ?_) (fun hc1070 h => ?_)
    · skip
      refine Safe.condK rfl hc1070 ?_
      repeat (first | refine Safe.seq ?_ | refine Safe.skip ?_ | with_reducible refine thenQ.n ?_ | with_reducible refine blockQ.n ?_)
      refine Safe.region ?_
      refine SafeOps.quiet0 E_good rfl rfl rfl (v := V.int .i64 1) (.fn rfl) ?_
      refine SafeOps.nil ?_
      repeat (first | refine Safe.seq ?_ | refine Safe.skip ?_ | with_reducible refine thenQ.n ?_ | with_reducible refine blockQ.n ?_)
      refine Safe.ret ?_
      repeat (first | with_reducible refine thenQ.r ?_ | with_reducible refine blockQ.r ?_)
      obtain rfl := Option.some.inj h
      exact retQ.gen (vs := [V.int .i64 1]) rfl (.tmp (v := V.int .i64 1) rfl .nil) (.free rfl) (by simp) (.inr rfl)
    · skip
      refine Safe.condN rfl hc1070 ?_
      repeat (first | refine Safe.seq ?_ | refine Safe.skip ?_ | with_reducible refine thenQ.n ?_ | with_reducible refine blockQ.n ?_)
      refine Safe.region ?_
      refine SafeOps.quiet0 E_good rfl rfl rfl (v := V.int .i64 0) (.fn rfl) ?_
      refine SafeOps.nil ?_
      repeat (first | refine Safe.seq ?_ | refine Safe.skip ?_ | with_reducible refine thenQ.n ?_ | with_reducible refine blockQ.n ?_)
      refine Safe.ret ?_
      repeat (first | with_reducible refine thenQ.r ?_ | with_reducible refine blockQ.r ?_)
      obtain rfl := Option.some.inj h
      exact retQ.gen (vs := [V.int .i64 0]) rfl (.tmp (v := V.int .i64 0) rfl .nil) (.free rfl) (by simp) (.inr rfl)

noncomputable def go_life_New (a0_498 : Int) (a1_499 : Int) (a2_500 : Int) : Option (api_Task × Int) :=
  (go_life_Check (api_Task.mk a0_498 a1_499 a2_500 0 0 (A4_Int.mk (-1) (-1) (-1) (-1)) 1 0)).bind fun x_1074 =>
  if (x_1074 != 0) = true then
    some (api_Task.zero, x_1074)
  else
    some ((api_Task.mk a0_498 a1_499 a2_500 0 0 (A4_Int.mk (-1) (-1) (-1) (-1)) 1 0), 0)

theorem go_life_New_sc (a0_498 : Int) (a1_499 : Int) (a2_500 : Int) (r : api_Task × Int) (h : go_life_New a0_498 a1_499 a2_500 = some r) : SC Tryd.prog gl 50 [V.int .i64 a0_498, V.int .i64 a1_499, V.int .i64 a2_500] (V.tup [V.agg [V.int .i64 r.1.Id, V.int .i64 r.1.Tenant, V.int .i64 r.1.Prog, V.int .i64 r.1.Pc, V.int .i64 r.1.Unit, V.int .i64 r.1.Keeps.a0, V.int .i64 r.1.Keeps.a1, V.int .i64 r.1.Keeps.a2, V.int .i64 r.1.Keeps.a3, V.int .i64 r.1.State, V.int .i64 r.1.Ran], V.int .i64 r.2]) := by
  rw [go_life_New] at h
  refine SC.of E_good Tryd.func50 rfl (fun _ _ => Tryd.call50 _ _) rfl ?_
  repeat (first | refine Safe.seq ?_ | refine Safe.skip ?_ | with_reducible refine thenQ.n ?_ | with_reducible refine blockQ.n ?_)
  refine Safe.region ?_
  refine SafeOps.quiet1 E_good rfl rfl rfl (.alloc rfl rfl) rfl ?_
  refine SafeOps.quiet0 E_good rfl rfl rfl (v := V.int .i64 0) (.fn rfl) ?_
  refine SafeOps.nil ?_
  repeat (first | refine Safe.seq ?_ | refine Safe.skip ?_ | with_reducible refine thenQ.n ?_ | with_reducible refine blockQ.n ?_)
  refine Safe.region ?_
  refine SafeOps.quiet0 E_good rfl rfl rfl (v := V.int .i64 a0_498) (.fn rfl) ?_
  refine SafeOps.quiet0 E_good rfl rfl rfl (v := V.int .i64 a1_499) (.fn rfl) ?_
  refine SafeOps.quiet0 E_good rfl rfl rfl (v := V.int .i64 a2_500) (.fn rfl) ?_
  refine SafeOps.quiet0 E_good rfl rfl rfl (v := V.agg [V.int .i64 (-1), V.int .i64 (-1), V.int .i64 (-1), V.int .i64 (-1)]) (.fn rfl) ?_
  refine SafeOps.quiet0 E_good rfl rfl rfl (v := V.agg [V.int .i64 a0_498, V.int .i64 a1_499, V.int .i64 a2_500, V.int .i64 0, V.int .i64 0, V.int .i64 (-1), V.int .i64 (-1), V.int .i64 (-1), V.int .i64 (-1), V.int .i64 1, V.int .i64 0]) (.fn rfl) ?_
  refine SafeOps.quiet1 E_good rfl rfl rfl (.alloc rfl rfl) rfl ?_
  refine SafeOps.store (z := Obj.box [V.int .i64 a0_498, V.int .i64 a1_499, V.int .i64 a2_500, V.int .i64 0, V.int .i64 0, V.int .i64 (-1), V.int .i64 (-1), V.int .i64 (-1), V.int .i64 (-1), V.int .i64 1, V.int .i64 0]) E_good rfl rfl rfl rfl rfl rfl rfl (.boxM (c := 11) rfl rfl (Nat.le_of_ble_eq_true rfl) rfl) ?_
  refine SafeOps.nil ?_
  repeat (first | refine Safe.seq ?_ | refine Safe.skip ?_ | with_reducible refine thenQ.n ?_ | with_reducible refine blockQ.n ?_)
  refine Safe.region ?_
  refine SafeOps.quiet0 E_good rfl rfl rfl (v := V.agg [V.int .i64 a0_498, V.int .i64 a1_499, V.int .i64 a2_500, V.int .i64 0, V.int .i64 0, V.int .i64 (-1), V.int .i64 (-1), V.int .i64 (-1), V.int .i64 (-1), V.int .i64 1, V.int .i64 0]) (.load rfl rfl (.box rfl rfl) rfl) ?_
  refine bindG h ?_
  intro x_1074 he1075 h
  refine SafeOps.quiet0 E_good rfl rfl rfl (v := V.int .i64 x_1074) (.callP rfl rfl (go_life_Check_sc (api_Task.mk a0_498 a1_499 a2_500 0 0 (A4_Int.mk (-1) (-1) (-1) (-1)) 1 0) _ he1075) rfl) ?_
  refine SafeOps.quiet0 E_good rfl rfl rfl (v := V.int .i64 x_1074) (.fn rfl) ?_
  refine SafeOps.nil ?_
  repeat (first | refine Safe.seq ?_ | refine Safe.skip ?_ | with_reducible refine thenQ.n ?_ | with_reducible refine blockQ.n ?_)
  refine Safe.region ?_
  refine SafeOps.quiet0 E_good rfl rfl rfl (v := V.int .i64 x_1074) (.fn rfl) ?_
  refine SafeOps.quiet0 E_good rfl rfl rfl (v := V.bool (x_1074 != 0)) (.fn rfl) ?_
  refine SafeOps.nil ?_
  repeat (first | refine Safe.seq ?_ | refine Safe.skip ?_ | with_reducible refine thenQ.n ?_ | with_reducible refine blockQ.n ?_)
  refine ifG h (fun hc1076 h => ?_) (fun hc1076 h => ?_)
  · skip
    refine Safe.condK rfl hc1076 ?_
    repeat (first | refine Safe.seq ?_ | refine Safe.skip ?_ | with_reducible refine thenQ.n ?_ | with_reducible refine blockQ.n ?_)
    refine Safe.region ?_
    refine SafeOps.quiet0 E_good rfl rfl rfl (v := V.agg [V.int .i64 0, V.int .i64 0, V.int .i64 0, V.int .i64 0, V.int .i64 0, V.int .i64 0, V.int .i64 0, V.int .i64 0, V.int .i64 0, V.int .i64 0, V.int .i64 0]) (.fn rfl) ?_
    refine SafeOps.quiet0 E_good rfl rfl rfl (v := V.int .i64 x_1074) (.fn rfl) ?_
    refine SafeOps.store (z := Obj.box [V.int .i64 0, V.int .i64 0, V.int .i64 0, V.int .i64 0, V.int .i64 0, V.int .i64 0, V.int .i64 0, V.int .i64 0, V.int .i64 0, V.int .i64 0, V.int .i64 0]) E_good rfl rfl rfl rfl rfl rfl rfl (.boxM (c := 11) rfl rfl (Nat.le_of_ble_eq_true rfl) rfl) ?_
    refine SafeOps.quiet0 E_good rfl rfl rfl (v := V.int .i64 x_1074) (.fn rfl) ?_
    refine SafeOps.nil ?_
    repeat (first | refine Safe.seq ?_ | refine Safe.skip ?_ | with_reducible refine thenQ.n ?_ | with_reducible refine blockQ.n ?_)
    refine Safe.ret ?_
    repeat (first | with_reducible refine thenQ.r ?_ | with_reducible refine blockQ.r ?_)
    obtain rfl := Option.some.inj h
    exact retQ.gen (vs := [V.agg [V.int .i64 0, V.int .i64 0, V.int .i64 0, V.int .i64 0, V.int .i64 0, V.int .i64 0, V.int .i64 0, V.int .i64 0, V.int .i64 0, V.int .i64 0, V.int .i64 0], V.int .i64 x_1074]) rfl (.cell (v := V.agg [V.int .i64 0, V.int .i64 0, V.int .i64 0, V.int .i64 0, V.int .i64 0, V.int .i64 0, V.int .i64 0, V.int .i64 0, V.int .i64 0, V.int .i64 0, V.int .i64 0]) rfl rfl (.box rfl rfl) rfl (.tmp (v := V.int .i64 x_1074) rfl .nil)) (.free rfl) (by simp) (.inr rfl)
  · skip
    refine Safe.condN rfl hc1076 ?_
    repeat (first | refine Safe.seq ?_ | refine Safe.skip ?_ | with_reducible refine thenQ.n ?_ | with_reducible refine blockQ.n ?_)
    refine Safe.region ?_
    refine SafeOps.quiet0 E_good rfl rfl rfl (v := V.agg [V.int .i64 a0_498, V.int .i64 a1_499, V.int .i64 a2_500, V.int .i64 0, V.int .i64 0, V.int .i64 (-1), V.int .i64 (-1), V.int .i64 (-1), V.int .i64 (-1), V.int .i64 1, V.int .i64 0]) (.load rfl rfl (.box rfl rfl) rfl) ?_
    refine SafeOps.store (z := Obj.box [V.int .i64 a0_498, V.int .i64 a1_499, V.int .i64 a2_500, V.int .i64 0, V.int .i64 0, V.int .i64 (-1), V.int .i64 (-1), V.int .i64 (-1), V.int .i64 (-1), V.int .i64 1, V.int .i64 0]) E_good rfl rfl rfl rfl rfl rfl rfl (.boxM (c := 11) rfl rfl (Nat.le_of_ble_eq_true rfl) rfl) ?_
    refine SafeOps.quiet0 E_good rfl rfl rfl (v := V.int .i64 0) (.fn rfl) ?_
    refine SafeOps.nil ?_
    repeat (first | refine Safe.seq ?_ | refine Safe.skip ?_ | with_reducible refine thenQ.n ?_ | with_reducible refine blockQ.n ?_)
    refine Safe.ret ?_
    repeat (first | with_reducible refine thenQ.r ?_ | with_reducible refine blockQ.r ?_)
    obtain rfl := Option.some.inj h
    exact retQ.gen (vs := [V.agg [V.int .i64 a0_498, V.int .i64 a1_499, V.int .i64 a2_500, V.int .i64 0, V.int .i64 0, V.int .i64 (-1), V.int .i64 (-1), V.int .i64 (-1), V.int .i64 (-1), V.int .i64 1, V.int .i64 0], V.int .i64 0]) rfl (.cell (v := V.agg [V.int .i64 a0_498, V.int .i64 a1_499, V.int .i64 a2_500, V.int .i64 0, V.int .i64 0, V.int .i64 (-1), V.int .i64 (-1), V.int .i64 (-1), V.int .i64 (-1), V.int .i64 1, V.int .i64 0]) rfl rfl (.box rfl rfl) rfl (.tmp (v := V.int .i64 0) rfl .nil)) (.free rfl) (by simp) (.inr rfl)

noncomputable def go_step_Next_j2 (a0_1091 : api_Task) (v60_1124 : Int) (v61_1125 : Int) (v62_1126 : Int) : Option (api_Instr × Int) :=
  if ((decide (a0_1091.Unit > 0)) && ((v60_1124 != 1) || (decide (a0_1091.Unit ≥ v61_1125)))) = true then
    some (api_Instr.zero, 1)
  else
    some ((api_Instr.mk v60_1124 v61_1125 v62_1126), 0)

noncomputable def go_step_Next_j1 (a0_1091 : api_Task) (a1_1092 : List api_Instr) (b_1119 : Bool) : Option (api_Instr × Int) :=
  if (b_1119 || (decide (a0_1091.Pc > (a1_1092.length : Int)))) = true then
    some (api_Instr.zero, 1)
  else
    if (decide (a0_1091.Pc < (a1_1092.length : Int))) = true then
      if 0 ≤ a0_1091.Pc ∧ a0_1091.Pc < (a1_1092.length : Int) then
        go_step_Next_j2 a0_1091 ((gt a1_1092 a0_1091.Pc).Op) ((gt a1_1092 a0_1091.Pc).A) ((gt a1_1092 a0_1091.Pc).B)
      else none
    else
      go_step_Next_j2 a0_1091 9 0 0

noncomputable def go_step_Next (a0_1091 : api_Task) (a1_1092 : List api_Instr) : Option (api_Instr × Int) :=
  (go_life_Check a0_1091).bind fun x_1114 =>
  if (x_1114 != 0) = true then
    go_step_Next_j1 a0_1091 a1_1092 true
  else
    (go_code_Check a1_1092).bind fun x_1133 =>
    go_step_Next_j1 a0_1091 a1_1092 (x_1133 != 0)

theorem go_step_Next_sc (a0_1091 : api_Task) (a1_1092 : List api_Instr) (r : api_Instr × Int) (h : go_step_Next a0_1091 a1_1092 = some r) : SC Tryd.prog gl 51 [V.agg [V.int .i64 a0_1091.Id, V.int .i64 a0_1091.Tenant, V.int .i64 a0_1091.Prog, V.int .i64 a0_1091.Pc, V.int .i64 a0_1091.Unit, V.int .i64 a0_1091.Keeps.a0, V.int .i64 a0_1091.Keeps.a1, V.int .i64 a0_1091.Keeps.a2, V.int .i64 a0_1091.Keeps.a3, V.int .i64 a0_1091.State, V.int .i64 a0_1091.Ran], V.sl 3 (rws api_Instr.cells a1_1092)] (V.tup [V.agg [V.int .i64 r.1.Op, V.int .i64 r.1.A, V.int .i64 r.1.B], V.int .i64 r.2]) := by
  rw [go_step_Next] at h
  refine SC.of E_good Tryd.func51 rfl (fun _ _ => Tryd.call51 _ _) rfl ?_
  repeat (first | refine Safe.seq ?_ | refine Safe.skip ?_ | with_reducible refine thenQ.n ?_ | with_reducible refine blockQ.n ?_)
  refine Safe.region ?_
  refine SafeOps.quiet1 E_good rfl rfl rfl (.box rfl rfl) rfl ?_
  refine SafeOps.quiet1 E_good rfl rfl rfl (.alloc rfl rfl) rfl ?_
  refine SafeOps.quiet0 E_good rfl rfl rfl (v := V.int .i64 0) (.fn rfl) ?_
  refine SafeOps.nil ?_
  repeat (first | refine Safe.seq ?_ | refine Safe.skip ?_ | with_reducible refine thenQ.n ?_ | with_reducible refine blockQ.n ?_)
  refine Safe.region ?_
  refine SafeOps.quiet0 E_good rfl rfl rfl (v := V.agg [V.int .i64 a0_1091.Id, V.int .i64 a0_1091.Tenant, V.int .i64 a0_1091.Prog, V.int .i64 a0_1091.Pc, V.int .i64 a0_1091.Unit, V.int .i64 a0_1091.Keeps.a0, V.int .i64 a0_1091.Keeps.a1, V.int .i64 a0_1091.Keeps.a2, V.int .i64 a0_1091.Keeps.a3, V.int .i64 a0_1091.State, V.int .i64 a0_1091.Ran]) (.load rfl rfl (.box rfl rfl) rfl) ?_
  refine bindG h ?_
  intro x_1114 he1115 h
  refine SafeOps.quiet0 E_good rfl rfl rfl (v := V.int .i64 x_1114) (.callP rfl rfl (go_life_Check_sc a0_1091 _ he1115) rfl) ?_
  refine SafeOps.quiet0 E_good rfl rfl rfl (v := V.bool (x_1114 != 0)) (.fn rfl) ?_
  refine SafeOps.quiet0 E_good rfl rfl rfl (v := V.bool (x_1114 != 0)) (.fn rfl) ?_
  refine SafeOps.bsplit 4 14 (fun b_1119 => go_step_Next_j1 a0_1091 a1_1092 b_1119 = some r) (fun HJ1120 => ?_) (fun b_1119 h => ?_)
  · refine ifG h (fun hc1116 h => ?_) (fun hc1116 h => ?_)
    · skip
      refine SafeOps.skip (congrArg (fun b => some (!b)) hc1116) rfl rfl ?_
      refine SafeOps.skip (congrArg (fun b => some (!b)) hc1116) rfl rfl ?_
      refine SafeOps.skip (congrArg (fun b => some (!b)) hc1116) rfl rfl ?_
      refine SafeOps.quiet0 E_good rfl rfl rfl (v := V.bool true) (.pickK rfl hc1116 rfl) ?_
      exact SafeOps.drop' 4 rfl rfl rfl (HJ1120 _ h)
    · skip
      refine SafeOps.quiet0 E_good (congrArg (fun b => some (!b)) hc1116) rfl rfl (v := V.sl 3 (rws api_Instr.cells a1_1092)) (.fn rfl) ?_
      refine bindG h ?_
      intro x_1133 he1134 h
      refine SafeOps.quiet0 E_good (congrArg (fun b => some (!b)) hc1116) rfl rfl (v := V.int .i64 x_1133) (.callP rfl rfl (go_code_Check_sc a1_1092 _ he1134) rfl) ?_
      refine SafeOps.quiet0 E_good (congrArg (fun b => some (!b)) hc1116) rfl rfl (v := V.bool (x_1133 != 0)) (.fn rfl) ?_
      refine SafeOps.quiet0 E_good rfl rfl rfl (v := V.bool (x_1133 != 0)) (.pickK rfl hc1116 rfl) ?_
      exact SafeOps.drop' 4 rfl rfl rfl (HJ1120 _ h)
  · replace h : go_step_Next_j1 a0_1091 a1_1092 b_1119 = some r := h
    rw [go_step_Next_j1] at h
    refine SafeOps.quiet0 E_good rfl rfl rfl (v := V.bool b_1119) (.fn rfl) ?_
    refine SafeOps.bjoin 6 21 (b := (b_1119 || (decide (a0_1091.Pc > (a1_1092.length : Int))))) (b1 := true) (b0 := decide (a0_1091.Pc > (a1_1092.length : Int))) (fun hc1121 K => ?_) (fun hc1121 K => ?_) bj_or ?_
    · skip
      refine SafeOps.skip (congrArg (fun b => some (!b)) hc1121) rfl rfl ?_
      refine SafeOps.skip (congrArg (fun b => some (!b)) hc1121) rfl rfl ?_
      refine SafeOps.skip (congrArg (fun b => some (!b)) hc1121) rfl rfl ?_
      refine SafeOps.skip (congrArg (fun b => some (!b)) hc1121) rfl rfl ?_
      refine SafeOps.skip (congrArg (fun b => some (!b)) hc1121) rfl rfl ?_
      refine SafeOps.quiet0 E_good rfl rfl rfl (v := V.bool true) (.pickK rfl hc1121 rfl) ?_
      exact SafeOps.drop' 6 rfl rfl rfl K
    · skip
      refine SafeOps.quiet0 E_good (congrArg (fun b => some (!b)) hc1121) rfl rfl (v := V.ptr [2] 0 3) (.fn rfl) ?_
      refine SafeOps.quiet0 E_good (congrArg (fun b => some (!b)) hc1121) rfl rfl (v := V.int .i64 a0_1091.Pc) (.load rfl rfl (.box rfl rfl) rfl) ?_
      refine SafeOps.quiet0 E_good (congrArg (fun b => some (!b)) hc1121) rfl rfl (v := V.sl 3 (rws api_Instr.cells a1_1092)) (.fn rfl) ?_
      refine SafeOps.quiet0 E_good (congrArg (fun b => some (!b)) hc1121) rfl rfl (v := V.int .i64 (a1_1092.length : Int)) (.fnE rfl lenE) ?_
      refine SafeOps.quiet0 E_good (congrArg (fun b => some (!b)) hc1121) rfl rfl (v := V.bool (decide (a0_1091.Pc > (a1_1092.length : Int)))) (.fn rfl) ?_
      refine SafeOps.quiet0 E_good rfl rfl rfl (v := V.bool (decide (a0_1091.Pc > (a1_1092.length : Int)))) (.pickK rfl hc1121 rfl) ?_
      exact SafeOps.drop' 6 rfl rfl rfl K
    refine SafeOps.nil ?_
    repeat (first | refine Safe.seq ?_ | refine Safe.skip ?_ | with_reducible refine thenQ.n ?_ | with_reducible refine blockQ.n ?_)
    refine ifG h (fun hc1122 h => ?_) (fun hc1122 h => ?_)
    · skip
      refine Safe.condK rfl hc1122 ?_
      repeat (first | refine Safe.seq ?_ | refine Safe.skip ?_ | with_reducible refine thenQ.n ?_ | with_reducible refine blockQ.n ?_)
      refine Safe.region ?_
      refine SafeOps.quiet0 E_good rfl rfl rfl (v := V.agg [V.int .i64 0, V.int .i64 0, V.int .i64 0]) (.fn rfl) ?_
      refine SafeOps.store (z := Obj.box [V.int .i64 0, V.int .i64 0, V.int .i64 0]) E_good rfl rfl rfl rfl rfl rfl rfl (.boxM (c := 3) rfl rfl (Nat.le_of_ble_eq_true rfl) rfl) ?_
      refine SafeOps.quiet0 E_good rfl rfl rfl (v := V.int .i64 1) (.fn rfl) ?_
      refine SafeOps.nil ?_
      repeat (first | refine Safe.seq ?_ | refine Safe.skip ?_ | with_reducible refine thenQ.n ?_ | with_reducible refine blockQ.n ?_)
      refine Safe.ret ?_
      repeat (first | with_reducible refine thenQ.r ?_ | with_reducible refine blockQ.r ?_)
      obtain rfl := Option.some.inj h
      exact retQ.gen (vs := [V.agg [V.int .i64 0, V.int .i64 0, V.int .i64 0], V.int .i64 1]) rfl (.cell (v := V.agg [V.int .i64 0, V.int .i64 0, V.int .i64 0]) rfl rfl (.box rfl rfl) rfl (.tmp (v := V.int .i64 1) rfl .nil)) (.free rfl) (by simp) (.inr rfl)
    · skip
      refine Safe.condN rfl hc1122 ?_
      repeat (first | refine Safe.seq ?_ | refine Safe.skip ?_ | with_reducible refine thenQ.n ?_ | with_reducible refine blockQ.n ?_)
      refine Safe.region ?_
      refine SafeOps.quiet0 E_good rfl rfl rfl (v := V.agg [V.int .i64 9, V.int .i64 0, V.int .i64 0]) (.fn rfl) ?_
      refine SafeOps.quiet1 E_good rfl rfl rfl (.alloc rfl rfl) rfl ?_
      refine SafeOps.store (z := Obj.box [V.int .i64 9, V.int .i64 0, V.int .i64 0]) E_good rfl rfl rfl rfl rfl rfl rfl (.boxM (c := 3) rfl rfl (Nat.le_of_ble_eq_true rfl) rfl) ?_
      refine SafeOps.nil ?_
      repeat (first | refine Safe.seq ?_ | refine Safe.skip ?_ | with_reducible refine thenQ.n ?_ | with_reducible refine blockQ.n ?_)
      refine Safe.region ?_
      refine SafeOps.quiet0 E_good rfl rfl rfl (v := V.ptr [2] 0 3) (.fn rfl) ?_
      refine SafeOps.quiet0 E_good rfl rfl rfl (v := V.int .i64 a0_1091.Pc) (.load rfl rfl (.box rfl rfl) rfl) ?_
      refine SafeOps.quiet0 E_good rfl rfl rfl (v := V.sl 3 (rws api_Instr.cells a1_1092)) (.fn rfl) ?_
      refine SafeOps.quiet0 E_good rfl rfl rfl (v := V.int .i64 (a1_1092.length : Int)) (.fnE rfl lenE) ?_
      refine SafeOps.quiet0 E_good rfl rfl rfl (v := V.bool (decide (a0_1091.Pc < (a1_1092.length : Int)))) (.fn rfl) ?_
      refine SafeOps.nil ?_
      repeat (first | refine Safe.seq ?_ | refine Safe.skip ?_ | with_reducible refine thenQ.n ?_ | with_reducible refine blockQ.n ?_)
      refine Safe.joinT (fun ((v60_1124, v61_1125, v62_1126) : Int × Int × Int) => go_step_Next_j2 a0_1091 v60_1124 v61_1125 v62_1126 = some r) (fun ((v60_1124, v61_1125, v62_1126) : Int × Int × Int) => ⟨Tryd.f51.ntmps, [(2, V.ptr [2] 0 0), (4, V.ptr [4] 0 0), (6, V.ptr [6] 0 0)], [([2], Obj.box [V.int .i64 a0_1091.Id, V.int .i64 a0_1091.Tenant, V.int .i64 a0_1091.Prog, V.int .i64 a0_1091.Pc, V.int .i64 a0_1091.Unit, V.int .i64 a0_1091.Keeps.a0, V.int .i64 a0_1091.Keeps.a1, V.int .i64 a0_1091.Keeps.a2, V.int .i64 a0_1091.Keeps.a3, V.int .i64 a0_1091.State, V.int .i64 a0_1091.Ran]), ([4], Obj.box [V.int .i64 0, V.int .i64 0, V.int .i64 0]), ([6], Obj.box [V.int .i64 v60_1124, V.int .i64 v61_1125, V.int .i64 v62_1126])], [], []⟩) ?_ (fun HJ1127 => ?_)
      · rintro ⟨v60_1124, v61_1125, v62_1126⟩ h
        replace h : go_step_Next_j2 a0_1091 v60_1124 v61_1125 v62_1126 = some r := h
        rw [go_step_Next_j2] at h
        repeat (first | refine Safe.seq ?_ | refine Safe.skip ?_ | with_reducible refine thenQ.n ?_ | with_reducible refine blockQ.n ?_)
        refine Safe.region ?_
        refine SafeOps.quiet0 E_good rfl rfl rfl (v := V.ptr [2] 0 4) (.fn rfl) ?_
        refine SafeOps.quiet0 E_good rfl rfl rfl (v := V.int .i64 a0_1091.Unit) (.load rfl rfl (.box rfl rfl) rfl) ?_
        refine SafeOps.quiet0 E_good rfl rfl rfl (v := V.bool (decide (a0_1091.Unit > 0))) (.fn rfl) ?_
        refine SafeOps.quiet0 E_good rfl rfl rfl (v := V.bool (decide (a0_1091.Unit > 0))) (.fn rfl) ?_
        refine SafeOps.bjoin 11 48 (b := ((decide (a0_1091.Unit > 0)) && ((v60_1124 != 1) || (decide (a0_1091.Unit ≥ v61_1125))))) (b1 := ((v60_1124 != 1) || (decide (a0_1091.Unit ≥ v61_1125)))) (b0 := false) (fun hc1128 K => ?_) (fun hc1128 K => ?_) bj_and ?_
        · skip
          refine SafeOps.quiet0 E_good (congrArg some hc1128) rfl rfl (v := V.ptr [6] 0 0) (.fn rfl) ?_
          refine SafeOps.quiet0 E_good (congrArg some hc1128) rfl rfl (v := V.int .i64 v60_1124) (.load rfl rfl (.box rfl rfl) rfl) ?_
          refine SafeOps.quiet0 E_good (congrArg some hc1128) rfl rfl (v := V.bool (v60_1124 != 1)) (.fn rfl) ?_
          refine SafeOps.quiet0 E_good (congrArg some hc1128) rfl rfl (v := V.bool (v60_1124 != 1)) (.fn rfl) ?_
          refine SafeOps.bjoin 6 47 (b := ((v60_1124 != 1) || (decide (a0_1091.Unit ≥ v61_1125)))) (b1 := true) (b0 := decide (a0_1091.Unit ≥ v61_1125)) (fun hc1129 K => ?_) (fun hc1129 K => ?_) bj_or ?_
          · skip
            refine SafeOps.skip (congrArg (fun b => some (!b)) hc1129) rfl rfl ?_
            refine SafeOps.skip (congrArg (fun b => some (!b)) hc1129) rfl rfl ?_
            refine SafeOps.skip (congrArg (fun b => some (!b)) hc1129) rfl rfl ?_
            refine SafeOps.skip (congrArg (fun b => some (!b)) hc1129) rfl rfl ?_
            refine SafeOps.skip (congrArg (fun b => some (!b)) hc1129) rfl rfl ?_
            refine SafeOps.quiet0 E_good (congrArg some hc1128) rfl rfl (v := V.bool true) (.pickK rfl hc1129 rfl) ?_
            exact SafeOps.drop' 6 rfl rfl rfl K
          · skip
            refine SafeOps.quiet0 E_good (congrArg (fun b => some (!b)) hc1129) rfl rfl (v := V.ptr [2] 0 4) (.fn rfl) ?_
            refine SafeOps.quiet0 E_good (congrArg (fun b => some (!b)) hc1129) rfl rfl (v := V.int .i64 a0_1091.Unit) (.load rfl rfl (.box rfl rfl) rfl) ?_
            refine SafeOps.quiet0 E_good (congrArg (fun b => some (!b)) hc1129) rfl rfl (v := V.ptr [6] 0 1) (.fn rfl) ?_
            refine SafeOps.quiet0 E_good (congrArg (fun b => some (!b)) hc1129) rfl rfl (v := V.int .i64 v61_1125) (.load rfl rfl (.box rfl rfl) rfl) ?_
            refine SafeOps.quiet0 E_good (congrArg (fun b => some (!b)) hc1129) rfl rfl (v := V.bool (decide (a0_1091.Unit ≥ v61_1125))) (.fn rfl) ?_
            refine SafeOps.quiet0 E_good (congrArg some hc1128) rfl rfl (v := V.bool (decide (a0_1091.Unit ≥ v61_1125))) (.pickK rfl hc1129 rfl) ?_
            exact SafeOps.drop' 6 rfl rfl rfl K
          refine SafeOps.quiet0 E_good rfl rfl rfl (v := V.bool ((v60_1124 != 1) || (decide (a0_1091.Unit ≥ v61_1125)))) (.pickK rfl hc1128 rfl) ?_
          exact SafeOps.drop' 6 rfl rfl rfl K
        · skip
          refine SafeOps.skip (congrArg some hc1128) rfl rfl ?_
          refine SafeOps.skip (congrArg some hc1128) rfl rfl ?_
          refine SafeOps.skip (congrArg some hc1128) rfl rfl ?_
          refine SafeOps.skip (congrArg some hc1128) rfl rfl ?_
          refine SafeOps.skip rfl rfl rfl ?_
          refine SafeOps.skip rfl rfl rfl ?_
          refine SafeOps.skip rfl rfl rfl ?_
          refine SafeOps.skip rfl rfl rfl ?_
          refine SafeOps.skip rfl rfl rfl ?_
          refine SafeOps.skip (congrArg some hc1128) rfl rfl ?_
          refine SafeOps.quiet0 E_good rfl rfl rfl (v := V.bool false) (.pickK rfl hc1128 rfl) ?_
          exact SafeOps.drop' 11 rfl rfl rfl K
        refine SafeOps.nil ?_
        repeat (first | refine Safe.seq ?_ | refine Safe.skip ?_ | with_reducible refine thenQ.n ?_ | with_reducible refine blockQ.n ?_)
        refine ifG h (fun hc1130 h => ?_) (fun hc1130 h => ?_)
        · skip
          refine Safe.condK rfl hc1130 ?_
          repeat (first | refine Safe.seq ?_ | refine Safe.skip ?_ | with_reducible refine thenQ.n ?_ | with_reducible refine blockQ.n ?_)
          refine Safe.region ?_
          refine SafeOps.quiet0 E_good rfl rfl rfl (v := V.agg [V.int .i64 0, V.int .i64 0, V.int .i64 0]) (.fn rfl) ?_
          refine SafeOps.store (z := Obj.box [V.int .i64 0, V.int .i64 0, V.int .i64 0]) E_good rfl rfl rfl rfl rfl rfl rfl (.boxM (c := 3) rfl rfl (Nat.le_of_ble_eq_true rfl) rfl) ?_
          refine SafeOps.quiet0 E_good rfl rfl rfl (v := V.int .i64 1) (.fn rfl) ?_
          refine SafeOps.nil ?_
          repeat (first | refine Safe.seq ?_ | refine Safe.skip ?_ | with_reducible refine thenQ.n ?_ | with_reducible refine blockQ.n ?_)
          refine Safe.ret ?_
          repeat (first | with_reducible refine thenQ.r ?_ | with_reducible refine blockQ.r ?_)
          obtain rfl := Option.some.inj h
          exact retQ.gen (vs := [V.agg [V.int .i64 0, V.int .i64 0, V.int .i64 0], V.int .i64 1]) rfl (.cell (v := V.agg [V.int .i64 0, V.int .i64 0, V.int .i64 0]) rfl rfl (.box rfl rfl) rfl (.tmp (v := V.int .i64 1) rfl .nil)) (.free rfl) (by simp) (.inr rfl)
        · skip
          refine Safe.condN rfl hc1130 ?_
          repeat (first | refine Safe.seq ?_ | refine Safe.skip ?_ | with_reducible refine thenQ.n ?_ | with_reducible refine blockQ.n ?_)
          refine Safe.region ?_
          refine SafeOps.quiet0 E_good rfl rfl rfl (v := V.agg [V.int .i64 v60_1124, V.int .i64 v61_1125, V.int .i64 v62_1126]) (.load rfl rfl (.box rfl rfl) rfl) ?_
          refine SafeOps.store (z := Obj.box [V.int .i64 v60_1124, V.int .i64 v61_1125, V.int .i64 v62_1126]) E_good rfl rfl rfl rfl rfl rfl rfl (.boxM (c := 3) rfl rfl (Nat.le_of_ble_eq_true rfl) rfl) ?_
          refine SafeOps.quiet0 E_good rfl rfl rfl (v := V.int .i64 0) (.fn rfl) ?_
          refine SafeOps.nil ?_
          repeat (first | refine Safe.seq ?_ | refine Safe.skip ?_ | with_reducible refine thenQ.n ?_ | with_reducible refine blockQ.n ?_)
          refine Safe.ret ?_
          repeat (first | with_reducible refine thenQ.r ?_ | with_reducible refine blockQ.r ?_)
          obtain rfl := Option.some.inj h
          exact retQ.gen (vs := [V.agg [V.int .i64 v60_1124, V.int .i64 v61_1125, V.int .i64 v62_1126], V.int .i64 0]) rfl (.cell (v := V.agg [V.int .i64 v60_1124, V.int .i64 v61_1125, V.int .i64 v62_1126]) rfl rfl (.box rfl rfl) rfl (.tmp (v := V.int .i64 0) rfl .nil)) (.free rfl) (by simp) (.inr rfl)
      · skip
        refine ifG h (fun hc1131 h => ?_) (fun hc1131 h => ?_)
        · skip
          refine Safe.condK rfl hc1131 ?_
          repeat (first | refine Safe.seq ?_ | refine Safe.skip ?_ | with_reducible refine thenQ.n ?_ | with_reducible refine blockQ.n ?_)
          refine Safe.region ?_
          refine SafeOps.quiet0 E_good rfl rfl rfl (v := V.sl 3 (rws api_Instr.cells a1_1092)) (.fn rfl) ?_
          refine SafeOps.quiet0 E_good rfl rfl rfl (v := V.ptr [2] 0 3) (.fn rfl) ?_
          refine SafeOps.quiet0 E_good rfl rfl rfl (v := V.int .i64 a0_1091.Pc) (.load rfl rfl (.box rfl rfl) rfl) ?_
          refine okG h (fun hb1132 h => ?_)
          refine SafeOps.quiet0 E_good rfl rfl rfl (v := V.spt 3 (rws api_Instr.cells a1_1092) (Int.toNat a0_1091.Pc) 0) (.idxSlM (f := api_Instr.cells) rfl rfl rfl rfl rfl hb1132) ?_
          refine SafeOps.quiet0 E_good rfl rfl rfl (v := V.agg [V.int .i64 ((gt a1_1092 a0_1091.Pc).Op), V.int .i64 ((gt a1_1092 a0_1091.Pc).A), V.int .i64 ((gt a1_1092 a0_1091.Pc).B)]) (.load rfl rfl (.sptM (f := api_Instr.cells) hb1132 rfl) rfl) ?_
          refine SafeOps.store (z := Obj.box [V.int .i64 ((gt a1_1092 a0_1091.Pc).Op), V.int .i64 ((gt a1_1092 a0_1091.Pc).A), V.int .i64 ((gt a1_1092 a0_1091.Pc).B)]) E_good rfl rfl rfl rfl rfl rfl rfl (.boxM (c := 3) rfl rfl (Nat.le_of_ble_eq_true rfl) rfl) ?_
          refine SafeOps.nil ?_
          repeat (first | refine Safe.skip ?_ | with_reducible refine thenQ.n ?_ | with_reducible refine blockQ.n ?_)
          exact Safe.got (HJ1127 ((gt a1_1092 a0_1091.Pc).Op, (gt a1_1092 a0_1091.Pc).A, (gt a1_1092 a0_1091.Pc).B) h) (.cov ⟨rfl, rfl, (upT_cons (.refl _) (upT_cons (.refl _) (upT_cons (.refl _) upT_nil))), (upOb_cons rfl (.refl _) (upOb_cons rfl (.refl _) (upOb_cons rfl (.refl _) upOb_nil))), upOut_nil, rfl⟩)
        · skip
          refine Safe.condN rfl hc1131 ?_
          repeat (first | refine Safe.skip ?_ | with_reducible refine thenQ.n ?_ | with_reducible refine blockQ.n ?_)
          exact Safe.got (HJ1127 (9, 0, 0) h) (.cov ⟨rfl, rfl, (upT_cons (.refl _) (upT_cons (.refl _) (upT_cons (.refl _) upT_nil))), (upOb_cons rfl (.refl _) (upOb_cons rfl (.refl _) (upOb_cons rfl (.refl _) upOb_nil))), upOut_nil, rfl⟩)

noncomputable def go_life_Legal (a0_1149 : Int) (a1_1150 : Int) : Option Bool :=
  if ((go_life_state a0_1149) && (go_life_state a1_1150)) = true then
    if 0 ≤ a0_1149 ∧ a0_1149 < (8 : Int) then
      if 0 ≤ a1_1150 then
        some ((IntKind.u8.wrap (BitVec.ofInt IntKind.u8.bits (Int.fdiv (follows.getD (0 + Int.toNat a0_1149 * 1) 0) (2 ^ (min (Int.toNat a1_1150) IntKind.u8.bits))) &&& BitVec.ofInt IntKind.u8.bits 1).toNat) == 1)
      else none
    else none
  else
    some false

theorem go_life_Legal_sc (a0_1149 : Int) (a1_1150 : Int) (r : Bool) (h : go_life_Legal a0_1149 a1_1150 = some r) : SC Tryd.prog gl 58 [V.int .i64 a0_1149, V.int .i64 a1_1150] (V.bool r) := by
  rw [go_life_Legal] at h
  refine SC.of E_good Tryd.func58 rfl (fun _ _ => Tryd.call58 _ _) rfl ?_
  repeat (first | refine Safe.seq ?_ | refine Safe.skip ?_ | with_reducible refine thenQ.n ?_ | with_reducible refine blockQ.n ?_)
  refine Safe.region ?_
  refine SafeOps.quiet0 E_good rfl rfl rfl (v := V.bool false) (.fn rfl) ?_
  refine SafeOps.nil ?_
  repeat (first | refine Safe.seq ?_ | refine Safe.skip ?_ | with_reducible refine thenQ.n ?_ | with_reducible refine blockQ.n ?_)
  refine Safe.region ?_
  refine SafeOps.quiet0 E_good rfl rfl rfl (v := V.int .i64 a0_1149) (.fn rfl) ?_
  refine SafeOps.quiet0 E_good rfl rfl rfl (v := V.bool (go_life_state a0_1149)) (.callP rfl rfl (go_life_state_sc a0_1149 _ rfl) rfl) ?_
  refine SafeOps.quiet0 E_good rfl rfl rfl (v := V.bool (go_life_state a0_1149)) (.fn rfl) ?_
  refine SafeOps.bjoin 3 10 (b := ((go_life_state a0_1149) && (go_life_state a1_1150))) (b1 := go_life_state a1_1150) (b0 := false) (fun hc1162 K => ?_) (fun hc1162 K => ?_) bj_and ?_
  · skip
    refine SafeOps.quiet0 E_good (congrArg some hc1162) rfl rfl (v := V.int .i64 a1_1150) (.fn rfl) ?_
    refine SafeOps.quiet0 E_good (congrArg some hc1162) rfl rfl (v := V.bool (go_life_state a1_1150)) (.callP rfl rfl (go_life_state_sc a1_1150 _ rfl) rfl) ?_
    refine SafeOps.quiet0 E_good rfl rfl rfl (v := V.bool (go_life_state a1_1150)) (.pickK rfl hc1162 rfl) ?_
    exact SafeOps.drop' 3 rfl rfl rfl K
  · skip
    refine SafeOps.skip (congrArg some hc1162) rfl rfl ?_
    refine SafeOps.skip (congrArg some hc1162) rfl rfl ?_
    refine SafeOps.quiet0 E_good rfl rfl rfl (v := V.bool false) (.pickK rfl hc1162 rfl) ?_
    exact SafeOps.drop' 3 rfl rfl rfl K
  refine SafeOps.quiet0 E_good rfl rfl rfl (v := V.bool ((go_life_state a0_1149) && (go_life_state a1_1150))) (.fn rfl) ?_
  refine ifG h (fun hc1163 h => ?_) (fun hc1163 h => ?_)
  · skip
    refine SafeOps.quiet0 E_good (congrArg some hc1163) rfl rfl (v := V.int .i64 a0_1149) (.fn rfl) ?_
    refine okG h (fun hb1166 h => ?_)
    refine SafeOps.quiet0 E_good (congrArg some hc1163) rfl rfl (v := V.gptr 0 (0 + Int.toNat a0_1149 * 1)) (.idxArrGM rfl rfl rfl rfl rfl rfl 8 rfl hb1166) ?_
    refine SafeOps.quiet0 E_good (congrArg some hc1163) rfl rfl (v := V.int .u8 (follows.getD (0 + Int.toNat a0_1149 * 1) 0)) (.load rfl rfl (.globI (xs := follows) rfl (globlt hb1166)) rfl) ?_
    refine SafeOps.quiet0 E_good (congrArg some hc1163) rfl rfl (v := V.int .i64 a1_1150) (.fn rfl) ?_
    refine okG h (fun hb1167 h => ?_)
    refine SafeOps.quiet0 E_good (congrArg some hc1163) rfl rfl (v := V.int .u8 (Int.fdiv (follows.getD (0 + Int.toNat a0_1149 * 1) 0) (2 ^ (min (Int.toNat a1_1150) IntKind.u8.bits)))) (.shrV rfl rfl hb1167) ?_
    refine SafeOps.quiet0 E_good (congrArg some hc1163) rfl rfl (v := V.int .u8 (IntKind.u8.wrap (BitVec.ofInt IntKind.u8.bits (Int.fdiv (follows.getD (0 + Int.toNat a0_1149 * 1) 0) (2 ^ (min (Int.toNat a1_1150) IntKind.u8.bits))) &&& BitVec.ofInt IntKind.u8.bits 1).toNat)) (.fn rfl) ?_
    refine SafeOps.quiet0 E_good (congrArg some hc1163) rfl rfl (v := V.bool ((IntKind.u8.wrap (BitVec.ofInt IntKind.u8.bits (Int.fdiv (follows.getD (0 + Int.toNat a0_1149 * 1) 0) (2 ^ (min (Int.toNat a1_1150) IntKind.u8.bits))) &&& BitVec.ofInt IntKind.u8.bits 1).toNat) == 1)) (.fn rfl) ?_
    refine SafeOps.quiet0 E_good rfl rfl rfl (v := V.bool ((IntKind.u8.wrap (BitVec.ofInt IntKind.u8.bits (Int.fdiv (follows.getD (0 + Int.toNat a0_1149 * 1) 0) (2 ^ (min (Int.toNat a1_1150) IntKind.u8.bits))) &&& BitVec.ofInt IntKind.u8.bits 1).toNat) == 1)) (.pickK rfl hc1163 rfl) ?_
    refine SafeOps.quiet0 E_good rfl rfl rfl (v := V.bool ((IntKind.u8.wrap (BitVec.ofInt IntKind.u8.bits (Int.fdiv (follows.getD (0 + Int.toNat a0_1149 * 1) 0) (2 ^ (min (Int.toNat a1_1150) IntKind.u8.bits))) &&& BitVec.ofInt IntKind.u8.bits 1).toNat) == 1)) (.fn rfl) ?_
    refine SafeOps.nil ?_
    repeat (first | refine Safe.seq ?_ | refine Safe.skip ?_ | with_reducible refine thenQ.n ?_ | with_reducible refine blockQ.n ?_)
    refine Safe.ret ?_
    repeat (first | with_reducible refine thenQ.r ?_ | with_reducible refine blockQ.r ?_)
    obtain rfl := Option.some.inj h
    exact retQ.gen (vs := [V.bool ((IntKind.u8.wrap (BitVec.ofInt IntKind.u8.bits (Int.fdiv (follows.getD (0 + Int.toNat a0_1149 * 1) 0) (2 ^ (min (Int.toNat a1_1150) IntKind.u8.bits))) &&& BitVec.ofInt IntKind.u8.bits 1).toNat) == 1)]) rfl (.tmp (v := V.bool ((IntKind.u8.wrap (BitVec.ofInt IntKind.u8.bits (Int.fdiv (follows.getD (0 + Int.toNat a0_1149 * 1) 0) (2 ^ (min (Int.toNat a1_1150) IntKind.u8.bits))) &&& BitVec.ofInt IntKind.u8.bits 1).toNat) == 1)) rfl .nil) (.free rfl) (by simp) (.inr rfl)
  · skip
    refine SafeOps.skip (congrArg some hc1163) rfl rfl ?_
    refine SafeOps.skip (congrArg some hc1163) rfl rfl ?_
    refine SafeOps.skip (congrArg some hc1163) rfl rfl ?_
    refine SafeOps.skip (congrArg some hc1163) rfl rfl ?_
    refine SafeOps.skip (congrArg some hc1163) rfl rfl ?_
    refine SafeOps.skip (congrArg some hc1163) rfl rfl ?_
    refine SafeOps.skip (congrArg some hc1163) rfl rfl ?_
    refine SafeOps.quiet0 E_good rfl rfl rfl (v := V.bool false) (.pickK rfl hc1163 rfl) ?_
    refine SafeOps.quiet0 E_good rfl rfl rfl (v := V.bool false) (.fn rfl) ?_
    refine SafeOps.nil ?_
    repeat (first | refine Safe.seq ?_ | refine Safe.skip ?_ | with_reducible refine thenQ.n ?_ | with_reducible refine blockQ.n ?_)
    refine Safe.ret ?_
    repeat (first | with_reducible refine thenQ.r ?_ | with_reducible refine blockQ.r ?_)
    obtain rfl := Option.some.inj h
    exact retQ.gen (vs := [V.bool false]) rfl (.tmp (v := V.bool false) rfl .nil) (.free rfl) (by simp) (.inr rfl)

noncomputable def go_life_Move (a0_1143 : api_Task) (a1_1144 : Int) : Option (api_Task × Int) :=
  (go_life_Check a0_1143).bind fun x_1185 =>
  if ((x_1185 != 0) || (!(go_life_state a1_1144))) = true then
    some (api_Task.zero, 1)
  else
    (go_life_Legal a0_1143.State a1_1144).bind fun x_1189 =>
    if (!x_1189) = true then
      some (api_Task.zero, 9)
    else
      some ((api_Task.mk a0_1143.Id a0_1143.Tenant a0_1143.Prog a0_1143.Pc a0_1143.Unit a0_1143.Keeps a1_1144 a0_1143.Ran), 0)

theorem go_life_Move_sc (a0_1143 : api_Task) (a1_1144 : Int) (r : api_Task × Int) (h : go_life_Move a0_1143 a1_1144 = some r) : SC Tryd.prog gl 52 [V.agg [V.int .i64 a0_1143.Id, V.int .i64 a0_1143.Tenant, V.int .i64 a0_1143.Prog, V.int .i64 a0_1143.Pc, V.int .i64 a0_1143.Unit, V.int .i64 a0_1143.Keeps.a0, V.int .i64 a0_1143.Keeps.a1, V.int .i64 a0_1143.Keeps.a2, V.int .i64 a0_1143.Keeps.a3, V.int .i64 a0_1143.State, V.int .i64 a0_1143.Ran], V.int .i64 a1_1144] (V.tup [V.agg [V.int .i64 r.1.Id, V.int .i64 r.1.Tenant, V.int .i64 r.1.Prog, V.int .i64 r.1.Pc, V.int .i64 r.1.Unit, V.int .i64 r.1.Keeps.a0, V.int .i64 r.1.Keeps.a1, V.int .i64 r.1.Keeps.a2, V.int .i64 r.1.Keeps.a3, V.int .i64 r.1.State, V.int .i64 r.1.Ran], V.int .i64 r.2]) := by
  rw [go_life_Move] at h
  refine SC.of E_good Tryd.func52 rfl (fun _ _ => Tryd.call52 _ _) rfl ?_
  repeat (first | refine Safe.seq ?_ | refine Safe.skip ?_ | with_reducible refine thenQ.n ?_ | with_reducible refine blockQ.n ?_)
  refine Safe.region ?_
  refine SafeOps.quiet1 E_good rfl rfl rfl (.box rfl rfl) rfl ?_
  refine SafeOps.quiet1 E_good rfl rfl rfl (.alloc rfl rfl) rfl ?_
  refine SafeOps.quiet0 E_good rfl rfl rfl (v := V.int .i64 0) (.fn rfl) ?_
  refine SafeOps.nil ?_
  repeat (first | refine Safe.seq ?_ | refine Safe.skip ?_ | with_reducible refine thenQ.n ?_ | with_reducible refine blockQ.n ?_)
  refine Safe.block ?_
  repeat (first | refine Safe.seq ?_ | refine Safe.skip ?_ | with_reducible refine thenQ.n ?_ | with_reducible refine blockQ.n ?_)
  refine Safe.region ?_
  refine SafeOps.quiet0 E_good rfl rfl rfl (v := V.agg [V.int .i64 a0_1143.Id, V.int .i64 a0_1143.Tenant, V.int .i64 a0_1143.Prog, V.int .i64 a0_1143.Pc, V.int .i64 a0_1143.Unit, V.int .i64 a0_1143.Keeps.a0, V.int .i64 a0_1143.Keeps.a1, V.int .i64 a0_1143.Keeps.a2, V.int .i64 a0_1143.Keeps.a3, V.int .i64 a0_1143.State, V.int .i64 a0_1143.Ran]) (.load rfl rfl (.box rfl rfl) rfl) ?_
  refine bindG h ?_
  intro x_1185 he1186 h
  refine SafeOps.quiet0 E_good rfl rfl rfl (v := V.int .i64 x_1185) (.callP rfl rfl (go_life_Check_sc a0_1143 _ he1186) rfl) ?_
  refine SafeOps.quiet0 E_good rfl rfl rfl (v := V.bool (x_1185 != 0)) (.fn rfl) ?_
  refine SafeOps.quiet0 E_good rfl rfl rfl (v := V.bool (x_1185 != 0)) (.fn rfl) ?_
  refine SafeOps.bjoin 4 14 (b := ((x_1185 != 0) || (!(go_life_state a1_1144)))) (b1 := true) (b0 := (!(go_life_state a1_1144))) (fun hc1187 K => ?_) (fun hc1187 K => ?_) bj_or ?_
  · skip
    refine SafeOps.skip (congrArg (fun b => some (!b)) hc1187) rfl rfl ?_
    refine SafeOps.skip (congrArg (fun b => some (!b)) hc1187) rfl rfl ?_
    refine SafeOps.skip (congrArg (fun b => some (!b)) hc1187) rfl rfl ?_
    refine SafeOps.quiet0 E_good rfl rfl rfl (v := V.bool true) (.pickK rfl hc1187 rfl) ?_
    exact SafeOps.drop' 4 rfl rfl rfl K
  · skip
    refine SafeOps.quiet0 E_good (congrArg (fun b => some (!b)) hc1187) rfl rfl (v := V.int .i64 a1_1144) (.fn rfl) ?_
    refine SafeOps.quiet0 E_good (congrArg (fun b => some (!b)) hc1187) rfl rfl (v := V.bool (go_life_state a1_1144)) (.callP rfl rfl (go_life_state_sc a1_1144 _ rfl) rfl) ?_
    refine SafeOps.quiet0 E_good (congrArg (fun b => some (!b)) hc1187) rfl rfl (v := V.bool (!(go_life_state a1_1144))) (.fn rfl) ?_
    refine SafeOps.quiet0 E_good rfl rfl rfl (v := V.bool (!(go_life_state a1_1144))) (.pickK rfl hc1187 rfl) ?_
    exact SafeOps.drop' 4 rfl rfl rfl K
  refine SafeOps.quiet0 E_good rfl rfl rfl (v := V.bool ((x_1185 != 0) || (!(go_life_state a1_1144)))) (.fn rfl) ?_
  refine SafeOps.nil ?_
  repeat (first | refine Safe.seq ?_ | refine Safe.skip ?_ | with_reducible refine thenQ.n ?_ | with_reducible refine blockQ.n ?_)
  refine ifG h (fun hc1188 h => ?_) (fun hc1188 h => ?_)
  · skip
    refine Safe.condK rfl hc1188 ?_
    repeat (first | refine Safe.seq ?_ | refine Safe.skip ?_ | with_reducible refine thenQ.n ?_ | with_reducible refine blockQ.n ?_)
    refine Safe.region ?_
    refine SafeOps.quiet0 E_good rfl rfl rfl (v := V.agg [V.int .i64 0, V.int .i64 0, V.int .i64 0, V.int .i64 0, V.int .i64 0, V.int .i64 0, V.int .i64 0, V.int .i64 0, V.int .i64 0, V.int .i64 0, V.int .i64 0]) (.fn rfl) ?_
    refine SafeOps.store (z := Obj.box [V.int .i64 0, V.int .i64 0, V.int .i64 0, V.int .i64 0, V.int .i64 0, V.int .i64 0, V.int .i64 0, V.int .i64 0, V.int .i64 0, V.int .i64 0, V.int .i64 0]) E_good rfl rfl rfl rfl rfl rfl rfl (.boxM (c := 11) rfl rfl (Nat.le_of_ble_eq_true rfl) rfl) ?_
    refine SafeOps.quiet0 E_good rfl rfl rfl (v := V.int .i64 1) (.fn rfl) ?_
    refine SafeOps.nil ?_
    repeat (first | refine Safe.seq ?_ | refine Safe.skip ?_ | with_reducible refine thenQ.n ?_ | with_reducible refine blockQ.n ?_)
    refine Safe.ret ?_
    repeat (first | with_reducible refine thenQ.r ?_ | with_reducible refine blockQ.r ?_)
    obtain rfl := Option.some.inj h
    exact retQ.gen (vs := [V.agg [V.int .i64 0, V.int .i64 0, V.int .i64 0, V.int .i64 0, V.int .i64 0, V.int .i64 0, V.int .i64 0, V.int .i64 0, V.int .i64 0, V.int .i64 0, V.int .i64 0], V.int .i64 1]) rfl (.cell (v := V.agg [V.int .i64 0, V.int .i64 0, V.int .i64 0, V.int .i64 0, V.int .i64 0, V.int .i64 0, V.int .i64 0, V.int .i64 0, V.int .i64 0, V.int .i64 0, V.int .i64 0]) rfl rfl (.box rfl rfl) rfl (.tmp (v := V.int .i64 1) rfl .nil)) (.free rfl) (by simp) (.inr rfl)
  · skip
    refine Safe.condN rfl hc1188 ?_
    repeat (first | refine Safe.seq ?_ | refine Safe.skip ?_ | with_reducible refine thenQ.n ?_ | with_reducible refine blockQ.n ?_)
    refine Safe.region ?_
    refine SafeOps.quiet0 E_good rfl rfl rfl (v := V.ptr [2] 0 9) (.fn rfl) ?_
    refine SafeOps.quiet0 E_good rfl rfl rfl (v := V.int .i64 a0_1143.State) (.load rfl rfl (.box rfl rfl) rfl) ?_
    refine SafeOps.quiet0 E_good rfl rfl rfl (v := V.int .i64 a1_1144) (.fn rfl) ?_
    refine bindG h ?_
    intro x_1189 he1190 h
    refine SafeOps.quiet0 E_good rfl rfl rfl (v := V.bool x_1189) (.callP rfl rfl (go_life_Legal_sc a0_1143.State a1_1144 _ he1190) rfl) ?_
    refine SafeOps.quiet0 E_good rfl rfl rfl (v := V.bool (!x_1189)) (.fn rfl) ?_
    refine SafeOps.quiet0 E_good rfl rfl rfl (v := V.bool (!x_1189)) (.fn rfl) ?_
    refine SafeOps.nil ?_
    repeat (first | refine Safe.seq ?_ | refine Safe.skip ?_ | with_reducible refine thenQ.n ?_ | with_reducible refine blockQ.n ?_)
    refine ifG h (fun hc1191 h => ?_) (fun hc1191 h => ?_)
    · skip
      refine Safe.condK rfl hc1191 ?_
      repeat (first | refine Safe.seq ?_ | refine Safe.skip ?_ | with_reducible refine thenQ.n ?_ | with_reducible refine blockQ.n ?_)
      refine Safe.region ?_
      refine SafeOps.quiet0 E_good rfl rfl rfl (v := V.agg [V.int .i64 0, V.int .i64 0, V.int .i64 0, V.int .i64 0, V.int .i64 0, V.int .i64 0, V.int .i64 0, V.int .i64 0, V.int .i64 0, V.int .i64 0, V.int .i64 0]) (.fn rfl) ?_
      refine SafeOps.store (z := Obj.box [V.int .i64 0, V.int .i64 0, V.int .i64 0, V.int .i64 0, V.int .i64 0, V.int .i64 0, V.int .i64 0, V.int .i64 0, V.int .i64 0, V.int .i64 0, V.int .i64 0]) E_good rfl rfl rfl rfl rfl rfl rfl (.boxM (c := 11) rfl rfl (Nat.le_of_ble_eq_true rfl) rfl) ?_
      refine SafeOps.quiet0 E_good rfl rfl rfl (v := V.int .i64 9) (.fn rfl) ?_
      refine SafeOps.nil ?_
      repeat (first | refine Safe.seq ?_ | refine Safe.skip ?_ | with_reducible refine thenQ.n ?_ | with_reducible refine blockQ.n ?_)
      refine Safe.ret ?_
      repeat (first | with_reducible refine thenQ.r ?_ | with_reducible refine blockQ.r ?_)
      obtain rfl := Option.some.inj h
      exact retQ.gen (vs := [V.agg [V.int .i64 0, V.int .i64 0, V.int .i64 0, V.int .i64 0, V.int .i64 0, V.int .i64 0, V.int .i64 0, V.int .i64 0, V.int .i64 0, V.int .i64 0, V.int .i64 0], V.int .i64 9]) rfl (.cell (v := V.agg [V.int .i64 0, V.int .i64 0, V.int .i64 0, V.int .i64 0, V.int .i64 0, V.int .i64 0, V.int .i64 0, V.int .i64 0, V.int .i64 0, V.int .i64 0, V.int .i64 0]) rfl rfl (.box rfl rfl) rfl (.tmp (v := V.int .i64 9) rfl .nil)) (.free rfl) (by simp) (.inr rfl)
    · skip
      refine Safe.condN rfl hc1191 ?_
      repeat (first | refine Safe.seq ?_ | refine Safe.skip ?_ | with_reducible refine thenQ.n ?_ | with_reducible refine blockQ.n ?_)
      refine Safe.region ?_
      refine SafeOps.quiet0 E_good rfl rfl rfl (v := V.int .i64 a1_1144) (.fn rfl) ?_
      refine SafeOps.quiet0 E_good rfl rfl rfl (v := V.ptr [2] 0 9) (.fn rfl) ?_
      refine SafeOps.store (z := Obj.box [V.int .i64 a0_1143.Id, V.int .i64 a0_1143.Tenant, V.int .i64 a0_1143.Prog, V.int .i64 a0_1143.Pc, V.int .i64 a0_1143.Unit, V.int .i64 a0_1143.Keeps.a0, V.int .i64 a0_1143.Keeps.a1, V.int .i64 a0_1143.Keeps.a2, V.int .i64 a0_1143.Keeps.a3, V.int .i64 a1_1144, V.int .i64 a0_1143.Ran]) E_good rfl rfl rfl rfl rfl rfl rfl (.boxM (c := 11) rfl rfl (Nat.le_of_ble_eq_true rfl) rfl) ?_
      refine SafeOps.nil ?_
      repeat (first | refine Safe.seq ?_ | refine Safe.skip ?_ | with_reducible refine thenQ.n ?_ | with_reducible refine blockQ.n ?_)
      refine Safe.region ?_
      refine SafeOps.quiet0 E_good rfl rfl rfl (v := V.agg [V.int .i64 a0_1143.Id, V.int .i64 a0_1143.Tenant, V.int .i64 a0_1143.Prog, V.int .i64 a0_1143.Pc, V.int .i64 a0_1143.Unit, V.int .i64 a0_1143.Keeps.a0, V.int .i64 a0_1143.Keeps.a1, V.int .i64 a0_1143.Keeps.a2, V.int .i64 a0_1143.Keeps.a3, V.int .i64 a1_1144, V.int .i64 a0_1143.Ran]) (.load rfl rfl (.box rfl rfl) rfl) ?_
      refine SafeOps.store (z := Obj.box [V.int .i64 a0_1143.Id, V.int .i64 a0_1143.Tenant, V.int .i64 a0_1143.Prog, V.int .i64 a0_1143.Pc, V.int .i64 a0_1143.Unit, V.int .i64 a0_1143.Keeps.a0, V.int .i64 a0_1143.Keeps.a1, V.int .i64 a0_1143.Keeps.a2, V.int .i64 a0_1143.Keeps.a3, V.int .i64 a1_1144, V.int .i64 a0_1143.Ran]) E_good rfl rfl rfl rfl rfl rfl rfl (.boxM (c := 11) rfl rfl (Nat.le_of_ble_eq_true rfl) rfl) ?_
      refine SafeOps.quiet0 E_good rfl rfl rfl (v := V.int .i64 0) (.fn rfl) ?_
      refine SafeOps.nil ?_
      repeat (first | refine Safe.seq ?_ | refine Safe.skip ?_ | with_reducible refine thenQ.n ?_ | with_reducible refine blockQ.n ?_)
      refine Safe.ret ?_
      repeat (first | with_reducible refine thenQ.r ?_ | with_reducible refine blockQ.r ?_)
      obtain rfl := Option.some.inj h
      exact retQ.gen (vs := [V.agg [V.int .i64 a0_1143.Id, V.int .i64 a0_1143.Tenant, V.int .i64 a0_1143.Prog, V.int .i64 a0_1143.Pc, V.int .i64 a0_1143.Unit, V.int .i64 a0_1143.Keeps.a0, V.int .i64 a0_1143.Keeps.a1, V.int .i64 a0_1143.Keeps.a2, V.int .i64 a0_1143.Keeps.a3, V.int .i64 a1_1144, V.int .i64 a0_1143.Ran], V.int .i64 0]) rfl (.cell (v := V.agg [V.int .i64 a0_1143.Id, V.int .i64 a0_1143.Tenant, V.int .i64 a0_1143.Prog, V.int .i64 a0_1143.Pc, V.int .i64 a0_1143.Unit, V.int .i64 a0_1143.Keeps.a0, V.int .i64 a0_1143.Keeps.a1, V.int .i64 a0_1143.Keeps.a2, V.int .i64 a0_1143.Keeps.a3, V.int .i64 a1_1144, V.int .i64 a0_1143.Ran]) rfl rfl (.box rfl rfl) rfl (.tmp (v := V.int .i64 0) rfl .nil)) (.free rfl) (by simp) (.inr rfl)

@[ext] structure api_Effect where
  Kind : Int
  A : Int
  B : Int
  deriving Inhabited
def api_Effect.cells (x : api_Effect) : List V := [V.int .i64 x.Kind, V.int .i64 x.A, V.int .i64 x.B]
def api_Effect.zero : api_Effect := ⟨0, 0, 0⟩
def api_Effect.beq (x y : api_Effect) : Bool := ((x.Kind == y.Kind) && ((x.A == y.A) && ((x.B == y.B) && true)))

noncomputable def go_step_Do_j1 (a0_1196 : api_Task) (a1_1197 : List api_Instr) (v24_1225 : Int) (v90_1226 : Int) (v91_1227 : Int) (v92_1228 : Int) : Option (api_Task × api_Effect × Int) :=
  some ((api_Task.mk a0_1196.Id a0_1196.Tenant a0_1196.Prog (if (a1_1197.length : Int) < (IntKind.i64.wrap (a0_1196.Pc + 1)) then (a1_1197.length : Int) else IntKind.i64.wrap (a0_1196.Pc + 1)) 0 a0_1196.Keeps a0_1196.State (IntKind.i64.wrap (a0_1196.Ran + 1))), (api_Effect.mk v90_1226 v91_1227 v92_1228), 0)

noncomputable def go_step_Do (a0_1196 : api_Task) (a1_1197 : List api_Instr) : Option (api_Task × api_Effect × Int) :=
  (go_step_Next a0_1196 a1_1197).bind fun (x_1215, x_1216) =>
  if (x_1216 != 0) = true then
    some (api_Task.zero, api_Effect.zero, x_1216)
  else
    if (a0_1196.State != 2) = true then
      some (api_Task.zero, api_Effect.zero, 9)
    else
      if (a0_1196.Ran == 1099511627776) = true then
        some (api_Task.zero, api_Effect.zero, 4)
      else
        if (x_1215.Op == 1) = true then
          if (decide ((IntKind.i64.wrap (a0_1196.Unit + 1)) < x_1215.A)) = true then
            some ((api_Task.mk a0_1196.Id a0_1196.Tenant a0_1196.Prog a0_1196.Pc (IntKind.i64.wrap (a0_1196.Unit + 1)) a0_1196.Keeps a0_1196.State (IntKind.i64.wrap (a0_1196.Ran + 1))), api_Effect.zero, 0)
          else
            go_step_Do_j1 a0_1196 a1_1197 (IntKind.i64.wrap (a0_1196.Unit + 1)) 0 0 0
        else
          go_step_Do_j1 a0_1196 a1_1197 a0_1196.Unit x_1215.Op x_1215.A x_1215.B

theorem go_step_Do_sc (a0_1196 : api_Task) (a1_1197 : List api_Instr) (r : api_Task × api_Effect × Int) (h : go_step_Do a0_1196 a1_1197 = some r) : SC Tryd.prog gl 53 [V.agg [V.int .i64 a0_1196.Id, V.int .i64 a0_1196.Tenant, V.int .i64 a0_1196.Prog, V.int .i64 a0_1196.Pc, V.int .i64 a0_1196.Unit, V.int .i64 a0_1196.Keeps.a0, V.int .i64 a0_1196.Keeps.a1, V.int .i64 a0_1196.Keeps.a2, V.int .i64 a0_1196.Keeps.a3, V.int .i64 a0_1196.State, V.int .i64 a0_1196.Ran], V.sl 3 (rws api_Instr.cells a1_1197)] (V.tup [V.agg [V.int .i64 r.1.Id, V.int .i64 r.1.Tenant, V.int .i64 r.1.Prog, V.int .i64 r.1.Pc, V.int .i64 r.1.Unit, V.int .i64 r.1.Keeps.a0, V.int .i64 r.1.Keeps.a1, V.int .i64 r.1.Keeps.a2, V.int .i64 r.1.Keeps.a3, V.int .i64 r.1.State, V.int .i64 r.1.Ran], V.agg [V.int .i64 r.2.1.Kind, V.int .i64 r.2.1.A, V.int .i64 r.2.1.B], V.int .i64 r.2.2]) := by
  rw [go_step_Do] at h
  refine SC.of E_good Tryd.func53 rfl (fun _ _ => Tryd.call53 _ _) rfl ?_
  repeat (first | refine Safe.seq ?_ | refine Safe.skip ?_ | with_reducible refine thenQ.n ?_ | with_reducible refine blockQ.n ?_)
  refine Safe.region ?_
  refine SafeOps.quiet1 E_good rfl rfl rfl (.box rfl rfl) rfl ?_
  refine SafeOps.quiet1 E_good rfl rfl rfl (.alloc rfl rfl) rfl ?_
  refine SafeOps.quiet1 E_good rfl rfl rfl (.alloc rfl rfl) rfl ?_
  refine SafeOps.quiet0 E_good rfl rfl rfl (v := V.int .i64 0) (.fn rfl) ?_
  refine SafeOps.nil ?_
  repeat (first | refine Safe.seq ?_ | refine Safe.skip ?_ | with_reducible refine thenQ.n ?_ | with_reducible refine blockQ.n ?_)
  refine Safe.region ?_
  refine SafeOps.quiet0 E_good rfl rfl rfl (v := V.agg [V.int .i64 a0_1196.Id, V.int .i64 a0_1196.Tenant, V.int .i64 a0_1196.Prog, V.int .i64 a0_1196.Pc, V.int .i64 a0_1196.Unit, V.int .i64 a0_1196.Keeps.a0, V.int .i64 a0_1196.Keeps.a1, V.int .i64 a0_1196.Keeps.a2, V.int .i64 a0_1196.Keeps.a3, V.int .i64 a0_1196.State, V.int .i64 a0_1196.Ran]) (.load rfl rfl (.box rfl rfl) rfl) ?_
  refine SafeOps.quiet0 E_good rfl rfl rfl (v := V.sl 3 (rws api_Instr.cells a1_1197)) (.fn rfl) ?_
  refine bindG h ?_
  rintro ⟨x_1215, x_1216⟩ he1217 h
  refine SafeOps.quiet0 E_good rfl rfl rfl (v := V.tup [V.agg [V.int .i64 x_1215.Op, V.int .i64 x_1215.A, V.int .i64 x_1215.B], V.int .i64 x_1216]) (.callP rfl rfl (go_step_Next_sc a0_1196 a1_1197 _ he1217) rfl) ?_
  refine SafeOps.quiet0 E_good rfl rfl rfl (v := V.tup [V.agg [V.int .i64 x_1215.Op, V.int .i64 x_1215.A, V.int .i64 x_1215.B], V.int .i64 x_1216]) (.fn rfl) ?_
  refine SafeOps.quiet0 E_good rfl rfl rfl (v := V.agg [V.int .i64 x_1215.Op, V.int .i64 x_1215.A, V.int .i64 x_1215.B]) (.fn rfl) ?_
  refine SafeOps.quiet0 E_good rfl rfl rfl (v := V.int .i64 x_1216) (.fn rfl) ?_
  refine SafeOps.quiet1 E_good rfl rfl rfl (.alloc rfl rfl) rfl ?_
  refine SafeOps.store (z := Obj.box [V.int .i64 x_1215.Op, V.int .i64 x_1215.A, V.int .i64 x_1215.B]) E_good rfl rfl rfl rfl rfl rfl rfl (.boxM (c := 3) rfl rfl (Nat.le_of_ble_eq_true rfl) rfl) ?_
  refine SafeOps.quiet0 E_good rfl rfl rfl (v := V.int .i64 x_1216) (.fn rfl) ?_
  refine SafeOps.nil ?_
  repeat (first | refine Safe.seq ?_ | refine Safe.skip ?_ | with_reducible refine thenQ.n ?_ | with_reducible refine blockQ.n ?_)
  refine Safe.block ?_
  repeat (first | refine Safe.seq ?_ | refine Safe.skip ?_ | with_reducible refine thenQ.n ?_ | with_reducible refine blockQ.n ?_)
  refine Safe.region ?_
  refine SafeOps.quiet0 E_good rfl rfl rfl (v := V.int .i64 x_1216) (.fn rfl) ?_
  refine SafeOps.quiet0 E_good rfl rfl rfl (v := V.bool (x_1216 != 0)) (.fn rfl) ?_
  refine SafeOps.quiet0 E_good rfl rfl rfl (v := V.bool (x_1216 != 0)) (.fn rfl) ?_
  refine SafeOps.nil ?_
  repeat (first | refine Safe.seq ?_ | refine Safe.skip ?_ | with_reducible refine thenQ.n ?_ | with_reducible refine blockQ.n ?_)
  refine ifG h (fun hc1221 h => ?_) (fun hc1221 h => ?_)
  · skip
    refine Safe.condK rfl hc1221 ?_
    repeat (first | refine Safe.seq ?_ | refine Safe.skip ?_ | with_reducible refine thenQ.n ?_ | with_reducible refine blockQ.n ?_)
    refine Safe.region ?_
    refine SafeOps.quiet0 E_good rfl rfl rfl (v := V.agg [V.int .i64 0, V.int .i64 0, V.int .i64 0, V.int .i64 0, V.int .i64 0, V.int .i64 0, V.int .i64 0, V.int .i64 0, V.int .i64 0, V.int .i64 0, V.int .i64 0]) (.fn rfl) ?_
    refine SafeOps.quiet0 E_good rfl rfl rfl (v := V.agg [V.int .i64 0, V.int .i64 0, V.int .i64 0]) (.fn rfl) ?_
    refine SafeOps.quiet0 E_good rfl rfl rfl (v := V.int .i64 x_1216) (.fn rfl) ?_
    refine SafeOps.store (z := Obj.box [V.int .i64 0, V.int .i64 0, V.int .i64 0, V.int .i64 0, V.int .i64 0, V.int .i64 0, V.int .i64 0, V.int .i64 0, V.int .i64 0, V.int .i64 0, V.int .i64 0]) E_good rfl rfl rfl rfl rfl rfl rfl (.boxM (c := 11) rfl rfl (Nat.le_of_ble_eq_true rfl) rfl) ?_
    refine SafeOps.store (z := Obj.box [V.int .i64 0, V.int .i64 0, V.int .i64 0]) E_good rfl rfl rfl rfl rfl rfl rfl (.boxM (c := 3) rfl rfl (Nat.le_of_ble_eq_true rfl) rfl) ?_
    refine SafeOps.quiet0 E_good rfl rfl rfl (v := V.int .i64 x_1216) (.fn rfl) ?_
    refine SafeOps.nil ?_
    repeat (first | refine Safe.seq ?_ | refine Safe.skip ?_ | with_reducible refine thenQ.n ?_ | with_reducible refine blockQ.n ?_)
    refine Safe.ret ?_
    repeat (first | with_reducible refine thenQ.r ?_ | with_reducible refine blockQ.r ?_)
    obtain rfl := Option.some.inj h
    exact retQ.gen (vs := [V.agg [V.int .i64 0, V.int .i64 0, V.int .i64 0, V.int .i64 0, V.int .i64 0, V.int .i64 0, V.int .i64 0, V.int .i64 0, V.int .i64 0, V.int .i64 0, V.int .i64 0], V.agg [V.int .i64 0, V.int .i64 0, V.int .i64 0], V.int .i64 x_1216]) rfl (.cell (v := V.agg [V.int .i64 0, V.int .i64 0, V.int .i64 0, V.int .i64 0, V.int .i64 0, V.int .i64 0, V.int .i64 0, V.int .i64 0, V.int .i64 0, V.int .i64 0, V.int .i64 0]) rfl rfl (.box rfl rfl) rfl (.cell (v := V.agg [V.int .i64 0, V.int .i64 0, V.int .i64 0]) rfl rfl (.box rfl rfl) rfl (.tmp (v := V.int .i64 x_1216) rfl .nil))) (.free rfl) (by simp) (.inr rfl)
  · skip
    refine Safe.condN rfl hc1221 ?_
    repeat (first | refine Safe.seq ?_ | refine Safe.skip ?_ | with_reducible refine thenQ.n ?_ | with_reducible refine blockQ.n ?_)
    refine Safe.region ?_
    refine SafeOps.quiet0 E_good rfl rfl rfl (v := V.ptr [2] 0 9) (.fn rfl) ?_
    refine SafeOps.quiet0 E_good rfl rfl rfl (v := V.int .i64 a0_1196.State) (.load rfl rfl (.box rfl rfl) rfl) ?_
    refine SafeOps.quiet0 E_good rfl rfl rfl (v := V.bool (a0_1196.State != 2)) (.fn rfl) ?_
    refine SafeOps.quiet0 E_good rfl rfl rfl (v := V.bool (a0_1196.State != 2)) (.fn rfl) ?_
    refine SafeOps.nil ?_
    repeat (first | refine Safe.seq ?_ | refine Safe.skip ?_ | with_reducible refine thenQ.n ?_ | with_reducible refine blockQ.n ?_)
    refine ifG h (fun hc1222 h => ?_) (fun hc1222 h => ?_)
    · skip
      refine Safe.condK rfl hc1222 ?_
      repeat (first | refine Safe.seq ?_ | refine Safe.skip ?_ | with_reducible refine thenQ.n ?_ | with_reducible refine blockQ.n ?_)
      refine Safe.region ?_
      refine SafeOps.quiet0 E_good rfl rfl rfl (v := V.agg [V.int .i64 0, V.int .i64 0, V.int .i64 0, V.int .i64 0, V.int .i64 0, V.int .i64 0, V.int .i64 0, V.int .i64 0, V.int .i64 0, V.int .i64 0, V.int .i64 0]) (.fn rfl) ?_
      refine SafeOps.quiet0 E_good rfl rfl rfl (v := V.agg [V.int .i64 0, V.int .i64 0, V.int .i64 0]) (.fn rfl) ?_
      refine SafeOps.store (z := Obj.box [V.int .i64 0, V.int .i64 0, V.int .i64 0, V.int .i64 0, V.int .i64 0, V.int .i64 0, V.int .i64 0, V.int .i64 0, V.int .i64 0, V.int .i64 0, V.int .i64 0]) E_good rfl rfl rfl rfl rfl rfl rfl (.boxM (c := 11) rfl rfl (Nat.le_of_ble_eq_true rfl) rfl) ?_
      refine SafeOps.store (z := Obj.box [V.int .i64 0, V.int .i64 0, V.int .i64 0]) E_good rfl rfl rfl rfl rfl rfl rfl (.boxM (c := 3) rfl rfl (Nat.le_of_ble_eq_true rfl) rfl) ?_
      refine SafeOps.quiet0 E_good rfl rfl rfl (v := V.int .i64 9) (.fn rfl) ?_
      refine SafeOps.nil ?_
      repeat (first | refine Safe.seq ?_ | refine Safe.skip ?_ | with_reducible refine thenQ.n ?_ | with_reducible refine blockQ.n ?_)
      refine Safe.ret ?_
      repeat (first | with_reducible refine thenQ.r ?_ | with_reducible refine blockQ.r ?_)
      obtain rfl := Option.some.inj h
      exact retQ.gen (vs := [V.agg [V.int .i64 0, V.int .i64 0, V.int .i64 0, V.int .i64 0, V.int .i64 0, V.int .i64 0, V.int .i64 0, V.int .i64 0, V.int .i64 0, V.int .i64 0, V.int .i64 0], V.agg [V.int .i64 0, V.int .i64 0, V.int .i64 0], V.int .i64 9]) rfl (.cell (v := V.agg [V.int .i64 0, V.int .i64 0, V.int .i64 0, V.int .i64 0, V.int .i64 0, V.int .i64 0, V.int .i64 0, V.int .i64 0, V.int .i64 0, V.int .i64 0, V.int .i64 0]) rfl rfl (.box rfl rfl) rfl (.cell (v := V.agg [V.int .i64 0, V.int .i64 0, V.int .i64 0]) rfl rfl (.box rfl rfl) rfl (.tmp (v := V.int .i64 9) rfl .nil))) (.free rfl) (by simp) (.inr rfl)
    · skip
      refine Safe.condN rfl hc1222 ?_
      repeat (first | refine Safe.seq ?_ | refine Safe.skip ?_ | with_reducible refine thenQ.n ?_ | with_reducible refine blockQ.n ?_)
      refine Safe.region ?_
      refine SafeOps.quiet0 E_good rfl rfl rfl (v := V.ptr [2] 0 10) (.fn rfl) ?_
      refine SafeOps.quiet0 E_good rfl rfl rfl (v := V.int .i64 a0_1196.Ran) (.load rfl rfl (.box rfl rfl) rfl) ?_
      refine SafeOps.quiet0 E_good rfl rfl rfl (v := V.bool (a0_1196.Ran == 1099511627776)) (.fn rfl) ?_
      refine SafeOps.quiet0 E_good rfl rfl rfl (v := V.bool (a0_1196.Ran == 1099511627776)) (.fn rfl) ?_
      refine SafeOps.nil ?_
      repeat (first | refine Safe.seq ?_ | refine Safe.skip ?_ | with_reducible refine thenQ.n ?_ | with_reducible refine blockQ.n ?_)
      refine ifG h (fun hc1223 h => ?_) (fun hc1223 h => ?_)
      · skip
        refine Safe.condK rfl hc1223 ?_
        repeat (first | refine Safe.seq ?_ | refine Safe.skip ?_ | with_reducible refine thenQ.n ?_ | with_reducible refine blockQ.n ?_)
        refine Safe.region ?_
        refine SafeOps.quiet0 E_good rfl rfl rfl (v := V.agg [V.int .i64 0, V.int .i64 0, V.int .i64 0, V.int .i64 0, V.int .i64 0, V.int .i64 0, V.int .i64 0, V.int .i64 0, V.int .i64 0, V.int .i64 0, V.int .i64 0]) (.fn rfl) ?_
        refine SafeOps.quiet0 E_good rfl rfl rfl (v := V.agg [V.int .i64 0, V.int .i64 0, V.int .i64 0]) (.fn rfl) ?_
        refine SafeOps.store (z := Obj.box [V.int .i64 0, V.int .i64 0, V.int .i64 0, V.int .i64 0, V.int .i64 0, V.int .i64 0, V.int .i64 0, V.int .i64 0, V.int .i64 0, V.int .i64 0, V.int .i64 0]) E_good rfl rfl rfl rfl rfl rfl rfl (.boxM (c := 11) rfl rfl (Nat.le_of_ble_eq_true rfl) rfl) ?_
        refine SafeOps.store (z := Obj.box [V.int .i64 0, V.int .i64 0, V.int .i64 0]) E_good rfl rfl rfl rfl rfl rfl rfl (.boxM (c := 3) rfl rfl (Nat.le_of_ble_eq_true rfl) rfl) ?_
        refine SafeOps.quiet0 E_good rfl rfl rfl (v := V.int .i64 4) (.fn rfl) ?_
        refine SafeOps.nil ?_
        repeat (first | refine Safe.seq ?_ | refine Safe.skip ?_ | with_reducible refine thenQ.n ?_ | with_reducible refine blockQ.n ?_)
        refine Safe.ret ?_
        repeat (first | with_reducible refine thenQ.r ?_ | with_reducible refine blockQ.r ?_)
        obtain rfl := Option.some.inj h
        exact retQ.gen (vs := [V.agg [V.int .i64 0, V.int .i64 0, V.int .i64 0, V.int .i64 0, V.int .i64 0, V.int .i64 0, V.int .i64 0, V.int .i64 0, V.int .i64 0, V.int .i64 0, V.int .i64 0], V.agg [V.int .i64 0, V.int .i64 0, V.int .i64 0], V.int .i64 4]) rfl (.cell (v := V.agg [V.int .i64 0, V.int .i64 0, V.int .i64 0, V.int .i64 0, V.int .i64 0, V.int .i64 0, V.int .i64 0, V.int .i64 0, V.int .i64 0, V.int .i64 0, V.int .i64 0]) rfl rfl (.box rfl rfl) rfl (.cell (v := V.agg [V.int .i64 0, V.int .i64 0, V.int .i64 0]) rfl rfl (.box rfl rfl) rfl (.tmp (v := V.int .i64 4) rfl .nil))) (.free rfl) (by simp) (.inr rfl)
      · skip
        refine Safe.condN rfl hc1223 ?_
        repeat (first | refine Safe.seq ?_ | refine Safe.skip ?_ | with_reducible refine thenQ.n ?_ | with_reducible refine blockQ.n ?_)
        refine Safe.region ?_
        refine SafeOps.quiet0 E_good rfl rfl rfl (v := V.ptr [2] 0 10) (.fn rfl) ?_
        refine SafeOps.quiet0 E_good rfl rfl rfl (v := V.int .i64 a0_1196.Ran) (.load rfl rfl (.box rfl rfl) rfl) ?_
        refine SafeOps.quiet0 E_good rfl rfl rfl (v := V.int .i64 (IntKind.i64.wrap (a0_1196.Ran + 1))) (.fn rfl) ?_
        refine SafeOps.quiet0 E_good rfl rfl rfl (v := V.ptr [2] 0 10) (.fn rfl) ?_
        refine SafeOps.store (z := Obj.box [V.int .i64 a0_1196.Id, V.int .i64 a0_1196.Tenant, V.int .i64 a0_1196.Prog, V.int .i64 a0_1196.Pc, V.int .i64 a0_1196.Unit, V.int .i64 a0_1196.Keeps.a0, V.int .i64 a0_1196.Keeps.a1, V.int .i64 a0_1196.Keeps.a2, V.int .i64 a0_1196.Keeps.a3, V.int .i64 a0_1196.State, V.int .i64 (IntKind.i64.wrap (a0_1196.Ran + 1))]) E_good rfl rfl rfl rfl rfl rfl rfl (.boxM (c := 11) rfl rfl (Nat.le_of_ble_eq_true rfl) rfl) ?_
        refine SafeOps.nil ?_
        repeat (first | refine Safe.seq ?_ | refine Safe.skip ?_ | with_reducible refine thenQ.n ?_ | with_reducible refine blockQ.n ?_)
        refine Safe.region ?_
        refine SafeOps.quiet0 E_good rfl rfl rfl (v := V.ptr [7] 0 0) (.fn rfl) ?_
        refine SafeOps.quiet0 E_good rfl rfl rfl (v := V.int .i64 x_1215.Op) (.load rfl rfl (.box rfl rfl) rfl) ?_
        refine SafeOps.quiet0 E_good rfl rfl rfl (v := V.ptr [7] 0 1) (.fn rfl) ?_
        refine SafeOps.quiet0 E_good rfl rfl rfl (v := V.int .i64 x_1215.A) (.load rfl rfl (.box rfl rfl) rfl) ?_
        refine SafeOps.quiet0 E_good rfl rfl rfl (v := V.ptr [7] 0 2) (.fn rfl) ?_
        refine SafeOps.quiet0 E_good rfl rfl rfl (v := V.int .i64 x_1215.B) (.load rfl rfl (.box rfl rfl) rfl) ?_
        refine SafeOps.quiet0 E_good rfl rfl rfl (v := V.agg [V.int .i64 x_1215.Op, V.int .i64 x_1215.A, V.int .i64 x_1215.B]) (.fn rfl) ?_
        refine SafeOps.quiet1 E_good rfl rfl rfl (.alloc rfl rfl) rfl ?_
        refine SafeOps.store (z := Obj.box [V.int .i64 x_1215.Op, V.int .i64 x_1215.A, V.int .i64 x_1215.B]) E_good rfl rfl rfl rfl rfl rfl rfl (.boxM (c := 3) rfl rfl (Nat.le_of_ble_eq_true rfl) rfl) ?_
        refine SafeOps.nil ?_
        repeat (first | refine Safe.seq ?_ | refine Safe.skip ?_ | with_reducible refine thenQ.n ?_ | with_reducible refine blockQ.n ?_)
        refine Safe.region ?_
        refine SafeOps.quiet0 E_good rfl rfl rfl (v := V.ptr [7] 0 0) (.fn rfl) ?_
        refine SafeOps.quiet0 E_good rfl rfl rfl (v := V.int .i64 x_1215.Op) (.load rfl rfl (.box rfl rfl) rfl) ?_
        refine SafeOps.quiet0 E_good rfl rfl rfl (v := V.bool (x_1215.Op == 1)) (.fn rfl) ?_
        refine SafeOps.nil ?_
        repeat (first | refine Safe.seq ?_ | refine Safe.skip ?_ | with_reducible refine thenQ.n ?_ | with_reducible refine blockQ.n ?_)
        refine Safe.joinT (fun ((v24_1225, v90_1226, v91_1227, v92_1228) : Int × Int × Int × Int) => go_step_Do_j1 a0_1196 a1_1197 v24_1225 v90_1226 v91_1227 v92_1228 = some r) (fun ((v24_1225, v90_1226, v91_1227, v92_1228) : Int × Int × Int × Int) => ⟨Tryd.f53.ntmps, [(1, V.sl 3 (rws api_Instr.cells a1_1197)), (2, V.ptr [2] 0 0), (4, V.ptr [4] 0 0), (5, V.ptr [5] 0 0), (9, V.ptr [9] 0 0)], [([2], Obj.box [V.int .i64 a0_1196.Id, V.int .i64 a0_1196.Tenant, V.int .i64 a0_1196.Prog, V.int .i64 a0_1196.Pc, V.int .i64 v24_1225, V.int .i64 a0_1196.Keeps.a0, V.int .i64 a0_1196.Keeps.a1, V.int .i64 a0_1196.Keeps.a2, V.int .i64 a0_1196.Keeps.a3, V.int .i64 a0_1196.State, V.int .i64 (IntKind.i64.wrap (a0_1196.Ran + 1))]), ([4], Obj.box [V.int .i64 0, V.int .i64 0, V.int .i64 0, V.int .i64 0, V.int .i64 0, V.int .i64 0, V.int .i64 0, V.int .i64 0, V.int .i64 0, V.int .i64 0, V.int .i64 0]), ([5], Obj.box [V.int .i64 0, V.int .i64 0, V.int .i64 0]), ([9], Obj.box [V.int .i64 v90_1226, V.int .i64 v91_1227, V.int .i64 v92_1228])], [], []⟩) ?_ (fun HJ1229 => ?_)
        · rintro ⟨v24_1225, v90_1226, v91_1227, v92_1228⟩ h
          replace h : go_step_Do_j1 a0_1196 a1_1197 v24_1225 v90_1226 v91_1227 v92_1228 = some r := h
          rw [go_step_Do_j1] at h
          repeat (first | refine Safe.seq ?_ | refine Safe.skip ?_ | with_reducible refine thenQ.n ?_ | with_reducible refine blockQ.n ?_)
          refine Safe.region ?_
          refine SafeOps.quiet0 E_good rfl rfl rfl (v := V.ptr [2] 0 3) (.fn rfl) ?_
          refine SafeOps.quiet0 E_good rfl rfl rfl (v := V.int .i64 a0_1196.Pc) (.load rfl rfl (.box rfl rfl) rfl) ?_
          refine SafeOps.quiet0 E_good rfl rfl rfl (v := V.int .i64 (IntKind.i64.wrap (a0_1196.Pc + 1))) (.fn rfl) ?_
          refine SafeOps.quiet0 E_good rfl rfl rfl (v := V.sl 3 (rws api_Instr.cells a1_1197)) (.fn rfl) ?_
          refine SafeOps.quiet0 E_good rfl rfl rfl (v := V.int .i64 (a1_1197.length : Int)) (.fnE rfl lenE) ?_
          refine SafeOps.quiet0 E_good rfl rfl rfl (v := V.int .i64 (if (a1_1197.length : Int) < (IntKind.i64.wrap (a0_1196.Pc + 1)) then (a1_1197.length : Int) else IntKind.i64.wrap (a0_1196.Pc + 1))) (.fn rfl) ?_
          refine SafeOps.quiet0 E_good rfl rfl rfl (v := V.ptr [2] 0 4) (.fn rfl) ?_
          refine SafeOps.store (z := Obj.box [V.int .i64 a0_1196.Id, V.int .i64 a0_1196.Tenant, V.int .i64 a0_1196.Prog, V.int .i64 a0_1196.Pc, V.int .i64 0, V.int .i64 a0_1196.Keeps.a0, V.int .i64 a0_1196.Keeps.a1, V.int .i64 a0_1196.Keeps.a2, V.int .i64 a0_1196.Keeps.a3, V.int .i64 a0_1196.State, V.int .i64 (IntKind.i64.wrap (a0_1196.Ran + 1))]) E_good rfl rfl rfl rfl rfl rfl rfl (.boxM (c := 11) rfl rfl (Nat.le_of_ble_eq_true rfl) rfl) ?_
          refine SafeOps.quiet0 E_good rfl rfl rfl (v := V.ptr [2] 0 3) (.fn rfl) ?_
          refine SafeOps.store (z := Obj.box [V.int .i64 a0_1196.Id, V.int .i64 a0_1196.Tenant, V.int .i64 a0_1196.Prog, V.int .i64 (if (a1_1197.length : Int) < (IntKind.i64.wrap (a0_1196.Pc + 1)) then (a1_1197.length : Int) else IntKind.i64.wrap (a0_1196.Pc + 1)), V.int .i64 0, V.int .i64 a0_1196.Keeps.a0, V.int .i64 a0_1196.Keeps.a1, V.int .i64 a0_1196.Keeps.a2, V.int .i64 a0_1196.Keeps.a3, V.int .i64 a0_1196.State, V.int .i64 (IntKind.i64.wrap (a0_1196.Ran + 1))]) E_good rfl rfl rfl rfl rfl rfl rfl (.boxM (c := 11) rfl rfl (Nat.le_of_ble_eq_true rfl) rfl) ?_
          refine SafeOps.nil ?_
          repeat (first | refine Safe.seq ?_ | refine Safe.skip ?_ | with_reducible refine thenQ.n ?_ | with_reducible refine blockQ.n ?_)
          refine Safe.regionD (n := 5) [(2, [4]), (3, [5])] [] E_good mixed rfl ?_
          refine DAny.take (i := 0) rfl (by kernel_rfl) [[4], [5]] (by kernel_rfl) (by kernel_rfl) (by kernel_rfl) rfl rfl rfl (v := V.agg [V.int .i64 a0_1196.Id, V.int .i64 a0_1196.Tenant, V.int .i64 a0_1196.Prog, V.int .i64 (if (a1_1197.length : Int) < (IntKind.i64.wrap (a0_1196.Pc + 1)) then (a1_1197.length : Int) else IntKind.i64.wrap (a0_1196.Pc + 1)), V.int .i64 0, V.int .i64 a0_1196.Keeps.a0, V.int .i64 a0_1196.Keeps.a1, V.int .i64 a0_1196.Keeps.a2, V.int .i64 a0_1196.Keeps.a3, V.int .i64 a0_1196.State, V.int .i64 (IntKind.i64.wrap (a0_1196.Ran + 1))]) (fun _ hz => (.load rfl rfl (.box (hz _ _ rfl rfl) rfl) rfl)) ?_
          refine DAny.take (i := 1) rfl (by kernel_rfl) [[4], [5]] (by kernel_rfl) (by kernel_rfl) (by kernel_rfl) rfl rfl rfl (v := V.agg [V.int .i64 v90_1226, V.int .i64 v91_1227, V.int .i64 v92_1228]) (fun _ hz => (.load rfl rfl (.box (hz _ _ rfl rfl) rfl) rfl)) ?_
          refine DAny.only (i := 2) rfl (by kernel_rfl) (.store (z := Obj.box [V.int .i64 a0_1196.Id, V.int .i64 a0_1196.Tenant, V.int .i64 a0_1196.Prog, V.int .i64 (if (a1_1197.length : Int) < (IntKind.i64.wrap (a0_1196.Pc + 1)) then (a1_1197.length : Int) else IntKind.i64.wrap (a0_1196.Pc + 1)), V.int .i64 0, V.int .i64 a0_1196.Keeps.a0, V.int .i64 a0_1196.Keeps.a1, V.int .i64 a0_1196.Keeps.a2, V.int .i64 a0_1196.Keeps.a3, V.int .i64 a0_1196.State, V.int .i64 (IntKind.i64.wrap (a0_1196.Ran + 1))]) rfl rfl rfl rfl rfl rfl rfl (.boxM (c := 11) rfl rfl (Nat.le_of_ble_eq_true rfl) rfl) rfl ?_)
          refine DAny.only (i := 3) rfl (by kernel_rfl) (.store (z := Obj.box [V.int .i64 v90_1226, V.int .i64 v91_1227, V.int .i64 v92_1228]) rfl rfl rfl rfl rfl rfl rfl (.boxM (c := 3) rfl rfl (Nat.le_of_ble_eq_true rfl) rfl) rfl ?_)
          refine DAny.take (i := 4) rfl (by kernel_rfl) [[4], [5]] (by kernel_rfl) (by kernel_rfl) (by kernel_rfl) rfl rfl rfl (v := V.int .i64 0) (fun _ hz => (.fn rfl)) ?_
          refine DAny.nil (by kernel_rfl) ?_
          repeat (first | refine Safe.seq ?_ | refine Safe.skip ?_ | with_reducible refine thenQ.n ?_ | with_reducible refine blockQ.n ?_)
          refine Safe.ret ?_
          repeat (first | with_reducible refine thenQ.r ?_ | with_reducible refine blockQ.r ?_)
          obtain rfl := Option.some.inj h
          exact retQ.gen (vs := [V.agg [V.int .i64 a0_1196.Id, V.int .i64 a0_1196.Tenant, V.int .i64 a0_1196.Prog, V.int .i64 (if (a1_1197.length : Int) < (IntKind.i64.wrap (a0_1196.Pc + 1)) then (a1_1197.length : Int) else IntKind.i64.wrap (a0_1196.Pc + 1)), V.int .i64 0, V.int .i64 a0_1196.Keeps.a0, V.int .i64 a0_1196.Keeps.a1, V.int .i64 a0_1196.Keeps.a2, V.int .i64 a0_1196.Keeps.a3, V.int .i64 a0_1196.State, V.int .i64 (IntKind.i64.wrap (a0_1196.Ran + 1))], V.agg [V.int .i64 v90_1226, V.int .i64 v91_1227, V.int .i64 v92_1228], V.int .i64 0]) rfl (.cell (v := V.agg [V.int .i64 a0_1196.Id, V.int .i64 a0_1196.Tenant, V.int .i64 a0_1196.Prog, V.int .i64 (if (a1_1197.length : Int) < (IntKind.i64.wrap (a0_1196.Pc + 1)) then (a1_1197.length : Int) else IntKind.i64.wrap (a0_1196.Pc + 1)), V.int .i64 0, V.int .i64 a0_1196.Keeps.a0, V.int .i64 a0_1196.Keeps.a1, V.int .i64 a0_1196.Keeps.a2, V.int .i64 a0_1196.Keeps.a3, V.int .i64 a0_1196.State, V.int .i64 (IntKind.i64.wrap (a0_1196.Ran + 1))]) rfl rfl (.box rfl rfl) rfl (.cell (v := V.agg [V.int .i64 v90_1226, V.int .i64 v91_1227, V.int .i64 v92_1228]) rfl rfl (.box rfl rfl) rfl (.tmp (v := V.int .i64 0) rfl .nil))) (.free rfl) (by simp) (.inr rfl)
        · skip
          refine ifG h (fun hc1230 h => ?_) (fun hc1230 h => ?_)
          · skip
            refine Safe.condK rfl hc1230 ?_
            repeat (first | refine Safe.seq ?_ | refine Safe.skip ?_ | with_reducible refine thenQ.n ?_ | with_reducible refine blockQ.n ?_)
            refine Safe.region ?_
            refine SafeOps.quiet0 E_good rfl rfl rfl (v := V.agg [V.int .i64 0, V.int .i64 0, V.int .i64 0]) (.fn rfl) ?_
            refine SafeOps.store (z := Obj.box [V.int .i64 0, V.int .i64 0, V.int .i64 0]) E_good rfl rfl rfl rfl rfl rfl rfl (.boxM (c := 3) rfl rfl (Nat.le_of_ble_eq_true rfl) rfl) ?_
            refine SafeOps.nil ?_
            repeat (first | refine Safe.seq ?_ | refine Safe.skip ?_ | with_reducible refine thenQ.n ?_ | with_reducible refine blockQ.n ?_)
            refine Safe.region ?_
            refine SafeOps.quiet0 E_good rfl rfl rfl (v := V.ptr [2] 0 4) (.fn rfl) ?_
            refine SafeOps.quiet0 E_good rfl rfl rfl (v := V.int .i64 a0_1196.Unit) (.load rfl rfl (.box rfl rfl) rfl) ?_
            refine SafeOps.quiet0 E_good rfl rfl rfl (v := V.int .i64 (IntKind.i64.wrap (a0_1196.Unit + 1))) (.fn rfl) ?_
            refine SafeOps.quiet0 E_good rfl rfl rfl (v := V.ptr [2] 0 4) (.fn rfl) ?_
            refine SafeOps.store (z := Obj.box [V.int .i64 a0_1196.Id, V.int .i64 a0_1196.Tenant, V.int .i64 a0_1196.Prog, V.int .i64 a0_1196.Pc, V.int .i64 (IntKind.i64.wrap (a0_1196.Unit + 1)), V.int .i64 a0_1196.Keeps.a0, V.int .i64 a0_1196.Keeps.a1, V.int .i64 a0_1196.Keeps.a2, V.int .i64 a0_1196.Keeps.a3, V.int .i64 a0_1196.State, V.int .i64 (IntKind.i64.wrap (a0_1196.Ran + 1))]) E_good rfl rfl rfl rfl rfl rfl rfl (.boxM (c := 11) rfl rfl (Nat.le_of_ble_eq_true rfl) rfl) ?_
            refine SafeOps.nil ?_
            repeat (first | refine Safe.seq ?_ | refine Safe.skip ?_ | with_reducible refine thenQ.n ?_ | with_reducible refine blockQ.n ?_)
            refine Safe.region ?_
            refine SafeOps.quiet0 E_good rfl rfl rfl (v := V.ptr [2] 0 4) (.fn rfl) ?_
            refine SafeOps.quiet0 E_good rfl rfl rfl (v := V.int .i64 (IntKind.i64.wrap (a0_1196.Unit + 1))) (.load rfl rfl (.box rfl rfl) rfl) ?_
            refine SafeOps.quiet0 E_good rfl rfl rfl (v := V.ptr [7] 0 1) (.fn rfl) ?_
            refine SafeOps.quiet0 E_good rfl rfl rfl (v := V.int .i64 x_1215.A) (.load rfl rfl (.box rfl rfl) rfl) ?_
            refine SafeOps.quiet0 E_good rfl rfl rfl (v := V.bool (decide ((IntKind.i64.wrap (a0_1196.Unit + 1)) < x_1215.A))) (.fn rfl) ?_
            refine SafeOps.nil ?_
            repeat (first | refine Safe.seq ?_ | refine Safe.skip ?_ | with_reducible refine thenQ.n ?_ | with_reducible refine blockQ.n ?_)
            refine ifG h (fun hc1231 h => ?_) (fun hc1231 h => ?_)
            · skip
              refine Safe.condK rfl hc1231 ?_
              repeat (first | refine Safe.seq ?_ | refine Safe.skip ?_ | with_reducible refine thenQ.n ?_ | with_reducible refine blockQ.n ?_)
              refine Safe.regionD (n := 5) [(2, [4]), (3, [5])] [] E_good mixed rfl ?_
              refine DAny.take (i := 0) rfl (by kernel_rfl) [[4], [5]] (by kernel_rfl) (by kernel_rfl) (by kernel_rfl) rfl rfl rfl (v := V.agg [V.int .i64 a0_1196.Id, V.int .i64 a0_1196.Tenant, V.int .i64 a0_1196.Prog, V.int .i64 a0_1196.Pc, V.int .i64 (IntKind.i64.wrap (a0_1196.Unit + 1)), V.int .i64 a0_1196.Keeps.a0, V.int .i64 a0_1196.Keeps.a1, V.int .i64 a0_1196.Keeps.a2, V.int .i64 a0_1196.Keeps.a3, V.int .i64 a0_1196.State, V.int .i64 (IntKind.i64.wrap (a0_1196.Ran + 1))]) (fun _ hz => (.load rfl rfl (.box (hz _ _ rfl rfl) rfl) rfl)) ?_
              refine DAny.take (i := 1) rfl (by kernel_rfl) [[4], [5]] (by kernel_rfl) (by kernel_rfl) (by kernel_rfl) rfl rfl rfl (v := V.agg [V.int .i64 0, V.int .i64 0, V.int .i64 0]) (fun _ hz => (.load rfl rfl (.box (hz _ _ rfl rfl) rfl) rfl)) ?_
              refine DAny.only (i := 2) rfl (by kernel_rfl) (.store (z := Obj.box [V.int .i64 a0_1196.Id, V.int .i64 a0_1196.Tenant, V.int .i64 a0_1196.Prog, V.int .i64 a0_1196.Pc, V.int .i64 (IntKind.i64.wrap (a0_1196.Unit + 1)), V.int .i64 a0_1196.Keeps.a0, V.int .i64 a0_1196.Keeps.a1, V.int .i64 a0_1196.Keeps.a2, V.int .i64 a0_1196.Keeps.a3, V.int .i64 a0_1196.State, V.int .i64 (IntKind.i64.wrap (a0_1196.Ran + 1))]) rfl rfl rfl rfl rfl rfl rfl (.boxM (c := 11) rfl rfl (Nat.le_of_ble_eq_true rfl) rfl) rfl ?_)
              refine DAny.only (i := 3) rfl (by kernel_rfl) (.store (z := Obj.box [V.int .i64 0, V.int .i64 0, V.int .i64 0]) rfl rfl rfl rfl rfl rfl rfl (.boxM (c := 3) rfl rfl (Nat.le_of_ble_eq_true rfl) rfl) rfl ?_)
              refine DAny.take (i := 4) rfl (by kernel_rfl) [[4], [5]] (by kernel_rfl) (by kernel_rfl) (by kernel_rfl) rfl rfl rfl (v := V.int .i64 0) (fun _ hz => (.fn rfl)) ?_
              refine DAny.nil (by kernel_rfl) ?_
              repeat (first | refine Safe.seq ?_ | refine Safe.skip ?_ | with_reducible refine thenQ.n ?_ | with_reducible refine blockQ.n ?_)
              refine Safe.ret ?_
              repeat (first | with_reducible refine thenQ.r ?_ | with_reducible refine blockQ.r ?_)
              obtain rfl := Option.some.inj h
              exact retQ.gen (vs := [V.agg [V.int .i64 a0_1196.Id, V.int .i64 a0_1196.Tenant, V.int .i64 a0_1196.Prog, V.int .i64 a0_1196.Pc, V.int .i64 (IntKind.i64.wrap (a0_1196.Unit + 1)), V.int .i64 a0_1196.Keeps.a0, V.int .i64 a0_1196.Keeps.a1, V.int .i64 a0_1196.Keeps.a2, V.int .i64 a0_1196.Keeps.a3, V.int .i64 a0_1196.State, V.int .i64 (IntKind.i64.wrap (a0_1196.Ran + 1))], V.agg [V.int .i64 0, V.int .i64 0, V.int .i64 0], V.int .i64 0]) rfl (.cell (v := V.agg [V.int .i64 a0_1196.Id, V.int .i64 a0_1196.Tenant, V.int .i64 a0_1196.Prog, V.int .i64 a0_1196.Pc, V.int .i64 (IntKind.i64.wrap (a0_1196.Unit + 1)), V.int .i64 a0_1196.Keeps.a0, V.int .i64 a0_1196.Keeps.a1, V.int .i64 a0_1196.Keeps.a2, V.int .i64 a0_1196.Keeps.a3, V.int .i64 a0_1196.State, V.int .i64 (IntKind.i64.wrap (a0_1196.Ran + 1))]) rfl rfl (.box rfl rfl) rfl (.cell (v := V.agg [V.int .i64 0, V.int .i64 0, V.int .i64 0]) rfl rfl (.box rfl rfl) rfl (.tmp (v := V.int .i64 0) rfl .nil))) (.free rfl) (by simp) (.inr rfl)
            · skip
              refine Safe.condN rfl hc1231 ?_
              repeat (first | refine Safe.skip ?_ | with_reducible refine thenQ.n ?_ | with_reducible refine blockQ.n ?_)
              exact Safe.got (HJ1229 (IntKind.i64.wrap (a0_1196.Unit + 1), 0, 0, 0) h) (.cov ⟨rfl, rfl, (upT_cons (.refl _) (upT_cons (.refl _) (upT_cons (.refl _) (upT_cons (.refl _) (upT_cons (.refl _) upT_nil))))), (upOb_cons rfl (.refl _) (upOb_cons rfl (.refl _) (upOb_cons rfl (.refl _) (upOb_cons rfl (.refl _) upOb_nil)))), upOut_nil, rfl⟩)
          · skip
            refine Safe.condN rfl hc1230 ?_
            repeat (first | refine Safe.skip ?_ | with_reducible refine thenQ.n ?_ | with_reducible refine blockQ.n ?_)
            exact Safe.got (HJ1229 (a0_1196.Unit, x_1215.Op, x_1215.A, x_1215.B) h) (.cov ⟨rfl, rfl, (upT_cons (.refl _) (upT_cons (.refl _) (upT_cons (.refl _) (upT_cons (.refl _) (upT_cons (.refl _) upT_nil))))), (upOb_cons rfl (.refl _) (upOb_cons rfl (.refl _) (upOb_cons rfl (.refl _) (upOb_cons rfl (.refl _) upOb_nil)))), upOut_nil, rfl⟩)

def go_trace_Held (a0_1257 : Int) : Int :=
  if (a0_1257 == 4) = true then
    3
  else
    if (a0_1257 == 5) = true then
      4
    else
      if (a0_1257 == 6) = true then
        5
      else
        if (a0_1257 == 7) = true then
          6
        else
          0

theorem go_trace_Held_sc (a0_1257 : Int) (r : Int) (h : go_trace_Held a0_1257 = r) : SC Tryd.prog gl 22 [V.int .i64 a0_1257] (V.int .i64 r) := by
  rw [go_trace_Held] at h
  refine SC.of E_good Tryd.func22 rfl (fun _ _ => Tryd.call22 _ _) rfl ?_
  repeat (first | refine Safe.seq ?_ | refine Safe.skip ?_ | with_reducible refine thenQ.n ?_ | with_reducible refine blockQ.n ?_)
  refine Safe.region ?_
  refine SafeOps.quiet0 E_good rfl rfl rfl (v := V.int .i64 0) (.fn rfl) ?_
  refine SafeOps.nil ?_
  repeat (first | refine Safe.seq ?_ | refine Safe.skip ?_ | with_reducible refine thenQ.n ?_ | with_reducible refine blockQ.n ?_)
  refine Safe.region ?_
  refine SafeOps.quiet0 E_good rfl rfl rfl (v := V.int .i64 a0_1257) (.fn rfl) ?_
  refine SafeOps.nil ?_
  repeat (first | refine Safe.seq ?_ | refine Safe.skip ?_ | with_reducible refine thenQ.n ?_ | with_reducible refine blockQ.n ?_)
  refine Safe.block ?_
  repeat (first | refine Safe.seq ?_ | refine Safe.skip ?_ | with_reducible refine thenQ.n ?_ | with_reducible refine blockQ.n ?_)
  refine Safe.region ?_
  refine SafeOps.quiet0 E_good rfl rfl rfl (v := V.bool (a0_1257 == 4)) (.fn rfl) ?_
  refine SafeOps.quiet0 E_good rfl rfl rfl (v := V.bool (a0_1257 == 4)) (.fn rfl) ?_
  refine SafeOps.nil ?_
  repeat (first | refine Safe.seq ?_ | refine Safe.skip ?_ | with_reducible refine thenQ.n ?_ | with_reducible refine blockQ.n ?_)
  refine ifG h (fun hc1262 h => ?_) (fun hc1262 h => ?_)
  · skip
    refine Safe.condK rfl hc1262 ?_
    repeat (first | refine Safe.seq ?_ | refine Safe.skip ?_ | with_reducible refine thenQ.n ?_ | with_reducible refine blockQ.n ?_)
    refine Safe.region ?_
    refine SafeOps.quiet0 E_good rfl rfl rfl (v := V.int .i64 3) (.fn rfl) ?_
    refine SafeOps.nil ?_
    repeat (first | refine Safe.seq ?_ | refine Safe.skip ?_ | with_reducible refine thenQ.n ?_ | with_reducible refine blockQ.n ?_)
    refine Safe.ret ?_
    repeat (first | with_reducible refine thenQ.r ?_ | with_reducible refine blockQ.r ?_)
    obtain rfl := h
    exact retQ.gen (vs := [V.int .i64 3]) rfl (.tmp (v := V.int .i64 3) rfl .nil) (.free rfl) (by simp) (.inr rfl)
  · skip
    refine Safe.condN rfl hc1262 ?_
    repeat (first | refine Safe.seq ?_ | refine Safe.skip ?_ | with_reducible refine thenQ.n ?_ | with_reducible refine blockQ.n ?_)
    refine Safe.region ?_
    refine SafeOps.quiet0 E_good rfl rfl rfl (v := V.bool (a0_1257 == 5)) (.fn rfl) ?_
    refine SafeOps.quiet0 E_good rfl rfl rfl (v := V.bool (a0_1257 == 5)) (.fn rfl) ?_
    refine SafeOps.nil ?_
    repeat (first | refine Safe.seq ?_ | refine Safe.skip ?_ | with_reducible refine thenQ.n ?_ | with_reducible refine blockQ.n ?_)
    refine ifG h (fun hc1263 h => ?_) (fun hc1263 h => ?_)
    · skip
      refine Safe.condK rfl hc1263 ?_
      repeat (first | refine Safe.seq ?_ | refine Safe.skip ?_ | with_reducible refine thenQ.n ?_ | with_reducible refine blockQ.n ?_)
      refine Safe.region ?_
      refine SafeOps.quiet0 E_good rfl rfl rfl (v := V.int .i64 4) (.fn rfl) ?_
      refine SafeOps.nil ?_
      repeat (first | refine Safe.seq ?_ | refine Safe.skip ?_ | with_reducible refine thenQ.n ?_ | with_reducible refine blockQ.n ?_)
      refine Safe.ret ?_
      repeat (first | with_reducible refine thenQ.r ?_ | with_reducible refine blockQ.r ?_)
      obtain rfl := h
      exact retQ.gen (vs := [V.int .i64 4]) rfl (.tmp (v := V.int .i64 4) rfl .nil) (.free rfl) (by simp) (.inr rfl)
    · skip
      refine Safe.condN rfl hc1263 ?_
      repeat (first | refine Safe.seq ?_ | refine Safe.skip ?_ | with_reducible refine thenQ.n ?_ | with_reducible refine blockQ.n ?_)
      refine Safe.region ?_
      refine SafeOps.quiet0 E_good rfl rfl rfl (v := V.bool (a0_1257 == 6)) (.fn rfl) ?_
      refine SafeOps.quiet0 E_good rfl rfl rfl (v := V.bool (a0_1257 == 6)) (.fn rfl) ?_
      refine SafeOps.nil ?_
      repeat (first | refine Safe.seq ?_ | refine Safe.skip ?_ | with_reducible refine thenQ.n ?_ | with_reducible refine blockQ.n ?_)
      refine ifG h (fun hc1264 h => ?_) (fun hc1264 h => ?_)
      · skip
        refine Safe.condK rfl hc1264 ?_
        repeat (first | refine Safe.seq ?_ | refine Safe.skip ?_ | with_reducible refine thenQ.n ?_ | with_reducible refine blockQ.n ?_)
        refine Safe.region ?_
        refine SafeOps.quiet0 E_good rfl rfl rfl (v := V.int .i64 5) (.fn rfl) ?_
        refine SafeOps.nil ?_
        repeat (first | refine Safe.seq ?_ | refine Safe.skip ?_ | with_reducible refine thenQ.n ?_ | with_reducible refine blockQ.n ?_)
        refine Safe.ret ?_
        repeat (first | with_reducible refine thenQ.r ?_ | with_reducible refine blockQ.r ?_)
        obtain rfl := h
        exact retQ.gen (vs := [V.int .i64 5]) rfl (.tmp (v := V.int .i64 5) rfl .nil) (.free rfl) (by simp) (.inr rfl)
      · skip
        refine Safe.condN rfl hc1264 ?_
        repeat (first | refine Safe.seq ?_ | refine Safe.skip ?_ | with_reducible refine thenQ.n ?_ | with_reducible refine blockQ.n ?_)
        refine Safe.region ?_
        refine SafeOps.quiet0 E_good rfl rfl rfl (v := V.bool (a0_1257 == 7)) (.fn rfl) ?_
        refine SafeOps.quiet0 E_good rfl rfl rfl (v := V.bool (a0_1257 == 7)) (.fn rfl) ?_
        refine SafeOps.nil ?_
        repeat (first | refine Safe.seq ?_ | refine Safe.skip ?_ | with_reducible refine thenQ.n ?_ | with_reducible refine blockQ.n ?_)
        refine ifG h (fun hc1265 h => ?_) (fun hc1265 h => ?_)
        · skip
          refine Safe.condK rfl hc1265 ?_
          repeat (first | refine Safe.seq ?_ | refine Safe.skip ?_ | with_reducible refine thenQ.n ?_ | with_reducible refine blockQ.n ?_)
          refine Safe.region ?_
          refine SafeOps.quiet0 E_good rfl rfl rfl (v := V.int .i64 6) (.fn rfl) ?_
          refine SafeOps.nil ?_
          repeat (first | refine Safe.seq ?_ | refine Safe.skip ?_ | with_reducible refine thenQ.n ?_ | with_reducible refine blockQ.n ?_)
          refine Safe.ret ?_
          repeat (first | with_reducible refine thenQ.r ?_ | with_reducible refine blockQ.r ?_)
          obtain rfl := h
          exact retQ.gen (vs := [V.int .i64 6]) rfl (.tmp (v := V.int .i64 6) rfl .nil) (.free rfl) (by simp) (.inr rfl)
        · skip
          refine Safe.condN rfl hc1265 ?_
          repeat (first | refine Safe.seq ?_ | refine Safe.skip ?_ | with_reducible refine thenQ.n ?_ | with_reducible refine blockQ.n ?_)
          refine Safe.region ?_
          refine SafeOps.quiet0 E_good rfl rfl rfl (v := V.int .i64 0) (.fn rfl) ?_
          refine SafeOps.nil ?_
          repeat (first | refine Safe.seq ?_ | refine Safe.skip ?_ | with_reducible refine thenQ.n ?_ | with_reducible refine blockQ.n ?_)
          refine Safe.ret ?_
          repeat (first | with_reducible refine thenQ.r ?_ | with_reducible refine blockQ.r ?_)
          obtain rfl := h
          exact retQ.gen (vs := [V.int .i64 0]) rfl (.tmp (v := V.int .i64 0) rfl .nil) (.free rfl) (by simp) (.inr rfl)

def go_life_Waits (a0_1268 : Int) : Bool :=
  ((decide (a0_1268 ≥ 3)) && (decide (a0_1268 ≤ 6)))

theorem go_life_Waits_sc (a0_1268 : Int) (r : Bool) (h : go_life_Waits a0_1268 = r) : SC Tryd.prog gl 45 [V.int .i64 a0_1268] (V.bool r) := by
  rw [go_life_Waits] at h
  refine SC.of E_good Tryd.func45 rfl (fun _ _ => Tryd.call45 _ _) rfl ?_
  repeat (first | refine Safe.seq ?_ | refine Safe.skip ?_ | with_reducible refine thenQ.n ?_ | with_reducible refine blockQ.n ?_)
  refine Safe.region ?_
  refine SafeOps.quiet0 E_good rfl rfl rfl (v := V.bool false) (.fn rfl) ?_
  refine SafeOps.nil ?_
  repeat (first | refine Safe.seq ?_ | refine Safe.skip ?_ | with_reducible refine thenQ.n ?_ | with_reducible refine blockQ.n ?_)
  refine Safe.region ?_
  refine SafeOps.quiet0 E_good rfl rfl rfl (v := V.int .i64 a0_1268) (.fn rfl) ?_
  refine SafeOps.quiet0 E_good rfl rfl rfl (v := V.bool (decide (a0_1268 ≥ 3))) (.fn rfl) ?_
  refine SafeOps.quiet0 E_good rfl rfl rfl (v := V.bool (decide (a0_1268 ≥ 3))) (.fn rfl) ?_
  refine SafeOps.bjoin 3 8 (b := ((decide (a0_1268 ≥ 3)) && (decide (a0_1268 ≤ 6)))) (b1 := decide (a0_1268 ≤ 6)) (b0 := false) (fun hc1270 K => ?_) (fun hc1270 K => ?_) bj_and ?_
  · skip
    refine SafeOps.quiet0 E_good (congrArg some hc1270) rfl rfl (v := V.int .i64 a0_1268) (.fn rfl) ?_
    refine SafeOps.quiet0 E_good (congrArg some hc1270) rfl rfl (v := V.bool (decide (a0_1268 ≤ 6))) (.fn rfl) ?_
    refine SafeOps.quiet0 E_good rfl rfl rfl (v := V.bool (decide (a0_1268 ≤ 6))) (.pickK rfl hc1270 rfl) ?_
    exact SafeOps.drop' 3 rfl rfl rfl K
  · skip
    refine SafeOps.skip (congrArg some hc1270) rfl rfl ?_
    refine SafeOps.skip (congrArg some hc1270) rfl rfl ?_
    refine SafeOps.quiet0 E_good rfl rfl rfl (v := V.bool false) (.pickK rfl hc1270 rfl) ?_
    exact SafeOps.drop' 3 rfl rfl rfl K
  refine SafeOps.quiet0 E_good rfl rfl rfl (v := V.bool ((decide (a0_1268 ≥ 3)) && (decide (a0_1268 ≤ 6)))) (.fn rfl) ?_
  refine SafeOps.nil ?_
  repeat (first | refine Safe.seq ?_ | refine Safe.skip ?_ | with_reducible refine thenQ.n ?_ | with_reducible refine blockQ.n ?_)
  refine Safe.ret ?_
  repeat (first | with_reducible refine thenQ.r ?_ | with_reducible refine blockQ.r ?_)
  obtain rfl := h
  exact retQ.gen (vs := [V.bool ((decide (a0_1268 ≥ 3)) && (decide (a0_1268 ≤ 6)))]) rfl (.tmp (v := V.bool ((decide (a0_1268 ≥ 3)) && (decide (a0_1268 ≤ 6)))) rfl .nil) (.free rfl) (by simp) (.inr rfl)
end Go.Proofs.YtpkegoikocfchaaDoor
