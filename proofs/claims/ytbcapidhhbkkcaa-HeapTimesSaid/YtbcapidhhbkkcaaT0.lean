/- Helper lemmas for the claim's theorem: an abstract machine over the model, proved sound; no condition beyond each lemma's own. -/
import Derived.Test.YtbcapidhhbkkcaaSEnv
import Derived.Test.YtbcapidhhbkkcaaSK
import Derived.Test.YtbcapidhhbkkcaaAmH
set_option linter.unusedVariables false
set_option linter.unusedSimpArgs false
set_option linter.unnecessarySimpa false
set_option linter.unusedSectionVars false
namespace Go.Proofs.Ytbcapidhhbkkcaa
open Go Go.AM
set_option maxRecDepth 100000
set_option maxHeartbeats 1000000
set_option linter.unusedVariables false
set_option linter.unusedSimpArgs false
variable {gl : List (Nat × List V)}
@[ext] structure api_Timer where
  At : Int
  Id : Int
  deriving Inhabited
def api_Timer.cells (x : api_Timer) : List V := [V.int .i64 x.At, V.int .i64 x.Id]
def api_Timer.zero : api_Timer := ⟨0, 0⟩
def api_Timer.beq (x y : api_Timer) : Bool := ((x.At == y.At) && ((x.Id == y.Id) && true))

def go_heap_may (a0_13 : api_Timer) : Bool :=
  (((decide (a0_13.At ≥ 0)) && (decide (a0_13.At ≤ 1125899906842624))) && (decide (a0_13.Id ≥ 0)))

theorem go_heap_may_sc (a0_13 : api_Timer) (r : Bool) (h : go_heap_may a0_13 = r) : SC Try.prog gl 31 [V.agg [V.int .i64 a0_13.At, V.int .i64 a0_13.Id]] (V.bool r) := by
  rw [go_heap_may] at h
  refine SC.of E_good Try.func31 rfl (fun _ _ => Try.call31 _ _) rfl ?_
  repeat (first | refine Safe.seq ?_ | refine Safe.skip ?_ | with_reducible refine thenQ.n ?_ | with_reducible refine blockQ.n ?_)
  refine Safe.region ?_
  refine SafeOps.quiet1 E_good rfl rfl rfl (.box rfl rfl) rfl ?_
  refine SafeOps.quiet0 E_good rfl rfl rfl (v := V.bool false) (.fn rfl) ?_
  refine SafeOps.nil ?_
  repeat (first | refine Safe.seq ?_ | refine Safe.skip ?_ | with_reducible refine thenQ.n ?_ | with_reducible refine blockQ.n ?_)
  refine Safe.region ?_
  refine SafeOps.quiet0 E_good rfl rfl rfl (v := V.ptr [1] 0 0) (.fn rfl) ?_
  refine SafeOps.quiet0 E_good rfl rfl rfl (v := V.int .i64 a0_13.At) (.load rfl rfl (.box rfl rfl) rfl) ?_
  refine SafeOps.quiet0 E_good rfl rfl rfl (v := V.bool (decide (a0_13.At ≥ 0))) (.fn rfl) ?_
  refine SafeOps.quiet0 E_good rfl rfl rfl (v := V.bool (decide (a0_13.At ≥ 0))) (.fn rfl) ?_
  refine SafeOps.bjoin 4 10 (b := ((decide (a0_13.At ≥ 0)) && (decide (a0_13.At ≤ 1125899906842624)))) (b1 := decide (a0_13.At ≤ 1125899906842624)) (b0 := false) (fun hc16 K => ?_) (fun hc16 K => ?_) bj_and ?_
  · skip
    refine SafeOps.quiet0 E_good (congrArg some hc16) rfl rfl (v := V.ptr [1] 0 0) (.fn rfl) ?_
    refine SafeOps.quiet0 E_good (congrArg some hc16) rfl rfl (v := V.int .i64 a0_13.At) (.load rfl rfl (.box rfl rfl) rfl) ?_
    refine SafeOps.quiet0 E_good (congrArg some hc16) rfl rfl (v := V.bool (decide (a0_13.At ≤ 1125899906842624))) (.fn rfl) ?_
    refine SafeOps.quiet0 E_good rfl rfl rfl (v := V.bool (decide (a0_13.At ≤ 1125899906842624))) (.pickK rfl hc16 rfl) ?_
    exact SafeOps.drop' 4 rfl rfl rfl K
  · skip
    refine SafeOps.skip (congrArg some hc16) rfl rfl ?_
    refine SafeOps.skip (congrArg some hc16) rfl rfl ?_
    refine SafeOps.skip (congrArg some hc16) rfl rfl ?_
    refine SafeOps.quiet0 E_good rfl rfl rfl (v := V.bool false) (.pickK rfl hc16 rfl) ?_
    exact SafeOps.drop' 4 rfl rfl rfl K
  refine SafeOps.quiet0 E_good rfl rfl rfl (v := V.bool ((decide (a0_13.At ≥ 0)) && (decide (a0_13.At ≤ 1125899906842624)))) (.fn rfl) ?_
  refine SafeOps.bjoin 4 15 (b := (((decide (a0_13.At ≥ 0)) && (decide (a0_13.At ≤ 1125899906842624))) && (decide (a0_13.Id ≥ 0)))) (b1 := decide (a0_13.Id ≥ 0)) (b0 := false) (fun hc17 K => ?_) (fun hc17 K => ?_) bj_and ?_
  · skip
    refine SafeOps.quiet0 E_good (congrArg some hc17) rfl rfl (v := V.ptr [1] 0 1) (.fn rfl) ?_
    refine SafeOps.quiet0 E_good (congrArg some hc17) rfl rfl (v := V.int .i64 a0_13.Id) (.load rfl rfl (.box rfl rfl) rfl) ?_
    refine SafeOps.quiet0 E_good (congrArg some hc17) rfl rfl (v := V.bool (decide (a0_13.Id ≥ 0))) (.fn rfl) ?_
    refine SafeOps.quiet0 E_good rfl rfl rfl (v := V.bool (decide (a0_13.Id ≥ 0))) (.pickK rfl hc17 rfl) ?_
    exact SafeOps.drop' 4 rfl rfl rfl K
  · skip
    refine SafeOps.skip (congrArg some hc17) rfl rfl ?_
    refine SafeOps.skip (congrArg some hc17) rfl rfl ?_
    refine SafeOps.skip (congrArg some hc17) rfl rfl ?_
    refine SafeOps.quiet0 E_good rfl rfl rfl (v := V.bool false) (.pickK rfl hc17 rfl) ?_
    exact SafeOps.drop' 4 rfl rfl rfl K
  refine SafeOps.quiet0 E_good rfl rfl rfl (v := V.bool (((decide (a0_13.At ≥ 0)) && (decide (a0_13.At ≤ 1125899906842624))) && (decide (a0_13.Id ≥ 0)))) (.fn rfl) ?_
  refine SafeOps.nil ?_
  repeat (first | refine Safe.seq ?_ | refine Safe.skip ?_ | with_reducible refine thenQ.n ?_ | with_reducible refine blockQ.n ?_)
  refine Safe.ret ?_
  repeat (first | with_reducible refine thenQ.r ?_ | with_reducible refine blockQ.r ?_)
  obtain rfl := h
  exact retQ.gen (vs := [V.bool (((decide (a0_13.At ≥ 0)) && (decide (a0_13.At ≤ 1125899906842624))) && (decide (a0_13.Id ≥ 0)))]) rfl (.tmp (v := V.bool (((decide (a0_13.At ≥ 0)) && (decide (a0_13.At ≤ 1125899906842624))) && (decide (a0_13.Id ≥ 0)))) rfl .nil) (.free rfl) (by simp) (.inr rfl)

def go_cmp_isNaN_int64 (a0_32 : Int) : Bool :=
  (a0_32 != a0_32)

theorem go_cmp_isNaN_int64_sc (a0_32 : Int) (r : Bool) (h : go_cmp_isNaN_int64 a0_32 = r) : SC Try.prog gl 52 [V.int .i64 a0_32] (V.bool r) := by
  rw [go_cmp_isNaN_int64] at h
  refine SC.of E_good Try.func52 rfl (fun _ _ => Try.call52 _ _) rfl ?_
  repeat (first | refine Safe.seq ?_ | refine Safe.skip ?_ | with_reducible refine thenQ.n ?_ | with_reducible refine blockQ.n ?_)
  refine Safe.region ?_
  refine SafeOps.quiet0 E_good rfl rfl rfl (v := V.bool false) (.fn rfl) ?_
  refine SafeOps.nil ?_
  repeat (first | refine Safe.seq ?_ | refine Safe.skip ?_ | with_reducible refine thenQ.n ?_ | with_reducible refine blockQ.n ?_)
  refine Safe.region ?_
  refine SafeOps.quiet0 E_good rfl rfl rfl (v := V.int .i64 a0_32) (.fn rfl) ?_
  refine SafeOps.quiet0 E_good rfl rfl rfl (v := V.int .i64 a0_32) (.fn rfl) ?_
  refine SafeOps.quiet0 E_good rfl rfl rfl (v := V.bool (a0_32 != a0_32)) (.fn rfl) ?_
  refine SafeOps.quiet0 E_good rfl rfl rfl (v := V.bool (a0_32 != a0_32)) (.fn rfl) ?_
  refine SafeOps.nil ?_
  repeat (first | refine Safe.seq ?_ | refine Safe.skip ?_ | with_reducible refine thenQ.n ?_ | with_reducible refine blockQ.n ?_)
  refine Safe.ret ?_
  repeat (first | with_reducible refine thenQ.r ?_ | with_reducible refine blockQ.r ?_)
  obtain rfl := h
  exact retQ.gen (vs := [V.bool (a0_32 != a0_32)]) rfl (.tmp (v := V.bool (a0_32 != a0_32)) rfl .nil) (.free rfl) (by simp) (.inr rfl)

def go_cmp_Compare_int64 (a0_30 : Int) (a1_31 : Int) : Int :=
  if (go_cmp_isNaN_int64 a0_30) = true then
    if (go_cmp_isNaN_int64 a1_31) = true then
      0
    else
      -1
  else
    if (go_cmp_isNaN_int64 a1_31) = true then
      1
    else
      if (decide (a0_30 < a1_31)) = true then
        -1
      else
        if (decide (a0_30 > a1_31)) = true then
          1
        else
          0

theorem go_cmp_Compare_int64_sc (a0_30 : Int) (a1_31 : Int) (r : Int) (h : go_cmp_Compare_int64 a0_30 a1_31 = r) : SC Try.prog gl 48 [V.int .i64 a0_30, V.int .i64 a1_31] (V.int .i64 r) := by
  rw [go_cmp_Compare_int64] at h
  refine SC.of E_good Try.func48 rfl (fun _ _ => Try.call48 _ _) rfl ?_
  repeat (first | refine Safe.seq ?_ | refine Safe.skip ?_ | with_reducible refine thenQ.n ?_ | with_reducible refine blockQ.n ?_)
  refine Safe.region ?_
  refine SafeOps.quiet0 E_good rfl rfl rfl (v := V.int .i64 0) (.fn rfl) ?_
  refine SafeOps.nil ?_
  repeat (first | refine Safe.seq ?_ | refine Safe.skip ?_ | with_reducible refine thenQ.n ?_ | with_reducible refine blockQ.n ?_)
  refine Safe.region ?_
  refine SafeOps.quiet0 E_good rfl rfl rfl (v := V.int .i64 a0_30) (.fn rfl) ?_
  refine SafeOps.quiet0 E_good rfl rfl rfl (v := V.bool (go_cmp_isNaN_int64 a0_30)) (.callP rfl rfl (go_cmp_isNaN_int64_sc a0_30 _ rfl) rfl) ?_
  refine SafeOps.quiet0 E_good rfl rfl rfl (v := V.bool (go_cmp_isNaN_int64 a0_30)) (.fn rfl) ?_
  refine SafeOps.nil ?_
  repeat (first | refine Safe.seq ?_ | refine Safe.skip ?_ | with_reducible refine thenQ.n ?_ | with_reducible refine blockQ.n ?_)
  refine Safe.region ?_
  refine SafeOps.quiet0 E_good rfl rfl rfl (v := V.int .i64 a1_31) (.fn rfl) ?_
  refine SafeOps.quiet0 E_good rfl rfl rfl (v := V.bool (go_cmp_isNaN_int64 a1_31)) (.callP rfl rfl (go_cmp_isNaN_int64_sc a1_31 _ rfl) rfl) ?_
  refine SafeOps.quiet0 E_good rfl rfl rfl (v := V.bool (go_cmp_isNaN_int64 a1_31)) (.fn rfl) ?_
  refine SafeOps.nil ?_
  repeat (first | refine Safe.seq ?_ | refine Safe.skip ?_ | with_reducible refine thenQ.n ?_ | with_reducible refine blockQ.n ?_)
  refine Safe.region ?_
  refine SafeOps.quiet0 E_good rfl rfl rfl (v := V.bool (go_cmp_isNaN_int64 a0_30)) (.fn rfl) ?_
  refine SafeOps.nil ?_
  repeat (first | refine Safe.seq ?_ | refine Safe.skip ?_ | with_reducible refine thenQ.n ?_ | with_reducible refine blockQ.n ?_)
  refine ifG h (fun hc40 h => ?_) (fun hc40 h => ?_)
  · skip
    refine Safe.condK rfl hc40 ?_
    repeat (first | refine Safe.seq ?_ | refine Safe.skip ?_ | with_reducible refine thenQ.n ?_ | with_reducible refine blockQ.n ?_)
    refine Safe.region ?_
    refine SafeOps.quiet0 E_good rfl rfl rfl (v := V.bool (go_cmp_isNaN_int64 a1_31)) (.fn rfl) ?_
    refine SafeOps.nil ?_
    repeat (first | refine Safe.seq ?_ | refine Safe.skip ?_ | with_reducible refine thenQ.n ?_ | with_reducible refine blockQ.n ?_)
    refine ifG h (fun hc41 h => ?_) (fun hc41 h => ?_)
    · skip
      refine Safe.condK rfl hc41 ?_
      repeat (first | refine Safe.seq ?_ | refine Safe.skip ?_ | with_reducible refine thenQ.n ?_ | with_reducible refine blockQ.n ?_)
      refine Safe.region ?_
      refine SafeOps.quiet0 E_good rfl rfl rfl (v := V.int .i64 0) (.fn rfl) ?_
      refine SafeOps.nil ?_
      repeat (first | refine Safe.seq ?_ | refine Safe.skip ?_ | with_reducible refine thenQ.n ?_ | with_reducible refine blockQ.n ?_)
      refine Safe.ret ?_
      repeat (first | with_reducible refine thenQ.r ?_ | with_reducible refine blockQ.r ?_)
      obtain rfl := h
      exact retQ.gen (vs := [V.int .i64 0]) rfl (.tmp (v := V.int .i64 0) rfl .nil) (.free rfl) (by simp) (.inr rfl)
    · skip
      refine Safe.condN rfl hc41 ?_
      repeat (first | refine Safe.seq ?_ | refine Safe.skip ?_ | with_reducible refine thenQ.n ?_ | with_reducible refine blockQ.n ?_)
      refine Safe.region ?_
      refine SafeOps.quiet0 E_good rfl rfl rfl (v := V.int .i64 (-1)) (.fn rfl) ?_
      refine SafeOps.nil ?_
      repeat (first | refine Safe.seq ?_ | refine Safe.skip ?_ | with_reducible refine thenQ.n ?_ | with_reducible refine blockQ.n ?_)
      refine Safe.ret ?_
      repeat (first | with_reducible refine thenQ.r ?_ | with_reducible refine blockQ.r ?_)
      obtain rfl := h
      exact retQ.gen (vs := [V.int .i64 (-1)]) rfl (.tmp (v := V.int .i64 (-1)) rfl .nil) (.free rfl) (by simp) (.inr rfl)
  · skip
    refine Safe.condN rfl hc40 ?_
    repeat (first | refine Safe.seq ?_ | refine Safe.skip ?_ | with_reducible refine thenQ.n ?_ | with_reducible refine blockQ.n ?_)
    refine Safe.region ?_
    refine SafeOps.quiet0 E_good rfl rfl rfl (v := V.bool (go_cmp_isNaN_int64 a1_31)) (.fn rfl) ?_
    refine SafeOps.nil ?_
    repeat (first | refine Safe.seq ?_ | refine Safe.skip ?_ | with_reducible refine thenQ.n ?_ | with_reducible refine blockQ.n ?_)
    refine ifG h (fun hc42 h => ?_) (fun hc42 h => ?_)
    · skip
      refine Safe.condK rfl hc42 ?_
      repeat (first | refine Safe.seq ?_ | refine Safe.skip ?_ | with_reducible refine thenQ.n ?_ | with_reducible refine blockQ.n ?_)
      refine Safe.region ?_
      refine SafeOps.quiet0 E_good rfl rfl rfl (v := V.int .i64 1) (.fn rfl) ?_
      refine SafeOps.nil ?_
      repeat (first | refine Safe.seq ?_ | refine Safe.skip ?_ | with_reducible refine thenQ.n ?_ | with_reducible refine blockQ.n ?_)
      refine Safe.ret ?_
      repeat (first | with_reducible refine thenQ.r ?_ | with_reducible refine blockQ.r ?_)
      obtain rfl := h
      exact retQ.gen (vs := [V.int .i64 1]) rfl (.tmp (v := V.int .i64 1) rfl .nil) (.free rfl) (by simp) (.inr rfl)
    · skip
      refine Safe.condN rfl hc42 ?_
      repeat (first | refine Safe.seq ?_ | refine Safe.skip ?_ | with_reducible refine thenQ.n ?_ | with_reducible refine blockQ.n ?_)
      refine Safe.region ?_
      refine SafeOps.quiet0 E_good rfl rfl rfl (v := V.int .i64 a0_30) (.fn rfl) ?_
      refine SafeOps.quiet0 E_good rfl rfl rfl (v := V.int .i64 a1_31) (.fn rfl) ?_
      refine SafeOps.quiet0 E_good rfl rfl rfl (v := V.bool (decide (a0_30 < a1_31))) (.fn rfl) ?_
      refine SafeOps.nil ?_
      repeat (first | refine Safe.seq ?_ | refine Safe.skip ?_ | with_reducible refine thenQ.n ?_ | with_reducible refine blockQ.n ?_)
      refine ifG h (fun hc43 h => ?_) (fun hc43 h => ?_)
      · skip
        refine Safe.condK rfl hc43 ?_
        repeat (first | refine Safe.seq ?_ | refine Safe.skip ?_ | with_reducible refine thenQ.n ?_ | with_reducible refine blockQ.n ?_)
        refine Safe.region ?_
        refine SafeOps.quiet0 E_good rfl rfl rfl (v := V.int .i64 (-1)) (.fn rfl) ?_
        refine SafeOps.nil ?_
        repeat (first | refine Safe.seq ?_ | refine Safe.skip ?_ | with_reducible refine thenQ.n ?_ | with_reducible refine blockQ.n ?_)
        refine Safe.ret ?_
        repeat (first | with_reducible refine thenQ.r ?_ | with_reducible refine blockQ.r ?_)
        obtain rfl := h
        exact retQ.gen (vs := [V.int .i64 (-1)]) rfl (.tmp (v := V.int .i64 (-1)) rfl .nil) (.free rfl) (by simp) (.inr rfl)
      · skip
        refine Safe.condN rfl hc43 ?_
        repeat (first | refine Safe.seq ?_ | refine Safe.skip ?_ | with_reducible refine thenQ.n ?_ | with_reducible refine blockQ.n ?_)
        refine Safe.region ?_
        refine SafeOps.quiet0 E_good rfl rfl rfl (v := V.int .i64 a0_30) (.fn rfl) ?_
        refine SafeOps.quiet0 E_good rfl rfl rfl (v := V.int .i64 a1_31) (.fn rfl) ?_
        refine SafeOps.quiet0 E_good rfl rfl rfl (v := V.bool (decide (a0_30 > a1_31))) (.fn rfl) ?_
        refine SafeOps.nil ?_
        repeat (first | refine Safe.seq ?_ | refine Safe.skip ?_ | with_reducible refine thenQ.n ?_ | with_reducible refine blockQ.n ?_)
        refine ifG h (fun hc44 h => ?_) (fun hc44 h => ?_)
        · skip
          refine Safe.condK rfl hc44 ?_
          repeat (first | refine Safe.seq ?_ | refine Safe.skip ?_ | with_reducible refine thenQ.n ?_ | with_reducible refine blockQ.n ?_)
          refine Safe.region ?_
          refine SafeOps.quiet0 E_good rfl rfl rfl (v := V.int .i64 1) (.fn rfl) ?_
          refine SafeOps.nil ?_
          repeat (first | refine Safe.seq ?_ | refine Safe.skip ?_ | with_reducible refine thenQ.n ?_ | with_reducible refine blockQ.n ?_)
          refine Safe.ret ?_
          repeat (first | with_reducible refine thenQ.r ?_ | with_reducible refine blockQ.r ?_)
          obtain rfl := h
          exact retQ.gen (vs := [V.int .i64 1]) rfl (.tmp (v := V.int .i64 1) rfl .nil) (.free rfl) (by simp) (.inr rfl)
        · skip
          refine Safe.condN rfl hc44 ?_
          repeat (first | refine Safe.seq ?_ | refine Safe.skip ?_ | with_reducible refine thenQ.n ?_ | with_reducible refine blockQ.n ?_)
          refine Safe.region ?_
          refine SafeOps.quiet0 E_good rfl rfl rfl (v := V.int .i64 0) (.fn rfl) ?_
          refine SafeOps.nil ?_
          repeat (first | refine Safe.seq ?_ | refine Safe.skip ?_ | with_reducible refine thenQ.n ?_ | with_reducible refine blockQ.n ?_)
          refine Safe.ret ?_
          repeat (first | with_reducible refine thenQ.r ?_ | with_reducible refine blockQ.r ?_)
          obtain rfl := h
          exact retQ.gen (vs := [V.int .i64 0]) rfl (.tmp (v := V.int .i64 0) rfl .nil) (.free rfl) (by simp) (.inr rfl)

noncomputable def go_cmp_Or_int_s1 (a0_45 : List Int) : (Int) → Option ((Int) ⊕ (Int))
  | v8_66 =>
    if (decide (v8_66 < (a0_45.length : Int))) = true then
      if 0 ≤ v8_66 ∧ v8_66 < (a0_45.length : Int) then
        if ((gt a0_45 v8_66) != 0) = true then
          inrO (
            some (gt a0_45 v8_66))
        else
          nextO (IntKind.i64.wrap (v8_66 + 1))
      else none
    else
      inrO (
        some 0)

noncomputable def go_cmp_Or_int (a0_45 : List Int) : Option Int :=
  whileO (go_cmp_Or_int_s1 a0_45) 0

theorem go_cmp_Or_int_sc (a0_45 : List Int) (r : Int) (h : go_cmp_Or_int a0_45 = some r) : SC Try.prog gl 47 [V.sl 1 (rws (fun n => [V.int .i64 n]) a0_45)] (V.int .i64 r) := by
  rw [go_cmp_Or_int] at h
  refine SC.of E_good Try.func47 rfl (fun _ _ => Try.call47 _ _) rfl ?_
  repeat (first | refine Safe.seq ?_ | refine Safe.skip ?_ | with_reducible refine thenQ.n ?_ | with_reducible refine blockQ.n ?_)
  refine Safe.region ?_
  refine SafeOps.quiet0 E_good rfl rfl rfl (v := V.int .i64 0) (.fn rfl) ?_
  refine SafeOps.nil ?_
  repeat (first | refine Safe.seq ?_ | refine Safe.skip ?_ | with_reducible refine thenQ.n ?_ | with_reducible refine blockQ.n ?_)
  refine Safe.region ?_
  refine SafeOps.quiet0 E_good rfl rfl rfl (v := V.int .i64 0) (.fn rfl) ?_
  refine SafeOps.nil ?_
  repeat (first | refine Safe.seq ?_ | refine Safe.skip ?_ | with_reducible refine thenQ.n ?_ | with_reducible refine blockQ.n ?_)
  refine Safe.region ?_
  refine SafeOps.quiet0 E_good rfl rfl rfl (v := V.sl 1 (rws (fun n => [V.int .i64 n]) a0_45)) (.fn rfl) ?_
  refine SafeOps.quiet0 E_good rfl rfl rfl (v := V.int .i64 (a0_45.length : Int)) (.fnE rfl lenE) ?_
  refine SafeOps.quiet0 E_good rfl rfl rfl (v := V.int .i64 0) (.fn rfl) ?_
  refine SafeOps.nil ?_
  repeat (first | refine Safe.seq ?_ | refine Safe.skip ?_ | with_reducible refine thenQ.n ?_ | with_reducible refine blockQ.n ?_)
  refine Safe.block ?_
  repeat (first | refine Safe.seq ?_ | refine Safe.skip ?_ | with_reducible refine thenQ.n ?_ | with_reducible refine blockQ.n ?_)
  refine Safe.loopW (fun (v8_66 : Int) => ⟨Try.f47.ntmps, [(3, V.int .i64 0), (6, V.sl 1 (rws (fun n => [V.int .i64 n]) a0_45)), (7, V.int .i64 (a0_45.length : Int)), (8, V.int .i64 v8_66)], [], [], []⟩) h (.cov ⟨rfl, rfl, (upT_cons (.refl _) (upT_cons (.refl _) (upT_cons (.refl _) (upT_cons (.refl _) upT_nil)))), upOb_nil, upOut_nil, rfl⟩) ?_
  intro v8_66 ohr67 h hr67
  replace h : go_cmp_Or_int_s1 a0_45 v8_66 = some ohr67 := h
  rw [go_cmp_Or_int_s1] at h
  repeat (first | refine Safe.seq ?_ | refine Safe.skip ?_ | with_reducible refine thenQ.n ?_ | with_reducible refine blockQ.n ?_)
  refine Safe.region ?_
  refine SafeOps.quiet0 E_good rfl rfl rfl (v := V.bool (decide (v8_66 < (a0_45.length : Int)))) (.fn rfl) ?_
  refine SafeOps.nil ?_
  repeat (first | refine Safe.seq ?_ | refine Safe.skip ?_ | with_reducible refine thenQ.n ?_ | with_reducible refine blockQ.n ?_)
  refine ifG h (fun hc68 h => ?_) (fun hc68 h => ?_)
  · skip
    refine Safe.condK rfl hc68 ?_
    repeat (first | refine Safe.seq ?_ | refine Safe.skip ?_ | with_reducible refine thenQ.n ?_ | with_reducible refine blockQ.n ?_)
    refine Safe.block ?_
    repeat (first | refine Safe.seq ?_ | refine Safe.skip ?_ | with_reducible refine thenQ.n ?_ | with_reducible refine blockQ.n ?_)
    refine Safe.region ?_
    refine okG h (fun hb69 h => ?_)
    refine SafeOps.quiet0 E_good rfl rfl rfl (v := V.spt 1 (rws (fun n => [V.int .i64 n]) a0_45) (Int.toNat v8_66) 0) (.idxSlM (f := (fun n => [V.int .i64 n])) rfl rfl rfl rfl rfl hb69) ?_
    refine SafeOps.quiet0 E_good rfl rfl rfl (v := V.int .i64 (gt a0_45 v8_66)) (.load rfl rfl (.sptM (f := (fun n => [V.int .i64 n])) hb69 rfl) rfl) ?_
    refine SafeOps.quiet0 E_good rfl rfl rfl (v := V.int .i64 (gt a0_45 v8_66)) (.fn rfl) ?_
    refine SafeOps.nil ?_
    repeat (first | refine Safe.seq ?_ | refine Safe.skip ?_ | with_reducible refine thenQ.n ?_ | with_reducible refine blockQ.n ?_)
    refine Safe.region ?_
    refine SafeOps.quiet0 E_good rfl rfl rfl (v := V.int .i64 (gt a0_45 v8_66)) (.fn rfl) ?_
    refine SafeOps.quiet0 E_good rfl rfl rfl (v := V.int .i64 0) (.fn rfl) ?_
    refine SafeOps.quiet0 E_good rfl rfl rfl (v := V.bool ((gt a0_45 v8_66) != 0)) (.fn rfl) ?_
    refine SafeOps.nil ?_
    repeat (first | refine Safe.seq ?_ | refine Safe.skip ?_ | with_reducible refine thenQ.n ?_ | with_reducible refine blockQ.n ?_)
    refine ifG h (fun hc70 h => ?_) (fun hc70 h => ?_)
    · skip
      refine Safe.condK rfl hc70 ?_
      repeat (first | refine Safe.seq ?_ | refine Safe.skip ?_ | with_reducible refine thenQ.n ?_ | with_reducible refine blockQ.n ?_)
      refine Safe.region ?_
      refine SafeOps.quiet0 E_good rfl rfl rfl (v := V.int .i64 (gt a0_45 v8_66)) (.fn rfl) ?_
      refine SafeOps.quiet0 E_good rfl rfl rfl (v := V.int .i64 (gt a0_45 v8_66)) (.fn rfl) ?_
      refine SafeOps.nil ?_
      repeat (first | refine Safe.seq ?_ | refine Safe.skip ?_ | with_reducible refine thenQ.n ?_ | with_reducible refine blockQ.n ?_)
      refine Safe.ret ?_
      repeat (first | with_reducible refine thenQ.r ?_ | with_reducible refine blockQ.r ?_)
      replace h := inr_out h hr67
      obtain rfl := Option.some.inj h
      exact retQ.gen (vs := [V.int .i64 (gt a0_45 v8_66)]) rfl (.tmp (v := V.int .i64 (gt a0_45 v8_66)) rfl .nil) (.free rfl) (by simp) (.inr rfl)
    · skip
      refine Safe.condN rfl hc70 ?_
      repeat (first | refine Safe.seq ?_ | refine Safe.skip ?_ | with_reducible refine thenQ.n ?_ | with_reducible refine blockQ.n ?_)
      refine Safe.region ?_
      refine SafeOps.quiet0 E_good rfl rfl rfl (v := V.int .i64 (IntKind.i64.wrap (v8_66 + 1))) (.fn rfl) ?_
      refine SafeOps.quiet0 E_good rfl rfl rfl (v := V.int .i64 (IntKind.i64.wrap (v8_66 + 1))) (.fn rfl) ?_
      refine SafeOps.nil ?_
      repeat (first | refine Safe.seq ?_ | refine Safe.skip ?_ | with_reducible refine thenQ.n ?_ | with_reducible refine blockQ.n ?_)
      exact ⟨_, next_out h, (.cov ⟨rfl, rfl, (upT_cons (.refl _) (upT_cons (.refl _) (upT_cons (.refl _) (upT_cons (.refl _) upT_nil)))), upOb_nil, upOut_nil, rfl⟩)⟩
  · skip
    refine Safe.condN rfl hc68 ?_
    repeat (first | refine Safe.seq ?_ | refine Safe.skip ?_ | with_reducible refine thenQ.n ?_ | with_reducible refine blockQ.n ?_)
    refine Safe.exit ?_
    repeat (first | with_reducible refine thenQ.e ?_ | with_reducible refine blockQ.x rfl ?_ | with_reducible refine blockQ.y rfl ?_)
    replace h := inr_out h hr67
    repeat (first | refine Safe.seq ?_ | refine Safe.skip ?_ | with_reducible refine thenQ.n ?_ | with_reducible refine blockQ.n ?_)
    refine Safe.region ?_
    refine SafeOps.quiet0 E_good rfl rfl rfl (v := V.int .i64 0) (.fn rfl) ?_
    refine SafeOps.quiet0 E_good rfl rfl rfl (v := V.int .i64 0) (.fn rfl) ?_
    refine SafeOps.nil ?_
    repeat (first | refine Safe.seq ?_ | refine Safe.skip ?_ | with_reducible refine thenQ.n ?_ | with_reducible refine blockQ.n ?_)
    refine Safe.ret ?_
    repeat (first | with_reducible refine thenQ.r ?_ | with_reducible refine blockQ.r ?_)
    obtain rfl := Option.some.inj h
    exact retQ.gen (vs := [V.int .i64 0]) rfl (.tmp (v := V.int .i64 0) rfl .nil) (.free rfl) (by simp) (.inr rfl)

noncomputable def go_heap_order (a0_28 : api_Timer) (a1_29 : api_Timer) : Option Int :=
  (go_cmp_Or_int [go_cmp_Compare_int64 a0_28.At a1_29.At, go_cmp_Compare_int64 a0_28.Id a1_29.Id]).bind fun x_73 =>
  some x_73

theorem go_heap_order_sc (a0_28 : api_Timer) (a1_29 : api_Timer) (r : Int) (h : go_heap_order a0_28 a1_29 = some r) : SC Try.prog gl 41 [V.agg [V.int .i64 a0_28.At, V.int .i64 a0_28.Id], V.agg [V.int .i64 a1_29.At, V.int .i64 a1_29.Id]] (V.int .i64 r) := by
  rw [go_heap_order] at h
  refine SC.of E_good Try.func41 rfl (fun _ _ => Try.call41 _ _) rfl ?_
  repeat (first | refine Safe.seq ?_ | refine Safe.skip ?_ | with_reducible refine thenQ.n ?_ | with_reducible refine blockQ.n ?_)
  refine Safe.region ?_
  refine SafeOps.quiet1 E_good rfl rfl rfl (.box rfl rfl) rfl ?_
  refine SafeOps.quiet1 E_good rfl rfl rfl (.box rfl rfl) rfl ?_
  refine SafeOps.quiet0 E_good rfl rfl rfl (v := V.int .i64 0) (.fn rfl) ?_
  refine SafeOps.nil ?_
  repeat (first | refine Safe.seq ?_ | refine Safe.skip ?_ | with_reducible refine thenQ.n ?_ | with_reducible refine blockQ.n ?_)
  refine Safe.regionD (n := 13) [] [] E_good mixed rfl ?_
  refine DAny.take (i := 0) rfl (by kernel_rfl) [] (by kernel_rfl) (by kernel_rfl) (by kernel_rfl) rfl rfl rfl (v := V.ptr [2] 0 0) (fun _ hz => (.fn rfl)) ?_
  refine DAny.take (i := 1) rfl (by kernel_rfl) [] (by kernel_rfl) (by kernel_rfl) (by kernel_rfl) rfl rfl rfl (v := V.int .i64 a0_28.At) (fun _ hz => (.load rfl rfl (.box (hz _ _ rfl rfl) rfl) rfl)) ?_
  refine DAny.take (i := 2) rfl (by kernel_rfl) [] (by kernel_rfl) (by kernel_rfl) (by kernel_rfl) rfl rfl rfl (v := V.ptr [3] 0 0) (fun _ hz => (.fn rfl)) ?_
  refine DAny.take (i := 3) rfl (by kernel_rfl) [] (by kernel_rfl) (by kernel_rfl) (by kernel_rfl) rfl rfl rfl (v := V.int .i64 a1_29.At) (fun _ hz => (.load rfl rfl (.box (hz _ _ rfl rfl) rfl) rfl)) ?_
  refine DAny.take (i := 4) rfl (by kernel_rfl) [] (by kernel_rfl) (by kernel_rfl) (by kernel_rfl) rfl rfl rfl (v := V.int .i64 (go_cmp_Compare_int64 a0_28.At a1_29.At)) (fun _ hz => (.callP rfl rfl (go_cmp_Compare_int64_sc a0_28.At a1_29.At _ rfl) rfl)) ?_
  refine DAny.take (i := 5) rfl (by kernel_rfl) [] (by kernel_rfl) (by kernel_rfl) (by kernel_rfl) rfl rfl rfl (v := V.ptr [2] 0 1) (fun _ hz => (.fn rfl)) ?_
  refine DAny.take (i := 6) rfl (by kernel_rfl) [] (by kernel_rfl) (by kernel_rfl) (by kernel_rfl) rfl rfl rfl (v := V.int .i64 a0_28.Id) (fun _ hz => (.load rfl rfl (.box (hz _ _ rfl rfl) rfl) rfl)) ?_
  refine DAny.take (i := 7) rfl (by kernel_rfl) [] (by kernel_rfl) (by kernel_rfl) (by kernel_rfl) rfl rfl rfl (v := V.ptr [3] 0 1) (fun _ hz => (.fn rfl)) ?_
  refine DAny.take (i := 8) rfl (by kernel_rfl) [] (by kernel_rfl) (by kernel_rfl) (by kernel_rfl) rfl rfl rfl (v := V.int .i64 a1_29.Id) (fun _ hz => (.load rfl rfl (.box (hz _ _ rfl rfl) rfl) rfl)) ?_
  refine DAny.take (i := 9) rfl (by kernel_rfl) [] (by kernel_rfl) (by kernel_rfl) (by kernel_rfl) rfl rfl rfl (v := V.int .i64 (go_cmp_Compare_int64 a0_28.Id a1_29.Id)) (fun _ hz => (.callP rfl rfl (go_cmp_Compare_int64_sc a0_28.Id a1_29.Id _ rfl) rfl)) ?_
  refine DAny.only (i := 10) rfl (by kernel_rfl) (.quiet rfl rfl rfl (.litM (f := (fun n => [V.int .i64 n])) (xs := [go_cmp_Compare_int64 a0_28.At a1_29.At, go_cmp_Compare_int64 a0_28.Id a1_29.Id]) rfl rfl (by decide) rfl rfl rfl rfl rfl) rfl ?_)
  refine bindG h ?_
  intro x_73 he74 h
  refine DAny.take (i := 11) rfl (by kernel_rfl) [] (by kernel_rfl) (by kernel_rfl) (by kernel_rfl) rfl rfl rfl (v := V.int .i64 x_73) (fun _ hz => (.callS rfl (.cons (.full (hz _ _ rfl rfl) rfl) .nil) (go_cmp_Or_int_sc [go_cmp_Compare_int64 a0_28.At a1_29.At, go_cmp_Compare_int64 a0_28.Id a1_29.Id] _ he74) (.plain rfl) rfl)) ?_
  refine DAny.take (i := 12) rfl (by kernel_rfl) [] (by kernel_rfl) (by kernel_rfl) (by kernel_rfl) rfl rfl rfl (v := V.int .i64 x_73) (fun _ hz => (.fn rfl)) ?_
  refine DAny.nil (by kernel_rfl) ?_
  repeat (first | refine Safe.seq ?_ | refine Safe.skip ?_ | with_reducible refine thenQ.n ?_ | with_reducible refine blockQ.n ?_)
  refine Safe.ret ?_
  repeat (first | with_reducible refine thenQ.r ?_ | with_reducible refine blockQ.r ?_)
  obtain rfl := Option.some.inj h
  exact retQ.gen (vs := [V.int .i64 x_73]) rfl (.tmp (v := V.int .i64 x_73) rfl .nil) (.free rfl) (by simp) (.inr rfl)

noncomputable def go_heap_Check_s1 (a0_7 : List api_Timer) : (Int × (List (Int × Bool))) → Option ((Int × (List (Int × Bool))) ⊕ (Int))
  | (v12_106, vm_107) =>
    if (decide (v12_106 < (a0_7.length : Int))) = true then
      if 0 ≤ v12_106 ∧ v12_106 < (a0_7.length : Int) then
        if (!(go_heap_may (gt a0_7 v12_106))) = true then
          inrO (
            some 1)
        else
          if ((mget vm_107 ((gt a0_7 v12_106).Id)).getD false) = true then
            inrO (
              some 1)
          else
            if (decide (v12_106 > 0)) = true then
              if 0 ≤ (IntKind.i64.wrap (Int.tdiv (IntKind.i64.wrap (v12_106 - 1)) 4)) ∧ (IntKind.i64.wrap (Int.tdiv (IntKind.i64.wrap (v12_106 - 1)) 4)) < (a0_7.length : Int) then
                (go_heap_order (gt a0_7 v12_106) (gt a0_7 (IntKind.i64.wrap (Int.tdiv (IntKind.i64.wrap (v12_106 - 1)) 4)))).bind fun x_115 =>
                if (decide (x_115 < 0)) = true then
                  inrO (
                    some 1)
                else
                  nextO (IntKind.i64.wrap (v12_106 + 1), mput vm_107 ((gt a0_7 v12_106).Id) true)
              else none
            else
              nextO (IntKind.i64.wrap (v12_106 + 1), mput vm_107 ((gt a0_7 v12_106).Id) true)
      else none
    else
      inrO (
        some 0)

noncomputable def go_heap_Check (a0_7 : List api_Timer) : Option Int :=
  if (decide ((a0_7.length : Int) > 256)) = true then
    some 1
  else
    whileO (go_heap_Check_s1 a0_7) (0, [])

theorem go_heap_Check_sc (a0_7 : List api_Timer) (r : Int) (h : go_heap_Check a0_7 = some r) : SC Try.prog gl 21 [V.sl 2 (rws api_Timer.cells a0_7)] (V.int .i64 r) := by
  rw [go_heap_Check] at h
  refine SC.of E_good Try.func21 rfl (fun _ _ => Try.call21 _ _) rfl ?_
  repeat (first | refine Safe.seq ?_ | refine Safe.skip ?_ | with_reducible refine thenQ.n ?_ | with_reducible refine blockQ.n ?_)
  refine Safe.region ?_
  refine SafeOps.quiet0 E_good rfl rfl rfl (v := V.int .i64 0) (.fn rfl) ?_
  refine SafeOps.nil ?_
  repeat (first | refine Safe.seq ?_ | refine Safe.skip ?_ | with_reducible refine thenQ.n ?_ | with_reducible refine blockQ.n ?_)
  refine Safe.region ?_
  refine SafeOps.quiet0 E_good rfl rfl rfl (v := V.sl 2 (rws api_Timer.cells a0_7)) (.fn rfl) ?_
  refine SafeOps.quiet0 E_good rfl rfl rfl (v := V.int .i64 (a0_7.length : Int)) (.fnE rfl lenE) ?_
  refine SafeOps.quiet0 E_good rfl rfl rfl (v := V.bool (decide ((a0_7.length : Int) > 256))) (.fn rfl) ?_
  refine SafeOps.nil ?_
  repeat (first | refine Safe.seq ?_ | refine Safe.skip ?_ | with_reducible refine thenQ.n ?_ | with_reducible refine blockQ.n ?_)
  refine ifG h (fun hc90 h => ?_) (fun hc90 h => ?_)
  · skip
    refine Safe.condK rfl hc90 ?_
    repeat (first | refine Safe.seq ?_ | refine Safe.skip ?_ | with_reducible refine thenQ.n ?_ | with_reducible refine blockQ.n ?_)
    refine Safe.region ?_
    refine SafeOps.quiet0 E_good rfl rfl rfl (v := V.int .i64 1) (.fn rfl) ?_
    refine SafeOps.nil ?_
    repeat (first | refine Safe.seq ?_ | refine Safe.skip ?_ | with_reducible refine thenQ.n ?_ | with_reducible refine blockQ.n ?_)
    refine Safe.ret ?_
    repeat (first | with_reducible refine thenQ.r ?_ | with_reducible refine blockQ.r ?_)
    obtain rfl := Option.some.inj h
    exact retQ.gen (vs := [V.int .i64 1]) rfl (.tmp (v := V.int .i64 1) rfl .nil) (.free rfl) (by simp) (.inr rfl)
  · skip
    refine Safe.condN rfl hc90 ?_
    repeat (first | refine Safe.seq ?_ | refine Safe.skip ?_ | with_reducible refine thenQ.n ?_ | with_reducible refine blockQ.n ?_)
    refine Safe.region ?_
    refine SafeOps.quiet1 E_good rfl rfl rfl (.mkMapM (fun n : Int => V.int .i64 n) (fun b : Bool => V.bool b)) rfl ?_
    refine SafeOps.quiet0 E_good rfl rfl rfl (v := V.mapr [9]) (.fn rfl) ?_
    refine SafeOps.nil ?_
    repeat (first | refine Safe.seq ?_ | refine Safe.skip ?_ | with_reducible refine thenQ.n ?_ | with_reducible refine blockQ.n ?_)
    refine Safe.region ?_
    refine SafeOps.quiet0 E_good rfl rfl rfl (v := V.sl 2 (rws api_Timer.cells a0_7)) (.fn rfl) ?_
    refine SafeOps.quiet0 E_good rfl rfl rfl (v := V.int .i64 (a0_7.length : Int)) (.fnE rfl lenE) ?_
    refine SafeOps.quiet0 E_good rfl rfl rfl (v := V.int .i64 0) (.fn rfl) ?_
    refine SafeOps.nil ?_
    repeat (first | refine Safe.seq ?_ | refine Safe.skip ?_ | with_reducible refine thenQ.n ?_ | with_reducible refine blockQ.n ?_)
    refine Safe.block ?_
    repeat (first | refine Safe.seq ?_ | refine Safe.skip ?_ | with_reducible refine thenQ.n ?_ | with_reducible refine blockQ.n ?_)
    refine Safe.loopW (fun ((v12_106, vm_107) : Int × (List (Int × Bool))) => ⟨Try.f21.ntmps, [(0, V.sl 2 (rws api_Timer.cells a0_7)), (3, V.mapr [9]), (10, V.sl 2 (rws api_Timer.cells a0_7)), (11, V.int .i64 (a0_7.length : Int)), (12, V.int .i64 v12_106)], [([9], Go.AM.Obj.map (mps (fun n : Int => V.int .i64 n) (fun b : Bool => V.bool b) vm_107))], [], []⟩) h (.cov ⟨rfl, rfl, (upT_cons (.refl _) (upT_cons (.refl _) (upT_cons (.refl _) (upT_cons (.refl _) (upT_cons (.refl _) upT_nil))))), (upOb_cons rfl (.refl _) upOb_nil), upOut_nil, rfl⟩) ?_
    rintro ⟨v12_106, vm_107⟩ ohr108 h hr108
    replace h : go_heap_Check_s1 a0_7 (v12_106, vm_107) = some ohr108 := h
    rw [go_heap_Check_s1] at h
    repeat (first | refine Safe.seq ?_ | refine Safe.skip ?_ | with_reducible refine thenQ.n ?_ | with_reducible refine blockQ.n ?_)
    refine Safe.region ?_
    refine SafeOps.quiet0 E_good rfl rfl rfl (v := V.bool (decide (v12_106 < (a0_7.length : Int)))) (.fn rfl) ?_
    refine SafeOps.nil ?_
    repeat (first | refine Safe.seq ?_ | refine Safe.skip ?_ | with_reducible refine thenQ.n ?_ | with_reducible refine blockQ.n ?_)
    refine ifG h (fun hc109 h => ?_) (fun hc109 h => ?_)
    · skip
      refine Safe.condK rfl hc109 ?_
      repeat (first | refine Safe.seq ?_ | refine Safe.skip ?_ | with_reducible refine thenQ.n ?_ | with_reducible refine blockQ.n ?_)
      refine Safe.block ?_
      repeat (first | refine Safe.seq ?_ | refine Safe.skip ?_ | with_reducible refine thenQ.n ?_ | with_reducible refine blockQ.n ?_)
      refine Safe.region ?_
      refine SafeOps.quiet0 E_good rfl rfl rfl (v := V.int .i64 v12_106) (.fn rfl) ?_
      refine okG h (fun hb110 h => ?_)
      refine SafeOps.quiet0 E_good rfl rfl rfl (v := V.spt 2 (rws api_Timer.cells a0_7) (Int.toNat v12_106) 0) (.idxSlM (f := api_Timer.cells) rfl rfl rfl rfl rfl hb110) ?_
      refine SafeOps.quiet0 E_good rfl rfl rfl (v := V.agg [V.int .i64 ((gt a0_7 v12_106).At), V.int .i64 ((gt a0_7 v12_106).Id)]) (.load rfl rfl (.sptM (f := api_Timer.cells) hb110 rfl) rfl) ?_
      refine SafeOps.quiet1 E_good rfl rfl rfl (.alloc rfl rfl) rfl ?_
      refine SafeOps.quiet0 E_good rfl rfl rfl (v := V.int .i64 v12_106) (.fn rfl) ?_
      refine SafeOps.store (z := Obj.box [V.int .i64 ((gt a0_7 v12_106).At), V.int .i64 ((gt a0_7 v12_106).Id)]) E_good rfl rfl rfl rfl rfl rfl rfl (.boxM (c := 2) rfl rfl (Nat.le_of_ble_eq_true rfl) rfl) ?_
      refine SafeOps.nil ?_
      repeat (first | refine Safe.seq ?_ | refine Safe.skip ?_ | with_reducible refine thenQ.n ?_ | with_reducible refine blockQ.n ?_)
      refine Safe.regionD (n := 24) [] [] E_good mixed rfl ?_
      refine DAny.take (i := 0) rfl (by kernel_rfl) [] (by kernel_rfl) (by kernel_rfl) (by kernel_rfl) rfl rfl rfl (v := V.agg [V.int .i64 ((gt a0_7 v12_106).At), V.int .i64 ((gt a0_7 v12_106).Id)]) (fun _ hz => (.load rfl rfl (.box (hz _ _ rfl rfl) rfl) rfl)) ?_
      refine DAny.take (i := 1) rfl (by kernel_rfl) [] (by kernel_rfl) (by kernel_rfl) (by kernel_rfl) rfl rfl rfl (v := V.bool (go_heap_may (gt a0_7 v12_106))) (fun _ hz => (.callP rfl rfl (go_heap_may_sc (gt a0_7 v12_106) _ rfl) rfl)) ?_
      refine DAny.take (i := 2) rfl (by kernel_rfl) [] (by kernel_rfl) (by kernel_rfl) (by kernel_rfl) rfl rfl rfl (v := V.bool (!(go_heap_may (gt a0_7 v12_106)))) (fun _ hz => (.fn rfl)) ?_
      refine DAny.take (i := 3) rfl (by kernel_rfl) [] (by kernel_rfl) (by kernel_rfl) (by kernel_rfl) rfl rfl rfl (v := V.bool (!(go_heap_may (gt a0_7 v12_106)))) (fun _ hz => (.fn rfl)) ?_
      refine ifG h (fun hc111 h => ?_) (fun hc111 h => ?_)
      · skip
        refine DAny.takeSkip (i := 4) rfl (by kernel_rfl) [] (by kernel_rfl) (by kernel_rfl) (by kernel_rfl) (congrArg (fun b => some (!b)) hc111) rfl rfl ?_
        refine DAny.takeSkip (i := 5) rfl (by kernel_rfl) [] (by kernel_rfl) (by kernel_rfl) (by kernel_rfl) (congrArg (fun b => some (!b)) hc111) rfl rfl ?_
        refine DAny.takeSkip (i := 6) rfl (by kernel_rfl) [] (by kernel_rfl) (by kernel_rfl) (by kernel_rfl) (congrArg (fun b => some (!b)) hc111) rfl rfl ?_
        refine DAny.takeSkip (i := 7) rfl (by kernel_rfl) [] (by kernel_rfl) (by kernel_rfl) (by kernel_rfl) (congrArg (fun b => some (!b)) hc111) rfl rfl ?_
        refine DAny.take (i := 8) rfl (by kernel_rfl) [] (by kernel_rfl) (by kernel_rfl) (by kernel_rfl) rfl rfl rfl (v := V.bool true) (fun _ hz => (.pickK rfl hc111 rfl)) ?_
        refine DAny.take (i := 9) rfl (by kernel_rfl) [] (by kernel_rfl) (by kernel_rfl) (by kernel_rfl) rfl rfl rfl (v := V.bool true) (fun _ hz => (.fn rfl)) ?_
        refine DAny.takeSkip (i := 10) rfl (by kernel_rfl) [] (by kernel_rfl) (by kernel_rfl) (by kernel_rfl) rfl rfl rfl ?_
        refine DAny.takeSkip (i := 11) rfl (by kernel_rfl) [] (by kernel_rfl) (by kernel_rfl) (by kernel_rfl) rfl rfl rfl ?_
        refine DAny.takeSkip (i := 12) rfl (by kernel_rfl) [] (by kernel_rfl) (by kernel_rfl) (by kernel_rfl) rfl rfl rfl ?_
        refine DAny.takeSkip (i := 13) rfl (by kernel_rfl) [] (by kernel_rfl) (by kernel_rfl) (by kernel_rfl) rfl rfl rfl ?_
        refine DAny.takeSkip (i := 14) rfl (by kernel_rfl) [] (by kernel_rfl) (by kernel_rfl) (by kernel_rfl) rfl rfl rfl ?_
        refine DAny.takeSkip (i := 15) rfl (by kernel_rfl) [] (by kernel_rfl) (by kernel_rfl) (by kernel_rfl) rfl rfl rfl ?_
        refine DAny.takeSkip (i := 16) rfl (by kernel_rfl) [] (by kernel_rfl) (by kernel_rfl) (by kernel_rfl) rfl rfl rfl ?_
        refine DAny.takeSkip (i := 17) rfl (by kernel_rfl) [] (by kernel_rfl) (by kernel_rfl) (by kernel_rfl) rfl rfl rfl ?_
        refine DAny.takeSkip (i := 18) rfl (by kernel_rfl) [] (by kernel_rfl) (by kernel_rfl) (by kernel_rfl) rfl rfl rfl ?_
        refine DAny.takeSkip (i := 19) rfl (by kernel_rfl) [] (by kernel_rfl) (by kernel_rfl) (by kernel_rfl) rfl rfl rfl ?_
        refine DAny.takeSkip (i := 20) rfl (by kernel_rfl) [] (by kernel_rfl) (by kernel_rfl) (by kernel_rfl) rfl rfl rfl ?_
        refine DAny.takeSkip (i := 21) rfl (by kernel_rfl) [] (by kernel_rfl) (by kernel_rfl) (by kernel_rfl) rfl rfl rfl ?_
        refine DAny.takeSkip (i := 22) rfl (by kernel_rfl) [] (by kernel_rfl) (by kernel_rfl) (by kernel_rfl) rfl rfl rfl ?_
        refine DAny.take (i := 23) rfl (by kernel_rfl) [] (by kernel_rfl) (by kernel_rfl) (by kernel_rfl) rfl rfl rfl (v := V.bool true) (fun _ hz => (.pickK rfl rfl rfl)) ?_
        refine DAny.nil (by kernel_rfl) ?_
        repeat (first | refine Safe.seq ?_ | refine Safe.skip ?_ | with_reducible refine thenQ.n ?_ | with_reducible refine blockQ.n ?_)
        refine Safe.condK rfl rfl ?_
        repeat (first | refine Safe.seq ?_ | refine Safe.skip ?_ | with_reducible refine thenQ.n ?_ | with_reducible refine blockQ.n ?_)
        refine Safe.region ?_
        refine SafeOps.quiet0 E_good rfl rfl rfl (v := V.int .i64 1) (.fn rfl) ?_
        refine SafeOps.nil ?_
        repeat (first | refine Safe.seq ?_ | refine Safe.skip ?_ | with_reducible refine thenQ.n ?_ | with_reducible refine blockQ.n ?_)
        refine Safe.ret ?_
        repeat (first | with_reducible refine thenQ.r ?_ | with_reducible refine blockQ.r ?_)
        replace h := inr_out h hr108
        obtain rfl := Option.some.inj h
        exact retQ.gen (vs := [V.int .i64 1]) rfl (.tmp (v := V.int .i64 1) rfl .nil) (.free rfl) (by simp) (.inr rfl)
      · skip
        refine DAny.take (i := 4) rfl (by kernel_rfl) [] (by kernel_rfl) (by kernel_rfl) (by kernel_rfl) (congrArg (fun b => some (!b)) hc111) rfl rfl (v := V.mapr [9]) (fun _ hz => (.fn rfl)) ?_
        refine DAny.take (i := 5) rfl (by kernel_rfl) [] (by kernel_rfl) (by kernel_rfl) (by kernel_rfl) (congrArg (fun b => some (!b)) hc111) rfl rfl (v := V.ptr [5] 0 1) (fun _ hz => (.fn rfl)) ?_
        refine DAny.take (i := 6) rfl (by kernel_rfl) [] (by kernel_rfl) (by kernel_rfl) (by kernel_rfl) (congrArg (fun b => some (!b)) hc111) rfl rfl (v := V.int .i64 ((gt a0_7 v12_106).Id)) (fun _ hz => (.load rfl rfl (.box (hz _ _ rfl rfl) rfl) rfl)) ?_
        refine DAny.take (i := 7) rfl (by kernel_rfl) [] (by kernel_rfl) (by kernel_rfl) (by kernel_rfl) (congrArg (fun b => some (!b)) hc111) rfl rfl (v := V.bool ((mget vm_107 ((gt a0_7 v12_106).Id)).getD false)) (fun _ hz => (.lookM (fv := (fun b : Bool => V.bool b)) (m := vm_107) (kk := (gt a0_7 v12_106).Id) (z0 := false) (keyI .i64) rfl rfl rfl rfl rfl rfl (hz _ _ rfl rfl) rfl rfl rfl)) ?_
        refine DAny.take (i := 8) rfl (by kernel_rfl) [] (by kernel_rfl) (by kernel_rfl) (by kernel_rfl) rfl rfl rfl (v := V.bool ((mget vm_107 ((gt a0_7 v12_106).Id)).getD false)) (fun _ hz => (.pickK rfl hc111 rfl)) ?_
        refine DAny.take (i := 9) rfl (by kernel_rfl) [] (by kernel_rfl) (by kernel_rfl) (by kernel_rfl) rfl rfl rfl (v := V.bool ((mget vm_107 ((gt a0_7 v12_106).Id)).getD false)) (fun _ hz => (.fn rfl)) ?_
        refine ifG h (fun hc112 h => ?_) (fun hc112 h => ?_)
        · skip
          refine DAny.takeSkip (i := 10) rfl (by kernel_rfl) [] (by kernel_rfl) (by kernel_rfl) (by kernel_rfl) (congrArg (fun b => some (!b)) hc112) rfl rfl ?_
          refine DAny.takeSkip (i := 11) rfl (by kernel_rfl) [] (by kernel_rfl) (by kernel_rfl) (by kernel_rfl) (congrArg (fun b => some (!b)) hc112) rfl rfl ?_
          refine DAny.takeSkip (i := 12) rfl (by kernel_rfl) [] (by kernel_rfl) (by kernel_rfl) (by kernel_rfl) (congrArg (fun b => some (!b)) hc112) rfl rfl ?_
          refine DAny.takeSkip (i := 13) rfl (by kernel_rfl) [] (by kernel_rfl) (by kernel_rfl) (by kernel_rfl) rfl rfl rfl ?_
          refine DAny.takeSkip (i := 14) rfl (by kernel_rfl) [] (by kernel_rfl) (by kernel_rfl) (by kernel_rfl) rfl rfl rfl ?_
          refine DAny.takeSkip (i := 15) rfl (by kernel_rfl) [] (by kernel_rfl) (by kernel_rfl) (by kernel_rfl) rfl rfl rfl ?_
          refine DAny.takeSkip (i := 16) rfl (by kernel_rfl) [] (by kernel_rfl) (by kernel_rfl) (by kernel_rfl) rfl rfl rfl ?_
          refine DAny.takeSkip (i := 17) rfl (by kernel_rfl) [] (by kernel_rfl) (by kernel_rfl) (by kernel_rfl) rfl rfl rfl ?_
          refine DAny.takeSkip (i := 18) rfl (by kernel_rfl) [] (by kernel_rfl) (by kernel_rfl) (by kernel_rfl) rfl rfl rfl ?_
          refine DAny.takeSkip (i := 19) rfl (by kernel_rfl) [] (by kernel_rfl) (by kernel_rfl) (by kernel_rfl) rfl rfl rfl ?_
          refine DAny.takeSkip (i := 20) rfl (by kernel_rfl) [] (by kernel_rfl) (by kernel_rfl) (by kernel_rfl) rfl rfl rfl ?_
          refine DAny.takeSkip (i := 21) rfl (by kernel_rfl) [] (by kernel_rfl) (by kernel_rfl) (by kernel_rfl) rfl rfl rfl ?_
          refine DAny.takeSkip (i := 22) rfl (by kernel_rfl) [] (by kernel_rfl) (by kernel_rfl) (by kernel_rfl) (congrArg (fun b => some (!b)) hc112) rfl rfl ?_
          refine DAny.take (i := 23) rfl (by kernel_rfl) [] (by kernel_rfl) (by kernel_rfl) (by kernel_rfl) rfl rfl rfl (v := V.bool true) (fun _ hz => (.pickK rfl hc112 rfl)) ?_
          refine DAny.nil (by kernel_rfl) ?_
          repeat (first | refine Safe.seq ?_ | refine Safe.skip ?_ | with_reducible refine thenQ.n ?_ | with_reducible refine blockQ.n ?_)
          refine Safe.condK rfl rfl ?_
          repeat (first | refine Safe.seq ?_ | refine Safe.skip ?_ | with_reducible refine thenQ.n ?_ | with_reducible refine blockQ.n ?_)
          refine Safe.region ?_
          refine SafeOps.quiet0 E_good rfl rfl rfl (v := V.int .i64 1) (.fn rfl) ?_
          refine SafeOps.nil ?_
          repeat (first | refine Safe.seq ?_ | refine Safe.skip ?_ | with_reducible refine thenQ.n ?_ | with_reducible refine blockQ.n ?_)
          refine Safe.ret ?_
          repeat (first | with_reducible refine thenQ.r ?_ | with_reducible refine blockQ.r ?_)
          replace h := inr_out h hr108
          obtain rfl := Option.some.inj h
          exact retQ.gen (vs := [V.int .i64 1]) rfl (.tmp (v := V.int .i64 1) rfl .nil) (.free rfl) (by simp) (.inr rfl)
        · skip
          refine DAny.take (i := 10) rfl (by kernel_rfl) [] (by kernel_rfl) (by kernel_rfl) (by kernel_rfl) (congrArg (fun b => some (!b)) hc112) rfl rfl (v := V.int .i64 v12_106) (fun _ hz => (.fn rfl)) ?_
          refine DAny.take (i := 11) rfl (by kernel_rfl) [] (by kernel_rfl) (by kernel_rfl) (by kernel_rfl) (congrArg (fun b => some (!b)) hc112) rfl rfl (v := V.bool (decide (v12_106 > 0))) (fun _ hz => (.fn rfl)) ?_
          refine DAny.take (i := 12) rfl (by kernel_rfl) [] (by kernel_rfl) (by kernel_rfl) (by kernel_rfl) (congrArg (fun b => some (!b)) hc112) rfl rfl (v := V.bool (decide (v12_106 > 0))) (fun _ hz => (.fn rfl)) ?_
          refine ifG h (fun hc113 h => ?_) (fun hc113 h => ?_)
          · skip
            refine DAny.take (i := 13) rfl (by kernel_rfl) [] (by kernel_rfl) (by kernel_rfl) (by kernel_rfl) (congrArg some hc113) rfl rfl (v := V.agg [V.int .i64 ((gt a0_7 v12_106).At), V.int .i64 ((gt a0_7 v12_106).Id)]) (fun _ hz => (.load rfl rfl (.box (hz _ _ rfl rfl) rfl) rfl)) ?_
            refine DAny.take (i := 14) rfl (by kernel_rfl) [] (by kernel_rfl) (by kernel_rfl) (by kernel_rfl) (congrArg some hc113) rfl rfl (v := V.sl 2 (rws api_Timer.cells a0_7)) (fun _ hz => (.fn rfl)) ?_
            refine DAny.take (i := 15) rfl (by kernel_rfl) [] (by kernel_rfl) (by kernel_rfl) (by kernel_rfl) (congrArg some hc113) rfl rfl (v := V.int .i64 v12_106) (fun _ hz => (.fn rfl)) ?_
            refine DAny.take (i := 16) rfl (by kernel_rfl) [] (by kernel_rfl) (by kernel_rfl) (by kernel_rfl) (congrArg some hc113) rfl rfl (v := V.int .i64 (IntKind.i64.wrap (v12_106 - 1))) (fun _ hz => (.fn rfl)) ?_
            refine DAny.take (i := 17) rfl (by kernel_rfl) [] (by kernel_rfl) (by kernel_rfl) (by kernel_rfl) (congrArg some hc113) rfl rfl (v := V.int .i64 (IntKind.i64.wrap (Int.tdiv (IntKind.i64.wrap (v12_106 - 1)) 4))) (fun _ hz => (.quoV rfl rfl (by decide))) ?_
            refine okG h (fun hb114 h => ?_)
            refine DAny.take (i := 18) rfl (by kernel_rfl) [] (by kernel_rfl) (by kernel_rfl) (by kernel_rfl) (congrArg some hc113) rfl rfl (v := V.spt 2 (rws api_Timer.cells a0_7) (Int.toNat (IntKind.i64.wrap (Int.tdiv (IntKind.i64.wrap (v12_106 - 1)) 4))) 0) (fun _ hz => (.idxSlM (f := api_Timer.cells) rfl rfl rfl rfl rfl hb114)) ?_
            refine DAny.take (i := 19) rfl (by kernel_rfl) [] (by kernel_rfl) (by kernel_rfl) (by kernel_rfl) (congrArg some hc113) rfl rfl (v := V.agg [V.int .i64 ((gt a0_7 (IntKind.i64.wrap (Int.tdiv (IntKind.i64.wrap (v12_106 - 1)) 4))).At), V.int .i64 ((gt a0_7 (IntKind.i64.wrap (Int.tdiv (IntKind.i64.wrap (v12_106 - 1)) 4))).Id)]) (fun _ hz => (.load rfl rfl (.sptM (f := api_Timer.cells) hb114 rfl) rfl)) ?_
            refine bindG h ?_
            intro x_115 he116 h
            refine DAny.take (i := 20) rfl (by kernel_rfl) [] (by kernel_rfl) (by kernel_rfl) (by kernel_rfl) (congrArg some hc113) rfl rfl (v := V.int .i64 x_115) (fun _ hz => (.callP rfl rfl (go_heap_order_sc (gt a0_7 v12_106) (gt a0_7 (IntKind.i64.wrap (Int.tdiv (IntKind.i64.wrap (v12_106 - 1)) 4))) _ he116) rfl)) ?_
            refine DAny.take (i := 21) rfl (by kernel_rfl) [] (by kernel_rfl) (by kernel_rfl) (by kernel_rfl) (congrArg some hc113) rfl rfl (v := V.bool (decide (x_115 < 0))) (fun _ hz => (.fn rfl)) ?_
            refine DAny.take (i := 22) rfl (by kernel_rfl) [] (by kernel_rfl) (by kernel_rfl) (by kernel_rfl) (congrArg (fun b => some (!b)) hc112) rfl rfl (v := V.bool (decide (x_115 < 0))) (fun _ hz => (.pickK rfl hc113 rfl)) ?_
            refine DAny.take (i := 23) rfl (by kernel_rfl) [] (by kernel_rfl) (by kernel_rfl) (by kernel_rfl) rfl rfl rfl (v := V.bool (decide (x_115 < 0))) (fun _ hz => (.pickK rfl hc112 rfl)) ?_
            refine DAny.nil (by kernel_rfl) ?_
            repeat (first | refine Safe.seq ?_ | refine Safe.skip ?_ | with_reducible refine thenQ.n ?_ | with_reducible refine blockQ.n ?_)
            refine ifG h (fun hc117 h => ?_) (fun hc117 h => ?_)
            · skip
              refine Safe.condK rfl hc117 ?_
              repeat (first | refine Safe.seq ?_ | refine Safe.skip ?_ | with_reducible refine thenQ.n ?_ | with_reducible refine blockQ.n ?_)
              refine Safe.region ?_
              refine SafeOps.quiet0 E_good rfl rfl rfl (v := V.int .i64 1) (.fn rfl) ?_
              refine SafeOps.nil ?_
              repeat (first | refine Safe.seq ?_ | refine Safe.skip ?_ | with_reducible refine thenQ.n ?_ | with_reducible refine blockQ.n ?_)
              refine Safe.ret ?_
              repeat (first | with_reducible refine thenQ.r ?_ | with_reducible refine blockQ.r ?_)
              replace h := inr_out h hr108
              obtain rfl := Option.some.inj h
              exact retQ.gen (vs := [V.int .i64 1]) rfl (.tmp (v := V.int .i64 1) rfl .nil) (.free rfl) (by simp) (.inr rfl)
            · skip
              refine Safe.condN rfl hc117 ?_
              repeat (first | refine Safe.seq ?_ | refine Safe.skip ?_ | with_reducible refine thenQ.n ?_ | with_reducible refine blockQ.n ?_)
              refine Safe.region ?_
              refine SafeOps.quiet0 E_good rfl rfl rfl (v := V.mapr [9]) (.fn rfl) ?_
              refine SafeOps.quiet0 E_good rfl rfl rfl (v := V.ptr [5] 0 1) (.fn rfl) ?_
              refine SafeOps.quiet0 E_good rfl rfl rfl (v := V.int .i64 ((gt a0_7 v12_106).Id)) (.load rfl rfl (.box rfl rfl) rfl) ?_
              refine SafeOps.mputM (fun n : Int => V.int .i64 n) (fun b : Bool => V.bool b) vm_107 ((gt a0_7 v12_106).Id) true E_good (keyI .i64) rfl (.inl rfl) rfl rfl rfl rfl rfl rfl rfl rfl rfl ?_
              refine SafeOps.nil ?_
              repeat (first | refine Safe.seq ?_ | refine Safe.skip ?_ | with_reducible refine thenQ.n ?_ | with_reducible refine blockQ.n ?_)
              refine Safe.region ?_
              refine SafeOps.quiet0 E_good rfl rfl rfl (v := V.int .i64 (IntKind.i64.wrap (v12_106 + 1))) (.fn rfl) ?_
              refine SafeOps.quiet0 E_good rfl rfl rfl (v := V.int .i64 (IntKind.i64.wrap (v12_106 + 1))) (.fn rfl) ?_
              refine SafeOps.nil ?_
              repeat (first | refine Safe.seq ?_ | refine Safe.skip ?_ | with_reducible refine thenQ.n ?_ | with_reducible refine blockQ.n ?_)
              exact ⟨_, next_out h, (.cov ⟨rfl, rfl, (upT_cons (.refl _) (upT_cons (.refl _) (upT_cons (.refl _) (upT_cons (.refl _) (upT_cons (.refl _) upT_nil))))), (upOb_cons rfl (.refl _) upOb_nil), upOut_nil, rfl⟩)⟩
          · skip
            refine DAny.takeSkip (i := 13) rfl (by kernel_rfl) [] (by kernel_rfl) (by kernel_rfl) (by kernel_rfl) (congrArg some hc113) rfl rfl ?_
            refine DAny.takeSkip (i := 14) rfl (by kernel_rfl) [] (by kernel_rfl) (by kernel_rfl) (by kernel_rfl) (congrArg some hc113) rfl rfl ?_
            refine DAny.takeSkip (i := 15) rfl (by kernel_rfl) [] (by kernel_rfl) (by kernel_rfl) (by kernel_rfl) (congrArg some hc113) rfl rfl ?_
            refine DAny.takeSkip (i := 16) rfl (by kernel_rfl) [] (by kernel_rfl) (by kernel_rfl) (by kernel_rfl) (congrArg some hc113) rfl rfl ?_
            refine DAny.takeSkip (i := 17) rfl (by kernel_rfl) [] (by kernel_rfl) (by kernel_rfl) (by kernel_rfl) (congrArg some hc113) rfl rfl ?_
            refine DAny.takeSkip (i := 18) rfl (by kernel_rfl) [] (by kernel_rfl) (by kernel_rfl) (by kernel_rfl) (congrArg some hc113) rfl rfl ?_
            refine DAny.takeSkip (i := 19) rfl (by kernel_rfl) [] (by kernel_rfl) (by kernel_rfl) (by kernel_rfl) (congrArg some hc113) rfl rfl ?_
            refine DAny.takeSkip (i := 20) rfl (by kernel_rfl) [] (by kernel_rfl) (by kernel_rfl) (by kernel_rfl) (congrArg some hc113) rfl rfl ?_
            refine DAny.takeSkip (i := 21) rfl (by kernel_rfl) [] (by kernel_rfl) (by kernel_rfl) (by kernel_rfl) (congrArg some hc113) rfl rfl ?_
            refine DAny.take (i := 22) rfl (by kernel_rfl) [] (by kernel_rfl) (by kernel_rfl) (by kernel_rfl) (congrArg (fun b => some (!b)) hc112) rfl rfl (v := V.bool false) (fun _ hz => (.pickK rfl hc113 rfl)) ?_
            refine DAny.take (i := 23) rfl (by kernel_rfl) [] (by kernel_rfl) (by kernel_rfl) (by kernel_rfl) rfl rfl rfl (v := V.bool false) (fun _ hz => (.pickK rfl hc112 rfl)) ?_
            refine DAny.nil (by kernel_rfl) ?_
            repeat (first | refine Safe.seq ?_ | refine Safe.skip ?_ | with_reducible refine thenQ.n ?_ | with_reducible refine blockQ.n ?_)
            refine Safe.condN rfl rfl ?_
            repeat (first | refine Safe.seq ?_ | refine Safe.skip ?_ | with_reducible refine thenQ.n ?_ | with_reducible refine blockQ.n ?_)
            refine Safe.region ?_
            refine SafeOps.quiet0 E_good rfl rfl rfl (v := V.mapr [9]) (.fn rfl) ?_
            refine SafeOps.quiet0 E_good rfl rfl rfl (v := V.ptr [5] 0 1) (.fn rfl) ?_
            refine SafeOps.quiet0 E_good rfl rfl rfl (v := V.int .i64 ((gt a0_7 v12_106).Id)) (.load rfl rfl (.box rfl rfl) rfl) ?_
            refine SafeOps.mputM (fun n : Int => V.int .i64 n) (fun b : Bool => V.bool b) vm_107 ((gt a0_7 v12_106).Id) true E_good (keyI .i64) rfl (.inl rfl) rfl rfl rfl rfl rfl rfl rfl rfl rfl ?_
            refine SafeOps.nil ?_
            repeat (first | refine Safe.seq ?_ | refine Safe.skip ?_ | with_reducible refine thenQ.n ?_ | with_reducible refine blockQ.n ?_)
            refine Safe.region ?_
            refine SafeOps.quiet0 E_good rfl rfl rfl (v := V.int .i64 (IntKind.i64.wrap (v12_106 + 1))) (.fn rfl) ?_
            refine SafeOps.quiet0 E_good rfl rfl rfl (v := V.int .i64 (IntKind.i64.wrap (v12_106 + 1))) (.fn rfl) ?_
            refine SafeOps.nil ?_
            repeat (first | refine Safe.seq ?_ | refine Safe.skip ?_ | with_reducible refine thenQ.n ?_ | with_reducible refine blockQ.n ?_)
            exact ⟨_, next_out h, (.cov ⟨rfl, rfl, (upT_cons (.refl _) (upT_cons (.refl _) (upT_cons (.refl _) (upT_cons (.refl _) (upT_cons (.refl _) upT_nil))))), (upOb_cons rfl (.refl _) upOb_nil), upOut_nil, rfl⟩)⟩
    · skip
      refine Safe.condN rfl hc109 ?_
      repeat (first | refine Safe.seq ?_ | refine Safe.skip ?_ | with_reducible refine thenQ.n ?_ | with_reducible refine blockQ.n ?_)
      refine Safe.exit ?_
      repeat (first | with_reducible refine thenQ.e ?_ | with_reducible refine blockQ.x rfl ?_ | with_reducible refine blockQ.y rfl ?_)
      replace h := inr_out h hr108
      repeat (first | refine Safe.seq ?_ | refine Safe.skip ?_ | with_reducible refine thenQ.n ?_ | with_reducible refine blockQ.n ?_)
      refine Safe.region ?_
      refine SafeOps.quiet0 E_good rfl rfl rfl (v := V.int .i64 0) (.fn rfl) ?_
      refine SafeOps.nil ?_
      repeat (first | refine Safe.seq ?_ | refine Safe.skip ?_ | with_reducible refine thenQ.n ?_ | with_reducible refine blockQ.n ?_)
      refine Safe.ret ?_
      repeat (first | with_reducible refine thenQ.r ?_ | with_reducible refine blockQ.r ?_)
      obtain rfl := Option.some.inj h
      exact retQ.gen (vs := [V.int .i64 0]) rfl (.tmp (v := V.int .i64 0) rfl .nil) (.free rfl) (by simp) (.inr rfl)

def go_slices_Clone_api_Timer_api_Timer (xs : List api_Timer) : Option (List api_Timer) := if few xs.length then some xs else none
theorem go_slices_Clone_api_Timer_api_Timer_sc (xs : List api_Timer) (r : List api_Timer) (h : go_slices_Clone_api_Timer_api_Timer xs = some r) : SC Try.prog gl 33 [V.sl 2 (rws api_Timer.cells xs)] (V.own 2 (rws api_Timer.cells r)) := by
  rw [go_slices_Clone_api_Timer_api_Timer] at h
  refine okG h (fun hf h => ?_)
  obtain rfl := Option.some.inj h
  refine SC.of E_good Try.func33 rfl (fun _ _ => Try.call33 _ _) rfl ?_
  repeat (first | refine Safe.seq ?_ | refine Safe.skip ?_ | with_reducible refine thenQ.n ?_ | with_reducible refine blockQ.n ?_)
  refine Safe.region ?_
  refine SafeOps.quiet0 E_good rfl rfl rfl (v := V.nils) (.fn rfl) ?_
  refine SafeOps.nil ?_
  repeat (first | refine Safe.seq ?_ | refine Safe.skip ?_ | with_reducible refine thenQ.n ?_ | with_reducible refine blockQ.n ?_)
  refine Safe.region ?_
  refine SafeOps.quiet0 E_good rfl rfl rfl (v := V.sl 2 (rws api_Timer.cells xs)) (.fn rfl) ?_
  refine SafeOps.nilcmp E_good rfl rfl rfl rfl rfl rfl rfl (fun b hb => ?_)
  refine SafeOps.nil ?_
  repeat (first | refine Safe.seq ?_ | refine Safe.skip ?_ | with_reducible refine thenQ.n ?_ | with_reducible refine blockQ.n ?_)
  cases b with
  | true =>
    have hx : xs = [] := List.map_eq_nil_iff.1 (hb rfl)
    subst hx
    refine Safe.condK rfl rfl ?_
    repeat (first | refine Safe.seq ?_ | refine Safe.skip ?_ | with_reducible refine thenQ.n ?_ | with_reducible refine blockQ.n ?_)
    refine Safe.region ?_
    refine SafeOps.quiet0 E_good rfl rfl rfl (v := V.nils) (.fn rfl) ?_
    refine SafeOps.nil ?_
    repeat (first | refine Safe.seq ?_ | refine Safe.skip ?_ | with_reducible refine thenQ.n ?_ | with_reducible refine blockQ.n ?_)
    refine Safe.ret ?_
    repeat (first | with_reducible refine thenQ.r ?_ | with_reducible refine blockQ.r ?_)
    exact retQ.gen (vs := [V.nils]) rfl (.tmp rfl .nil) (.nils _) (by simp) (.inr rfl)
  | false =>
    refine Safe.condN rfl rfl ?_
    repeat (first | refine Safe.seq ?_ | refine Safe.skip ?_ | with_reducible refine thenQ.n ?_ | with_reducible refine blockQ.n ?_)
    refine Safe.region ?_
    refine SafeOps.quiet1 E_good rfl rfl rfl (.litM (f := api_Timer.cells) (xs := []) rfl rfl (by decide) rfl rfl rfl rfl rfl) rfl ?_
    refine SafeOps.quiet0 E_good rfl rfl rfl (v := V.sl 2 (rws api_Timer.cells xs)) (.fn rfl) ?_
    refine SafeOps.appendM api_Timer.cells (xs := []) (ys := xs) E_good rfl rfl rfl rfl rfl rfl rfl rfl rfl (.own rfl) (.sl _) (fun _ => rfl) hf ?_
    refine SafeOps.quiet0 E_good rfl rfl rfl (v := V.ref [7] 0 (rws api_Timer.cells ([] ++ xs)).length) (.fn rfl) ?_
    refine SafeOps.nil ?_
    repeat (first | refine Safe.seq ?_ | refine Safe.skip ?_ | with_reducible refine thenQ.n ?_ | with_reducible refine blockQ.n ?_)
    refine Safe.ret ?_
    repeat (first | with_reducible refine thenQ.r ?_ | with_reducible refine blockQ.r ?_)
    exact retQ.gen (vs := [V.ref [7] 0 (rws api_Timer.cells ([] ++ xs)).length]) rfl (.tmp rfl .nil) (by exact .own rfl rfl) (by simp) (.inr rfl)

noncomputable def go_heap_find_s1 (a0_122 : List api_Timer) (a1_123 : Int) : (Int) → Option ((Int) ⊕ ((List api_Timer) × Int × Int))
  | v8_152 =>
    if (decide (v8_152 < (a0_122.length : Int))) = true then
      if 0 ≤ v8_152 ∧ v8_152 < (a0_122.length : Int) then
        if (((gt a0_122 v8_152).Id) == a1_123) = true then
          inrO (
            if (decide (v8_152 < 0)) = true then
              some ([], 0, 5)
            else
              (go_slices_Clone_api_Timer_api_Timer a0_122).bind fun x_158 =>
              some (x_158, v8_152, 0))
        else
          nextO (IntKind.i64.wrap (v8_152 + 1))
      else none
    else
      inrO (
        some ([], 0, 5))

noncomputable def go_heap_find (a0_122 : List api_Timer) (a1_123 : Int) : Option ((List api_Timer) × Int × Int) :=
  (go_heap_Check a0_122).bind fun x_142 =>
  if (x_142 != 0) = true then
    some ([], 0, x_142)
  else
    whileO (go_heap_find_s1 a0_122 a1_123) 0

theorem go_heap_find_sc (a0_122 : List api_Timer) (a1_123 : Int) (r : (List api_Timer) × Int × Int) (h : go_heap_find a0_122 a1_123 = some r) : SC Try.prog gl 32 [V.sl 2 (rws api_Timer.cells a0_122), V.int .i64 a1_123] (V.tup [V.own 2 (rws api_Timer.cells r.1), V.int .i64 r.2.1, V.int .i64 r.2.2]) := by
  rw [go_heap_find] at h
  refine SC.of E_good Try.func32 rfl (fun _ _ => Try.call32 _ _) rfl ?_
  repeat (first | refine Safe.seq ?_ | refine Safe.skip ?_ | with_reducible refine thenQ.n ?_ | with_reducible refine blockQ.n ?_)
  refine Safe.region ?_
  refine SafeOps.quiet1 E_good rfl rfl rfl (.box rfl rfl) rfl ?_
  refine SafeOps.quiet0 E_good rfl rfl rfl (v := V.nils) (.fn rfl) ?_
  refine SafeOps.quiet0 E_good rfl rfl rfl (v := V.int .i64 0) (.fn rfl) ?_
  refine SafeOps.quiet0 E_good rfl rfl rfl (v := V.int .i64 0) (.fn rfl) ?_
  refine SafeOps.nil ?_
  repeat (first | refine Safe.seq ?_ | refine Safe.skip ?_ | with_reducible refine thenQ.n ?_ | with_reducible refine blockQ.n ?_)
  refine Safe.region ?_
  refine SafeOps.quiet0 E_good rfl rfl rfl (v := V.sl 2 (rws api_Timer.cells a0_122)) (.fn rfl) ?_
  refine bindG h ?_
  intro x_142 he143 h
  refine SafeOps.quiet0 E_good rfl rfl rfl (v := V.int .i64 x_142) (.callP rfl rfl (go_heap_Check_sc a0_122 _ he143) rfl) ?_
  refine SafeOps.quiet0 E_good rfl rfl rfl (v := V.int .i64 x_142) (.fn rfl) ?_
  refine SafeOps.nil ?_
  repeat (first | refine Safe.seq ?_ | refine Safe.skip ?_ | with_reducible refine thenQ.n ?_ | with_reducible refine blockQ.n ?_)
  refine Safe.region ?_
  refine SafeOps.quiet0 E_good rfl rfl rfl (v := V.int .i64 x_142) (.fn rfl) ?_
  refine SafeOps.quiet0 E_good rfl rfl rfl (v := V.bool (x_142 != 0)) (.fn rfl) ?_
  refine SafeOps.nil ?_
  repeat (first | refine Safe.seq ?_ | refine Safe.skip ?_ | with_reducible refine thenQ.n ?_ | with_reducible refine blockQ.n ?_)
  refine ifG h (fun hc144 h => ?_) (fun hc144 h => ?_)
  · skip
    refine Safe.condK rfl hc144 ?_
    repeat (first | refine Safe.seq ?_ | refine Safe.skip ?_ | with_reducible refine thenQ.n ?_ | with_reducible refine blockQ.n ?_)
    refine Safe.region ?_
    refine SafeOps.quiet0 E_good rfl rfl rfl (v := V.int .i64 x_142) (.fn rfl) ?_
    refine SafeOps.quiet0 E_good rfl rfl rfl (v := V.nils) (.fn rfl) ?_
    refine SafeOps.quiet0 E_good rfl rfl rfl (v := V.int .i64 0) (.fn rfl) ?_
    refine SafeOps.quiet0 E_good rfl rfl rfl (v := V.int .i64 x_142) (.fn rfl) ?_
    refine SafeOps.nil ?_
    repeat (first | refine Safe.seq ?_ | refine Safe.skip ?_ | with_reducible refine thenQ.n ?_ | with_reducible refine blockQ.n ?_)
    refine Safe.ret ?_
    repeat (first | with_reducible refine thenQ.r ?_ | with_reducible refine blockQ.r ?_)
    obtain rfl := Option.some.inj h
    exact retQ.gen (vs := [V.nils, V.int .i64 0, V.int .i64 x_142]) rfl (.tmp (v := V.nils) rfl (.tmp (v := V.int .i64 0) rfl (.tmp (v := V.int .i64 x_142) rfl .nil))) (by exact (.tup (.cons (.nils _) (.cons (.free rfl) (.cons (.free rfl) .nil))))) (by simp) (.inr rfl)
  · skip
    refine Safe.condN rfl hc144 ?_
    repeat (first | refine Safe.seq ?_ | refine Safe.skip ?_ | with_reducible refine thenQ.n ?_ | with_reducible refine blockQ.n ?_)
    refine Safe.region ?_
    refine SafeOps.quiet0 E_good rfl rfl rfl (v := V.sl 2 (rws api_Timer.cells a0_122)) (.fn rfl) ?_
    refine SafeOps.quiet0 E_good rfl rfl rfl (v := V.fn 46 [V.ptr [3] 0 0]) (.fn rfl) ?_
    refine SafeOps.inline E_good rfl rfl rfl rfl rfl Try.func45 rfl (fun _ _ => Try.call45 _ _) rfl ?_
    repeat (first | refine Safe.seq ?_ | refine Safe.skip ?_ | with_reducible refine thenQ.n ?_ | with_reducible refine blockQ.n ?_)
    refine Safe.region ?_
    refine SafeOps.quiet0 E_good rfl rfl rfl (v := V.int .i64 0) (.fn rfl) ?_
    refine SafeOps.nil ?_
    repeat (first | refine Safe.seq ?_ | refine Safe.skip ?_ | with_reducible refine thenQ.n ?_ | with_reducible refine blockQ.n ?_)
    refine Safe.region ?_
    refine SafeOps.quiet0 E_good rfl rfl rfl (v := V.sl 2 (rws api_Timer.cells a0_122)) (.fn rfl) ?_
    refine SafeOps.quiet0 E_good rfl rfl rfl (v := V.int .i64 (a0_122.length : Int)) (.fnE rfl lenE) ?_
    refine SafeOps.quiet0 E_good rfl rfl rfl (v := V.int .i64 0) (.fn rfl) ?_
    refine SafeOps.nil ?_
    repeat (first | refine Safe.seq ?_ | refine Safe.skip ?_ | with_reducible refine thenQ.n ?_ | with_reducible refine blockQ.n ?_)
    refine Safe.block ?_
    repeat (first | refine Safe.seq ?_ | refine Safe.skip ?_ | with_reducible refine thenQ.n ?_ | with_reducible refine blockQ.n ?_)
    refine Safe.loopW (fun (v8_152 : Int) => ⟨Try.f45.ntmps, [(0, V.sl 2 (rws api_Timer.cells a0_122)), (1, V.fn 46 [V.ptr [3] 0 0]), (7, V.int .i64 (a0_122.length : Int)), (8, V.int .i64 v8_152)], [([3], Obj.box [V.int .i64 a1_123])], [(Try.f32.ntmps, [(0, V.sl 2 (rws api_Timer.cells a0_122))])], [16]⟩) h (.cov ⟨rfl, rfl, (upT_cons (.refl _) (upT_cons (.refl _) (upT_cons (.refl _) (upT_cons (.refl _) upT_nil)))), (upOb_cons rfl (.refl _) upOb_nil), (upOut_cons rfl (upT_cons (.refl _) upT_nil) upOut_nil), rfl⟩) ?_
    intro v8_152 ohr153 h hr153
    replace h : go_heap_find_s1 a0_122 a1_123 v8_152 = some ohr153 := h
    rw [go_heap_find_s1] at h
    repeat (first | refine Safe.seq ?_ | refine Safe.skip ?_ | with_reducible refine thenQ.n ?_ | with_reducible refine blockQ.n ?_)
    refine Safe.region ?_
    refine SafeOps.quiet0 E_good rfl rfl rfl (v := V.bool (decide (v8_152 < (a0_122.length : Int)))) (.fn rfl) ?_
    refine SafeOps.nil ?_
    repeat (first | refine Safe.seq ?_ | refine Safe.skip ?_ | with_reducible refine thenQ.n ?_ | with_reducible refine blockQ.n ?_)
    refine ifG h (fun hc154 h => ?_) (fun hc154 h => ?_)
    · skip
      refine Safe.condK rfl hc154 ?_
      repeat (first | refine Safe.seq ?_ | refine Safe.skip ?_ | with_reducible refine thenQ.n ?_ | with_reducible refine blockQ.n ?_)
      refine Safe.block ?_
      repeat (first | refine Safe.seq ?_ | refine Safe.skip ?_ | with_reducible refine thenQ.n ?_ | with_reducible refine blockQ.n ?_)
      refine Safe.region ?_
      refine SafeOps.quiet0 E_good rfl rfl rfl (v := V.int .i64 v8_152) (.fn rfl) ?_
      refine SafeOps.quiet0 E_good rfl rfl rfl (v := V.int .i64 v8_152) (.fn rfl) ?_
      refine SafeOps.nil ?_
      repeat (first | refine Safe.seq ?_ | refine Safe.skip ?_ | with_reducible refine thenQ.n ?_ | with_reducible refine blockQ.n ?_)
      refine Safe.region ?_
      refine SafeOps.quiet0 E_good rfl rfl rfl (v := V.fn 46 [V.ptr [3] 0 0]) (.fn rfl) ?_
      refine SafeOps.quiet0 E_good rfl rfl rfl (v := V.sl 2 (rws api_Timer.cells a0_122)) (.fn rfl) ?_
      refine SafeOps.quiet0 E_good rfl rfl rfl (v := V.int .i64 v8_152) (.fn rfl) ?_
      refine okG h (fun hb155 h => ?_)
      refine SafeOps.quiet0 E_good rfl rfl rfl (v := V.spt 2 (rws api_Timer.cells a0_122) (Int.toNat v8_152) 0) (.idxSlM (f := api_Timer.cells) rfl rfl rfl rfl rfl hb155) ?_
      refine SafeOps.quiet0 E_good rfl rfl rfl (v := V.agg [V.int .i64 ((gt a0_122 v8_152).At), V.int .i64 ((gt a0_122 v8_152).Id)]) (.load rfl rfl (.sptM (f := api_Timer.cells) hb155 rfl) rfl) ?_
      refine SafeOps.inline E_good rfl rfl rfl rfl rfl Try.func46 rfl (fun _ _ => Try.call46 _ _) rfl ?_
      repeat (first | refine Safe.seq ?_ | refine Safe.skip ?_ | with_reducible refine thenQ.n ?_ | with_reducible refine blockQ.n ?_)
      refine Safe.region ?_
      refine SafeOps.quiet1 E_good rfl rfl rfl (.box rfl rfl) rfl ?_
      refine SafeOps.quiet0 E_good rfl rfl rfl (v := V.bool false) (.fn rfl) ?_
      refine SafeOps.nil ?_
      repeat (first | refine Safe.seq ?_ | refine Safe.skip ?_ | with_reducible refine thenQ.n ?_ | with_reducible refine blockQ.n ?_)
      refine Safe.region ?_
      refine SafeOps.quiet0 E_good rfl rfl rfl (v := V.ptr [16, 16, 2] 0 1) (.fn rfl) ?_
      refine SafeOps.quiet0 E_good rfl rfl rfl (v := V.int .i64 ((gt a0_122 v8_152).Id)) (.load rfl rfl (.box rfl rfl) rfl) ?_
      refine SafeOps.quiet0 E_good rfl rfl rfl (v := V.int .i64 a1_123) (.load rfl rfl (.box rfl rfl) rfl) ?_
      refine SafeOps.quiet0 E_good rfl rfl rfl (v := V.bool (((gt a0_122 v8_152).Id) == a1_123)) (.fn rfl) ?_
      refine SafeOps.quiet0 E_good rfl rfl rfl (v := V.bool (((gt a0_122 v8_152).Id) == a1_123)) (.fn rfl) ?_
      refine SafeOps.nil ?_
      repeat (first | refine Safe.seq ?_ | refine Safe.skip ?_ | with_reducible refine thenQ.n ?_ | with_reducible refine blockQ.n ?_)
      refine Safe.ret ?_
      repeat (first | with_reducible refine thenQ.r ?_ | with_reducible refine blockQ.r ?_)
      refine inQ.gen (vs := [V.bool (((gt a0_122 v8_152).Id) == a1_123)]) (v := V.bool (((gt a0_122 v8_152).Id) == a1_123)) (.inr rfl) rfl (.tmp (v := V.bool (((gt a0_122 v8_152).Id) == a1_123)) rfl .nil) rfl ?_
      refine SafeOps.nil ?_
      repeat (first | refine Safe.seq ?_ | refine Safe.skip ?_ | with_reducible refine thenQ.n ?_ | with_reducible refine blockQ.n ?_)
      refine ifG h (fun hc156 h => ?_) (fun hc156 h => ?_)
      · skip
        refine Safe.condK rfl hc156 ?_
        repeat (first | refine Safe.seq ?_ | refine Safe.skip ?_ | with_reducible refine thenQ.n ?_ | with_reducible refine blockQ.n ?_)
        refine Safe.region ?_
        refine SafeOps.quiet0 E_good rfl rfl rfl (v := V.int .i64 v8_152) (.fn rfl) ?_
        refine SafeOps.quiet0 E_good rfl rfl rfl (v := V.int .i64 v8_152) (.fn rfl) ?_
        refine SafeOps.nil ?_
        repeat (first | refine Safe.seq ?_ | refine Safe.skip ?_ | with_reducible refine thenQ.n ?_ | with_reducible refine blockQ.n ?_)
        refine Safe.ret ?_
        repeat (first | with_reducible refine thenQ.r ?_ | with_reducible refine blockQ.r ?_)
        refine inQ.gen (vs := [V.int .i64 v8_152]) (v := V.int .i64 v8_152) (.inr rfl) rfl (.tmp (v := V.int .i64 v8_152) rfl .nil) rfl ?_
        replace h := inr_out h hr153
        refine SafeOps.quiet0 E_good rfl rfl rfl (v := V.int .i64 v8_152) (.fn rfl) ?_
        refine SafeOps.nil ?_
        repeat (first | refine Safe.seq ?_ | refine Safe.skip ?_ | with_reducible refine thenQ.n ?_ | with_reducible refine blockQ.n ?_)
        refine Safe.region ?_
        refine SafeOps.quiet0 E_good rfl rfl rfl (v := V.int .i64 v8_152) (.fn rfl) ?_
        refine SafeOps.quiet0 E_good rfl rfl rfl (v := V.bool (decide (v8_152 < 0))) (.fn rfl) ?_
        refine SafeOps.nil ?_
        repeat (first | refine Safe.seq ?_ | refine Safe.skip ?_ | with_reducible refine thenQ.n ?_ | with_reducible refine blockQ.n ?_)
        refine ifG h (fun hc157 h => ?_) (fun hc157 h => ?_)
        · skip
          refine Safe.condK rfl hc157 ?_
          repeat (first | refine Safe.seq ?_ | refine Safe.skip ?_ | with_reducible refine thenQ.n ?_ | with_reducible refine blockQ.n ?_)
          refine Safe.region ?_
          refine SafeOps.quiet0 E_good rfl rfl rfl (v := V.nils) (.fn rfl) ?_
          refine SafeOps.quiet0 E_good rfl rfl rfl (v := V.int .i64 0) (.fn rfl) ?_
          refine SafeOps.quiet0 E_good rfl rfl rfl (v := V.int .i64 5) (.fn rfl) ?_
          refine SafeOps.nil ?_
          repeat (first | refine Safe.seq ?_ | refine Safe.skip ?_ | with_reducible refine thenQ.n ?_ | with_reducible refine blockQ.n ?_)
          refine Safe.ret ?_
          repeat (first | with_reducible refine thenQ.r ?_ | with_reducible refine blockQ.r ?_)
          obtain rfl := Option.some.inj h
          exact retQ.gen (vs := [V.nils, V.int .i64 0, V.int .i64 5]) rfl (.tmp (v := V.nils) rfl (.tmp (v := V.int .i64 0) rfl (.tmp (v := V.int .i64 5) rfl .nil))) (by exact (.tup (.cons (.nils _) (.cons (.free rfl) (.cons (.free rfl) .nil))))) (by simp) (.inr rfl)
        · skip
          refine Safe.condN rfl hc157 ?_
          repeat (first | refine Safe.seq ?_ | refine Safe.skip ?_ | with_reducible refine thenQ.n ?_ | with_reducible refine blockQ.n ?_)
          refine Safe.region ?_
          refine SafeOps.quiet0 E_good rfl rfl rfl (v := V.sl 2 (rws api_Timer.cells a0_122)) (.fn rfl) ?_
          refine bindG h ?_
          intro x_158 he159 h
          refine SafeOps.quiet E_good rfl rfl rfl (v := V.ref [20, 0] 0 (rws api_Timer.cells x_158).length) (.callP rfl rfl (go_slices_Clone_api_Timer_api_Timer_sc a0_122 _ he159) rfl) rfl ?_
          refine SafeOps.quiet0 E_good rfl rfl rfl (v := V.int .i64 v8_152) (.fn rfl) ?_
          refine SafeOps.quiet0 E_good rfl rfl rfl (v := V.ref [20, 0] 0 (rws api_Timer.cells x_158).length) (.fn rfl) ?_
          refine SafeOps.quiet0 E_good rfl rfl rfl (v := V.int .i64 v8_152) (.fn rfl) ?_
          refine SafeOps.quiet0 E_good rfl rfl rfl (v := V.int .i64 0) (.fn rfl) ?_
          refine SafeOps.nil ?_
          repeat (first | refine Safe.seq ?_ | refine Safe.skip ?_ | with_reducible refine thenQ.n ?_ | with_reducible refine blockQ.n ?_)
          refine Safe.ret ?_
          repeat (first | with_reducible refine thenQ.r ?_ | with_reducible refine blockQ.r ?_)
          obtain rfl := Option.some.inj h
          exact retQ.gen (vs := [V.ref [20, 0] 0 (rws api_Timer.cells x_158).length, V.int .i64 v8_152, V.int .i64 0]) rfl (.tmp (v := V.ref [20, 0] 0 (rws api_Timer.cells x_158).length) rfl (.tmp (v := V.int .i64 v8_152) rfl (.tmp (v := V.int .i64 0) rfl .nil))) (by exact (.tup (.cons (.own rfl rfl) (.cons (.free rfl) (.cons (.free rfl) .nil))))) (by simp) (.inr rfl)
      · skip
        refine Safe.condN rfl hc156 ?_
        repeat (first | refine Safe.seq ?_ | refine Safe.skip ?_ | with_reducible refine thenQ.n ?_ | with_reducible refine blockQ.n ?_)
        refine Safe.region ?_
        refine SafeOps.quiet0 E_good rfl rfl rfl (v := V.int .i64 (IntKind.i64.wrap (v8_152 + 1))) (.fn rfl) ?_
        refine SafeOps.quiet0 E_good rfl rfl rfl (v := V.int .i64 (IntKind.i64.wrap (v8_152 + 1))) (.fn rfl) ?_
        refine SafeOps.nil ?_
        repeat (first | refine Safe.seq ?_ | refine Safe.skip ?_ | with_reducible refine thenQ.n ?_ | with_reducible refine blockQ.n ?_)
        exact ⟨_, next_out h, (.cov ⟨rfl, rfl, (upT_cons (.refl _) (upT_cons (.refl _) (upT_cons (.refl _) (upT_cons (.refl _) upT_nil)))), (upOb_cons rfl (.refl _) upOb_nil), (upOut_cons rfl (upT_cons (.refl _) upT_nil) upOut_nil), rfl⟩)⟩
    · skip
      refine Safe.condN rfl hc154 ?_
      repeat (first | refine Safe.seq ?_ | refine Safe.skip ?_ | with_reducible refine thenQ.n ?_ | with_reducible refine blockQ.n ?_)
      refine Safe.exit ?_
      repeat (first | with_reducible refine thenQ.e ?_ | with_reducible refine blockQ.x rfl ?_ | with_reducible refine blockQ.y rfl ?_)
      replace h := inr_out h hr153
      repeat (first | refine Safe.seq ?_ | refine Safe.skip ?_ | with_reducible refine thenQ.n ?_ | with_reducible refine blockQ.n ?_)
      refine Safe.region ?_
      refine SafeOps.quiet0 E_good rfl rfl rfl (v := V.int .i64 (-1)) (.fn rfl) ?_
      refine SafeOps.nil ?_
      repeat (first | refine Safe.seq ?_ | refine Safe.skip ?_ | with_reducible refine thenQ.n ?_ | with_reducible refine blockQ.n ?_)
      refine Safe.ret ?_
      repeat (first | with_reducible refine thenQ.r ?_ | with_reducible refine blockQ.r ?_)
      refine inQ.gen (vs := [V.int .i64 (-1)]) (v := V.int .i64 (-1)) (.inr rfl) rfl (.tmp (v := V.int .i64 (-1)) rfl .nil) rfl ?_
      refine SafeOps.quiet0 E_good rfl rfl rfl (v := V.int .i64 (-1)) (.fn rfl) ?_
      refine SafeOps.nil ?_
      repeat (first | refine Safe.seq ?_ | refine Safe.skip ?_ | with_reducible refine thenQ.n ?_ | with_reducible refine blockQ.n ?_)
      refine Safe.region ?_
      refine SafeOps.quiet0 E_good rfl rfl rfl (v := V.int .i64 (-1)) (.fn rfl) ?_
      refine SafeOps.quiet0 E_good rfl rfl rfl (v := V.bool true) (.fn rfl) ?_
      refine SafeOps.nil ?_
      repeat (first | refine Safe.seq ?_ | refine Safe.skip ?_ | with_reducible refine thenQ.n ?_ | with_reducible refine blockQ.n ?_)
      refine Safe.condK rfl rfl ?_
      repeat (first | refine Safe.seq ?_ | refine Safe.skip ?_ | with_reducible refine thenQ.n ?_ | with_reducible refine blockQ.n ?_)
      refine Safe.region ?_
      refine SafeOps.quiet0 E_good rfl rfl rfl (v := V.nils) (.fn rfl) ?_
      refine SafeOps.quiet0 E_good rfl rfl rfl (v := V.int .i64 0) (.fn rfl) ?_
      refine SafeOps.quiet0 E_good rfl rfl rfl (v := V.int .i64 5) (.fn rfl) ?_
      refine SafeOps.nil ?_
      repeat (first | refine Safe.seq ?_ | refine Safe.skip ?_ | with_reducible refine thenQ.n ?_ | with_reducible refine blockQ.n ?_)
      refine Safe.ret ?_
      repeat (first | with_reducible refine thenQ.r ?_ | with_reducible refine blockQ.r ?_)
      obtain rfl := Option.some.inj h
      exact retQ.gen (vs := [V.nils, V.int .i64 0, V.int .i64 5]) rfl (.tmp (v := V.nils) rfl (.tmp (v := V.int .i64 0) rfl (.tmp (v := V.int .i64 5) rfl .nil))) (by exact (.tup (.cons (.nils _) (.cons (.free rfl) (.cons (.free rfl) .nil))))) (by simp) (.inr rfl)

noncomputable def go_heap_Add_s1  : ((List api_Timer) × Int) → Option (((List api_Timer) × Int) ⊕ ((List api_Timer) × Int))
  | (v9_248, v1_249) =>
    if (decide (v1_249 > 0)) = true then
      if 0 ≤ (IntKind.i64.wrap (Int.tdiv (IntKind.i64.wrap (v1_249 - 1)) 4)) ∧ (IntKind.i64.wrap (Int.tdiv (IntKind.i64.wrap (v1_249 - 1)) 4)) < (v9_248.length : Int) then
        if 0 ≤ v1_249 ∧ v1_249 < (v9_248.length : Int) then
          (go_heap_order (gt v9_248 (IntKind.i64.wrap (Int.tdiv (IntKind.i64.wrap (v1_249 - 1)) 4))) (gt v9_248 v1_249)).bind fun x_254 =>
          if (decide (x_254 ≤ 0)) = true then
            inrO (
              some (v9_248, 0))
          else
            if 0 ≤ v1_249 ∧ v1_249 < (v9_248.length : Int) then
              if 0 ≤ (IntKind.i64.wrap (Int.tdiv (IntKind.i64.wrap (v1_249 - 1)) 4)) ∧ (IntKind.i64.wrap (Int.tdiv (IntKind.i64.wrap (v1_249 - 1)) 4)) < (v9_248.length : Int) then
                if 0 ≤ (IntKind.i64.wrap (Int.tdiv (IntKind.i64.wrap (v1_249 - 1)) 4)) ∧ (IntKind.i64.wrap (Int.tdiv (IntKind.i64.wrap (v1_249 - 1)) 4)) < (v9_248.length : Int) then
                  if 0 ≤ v1_249 ∧ v1_249 < ((st v9_248 (IntKind.i64.wrap (Int.tdiv (IntKind.i64.wrap (v1_249 - 1)) 4)) (gt v9_248 v1_249)).length : Int) then
                    nextO (st (st v9_248 (IntKind.i64.wrap (Int.tdiv (IntKind.i64.wrap (v1_249 - 1)) 4)) (gt v9_248 v1_249)) v1_249 (gt v9_248 (IntKind.i64.wrap (Int.tdiv (IntKind.i64.wrap (v1_249 - 1)) 4))), IntKind.i64.wrap (Int.tdiv (IntKind.i64.wrap (v1_249 - 1)) 4))
                  else none
                else none
              else none
            else none
        else none
      else none
    else
      inrO (
        some (v9_248, 0))

noncomputable def go_heap_Add (a0_5 : List api_Timer) (a1_6 : api_Timer) : Option ((List api_Timer) × Int) :=
  (go_heap_Check a0_5).bind fun x_213 =>
  if ((x_213 != 0) || (!(go_heap_may a1_6))) = true then
    some ([], 1)
  else
    (go_heap_find a0_5 a1_6.Id).bind fun (x_217, x_218, x_219) =>
    if (x_219 == 0) = true then
      some ([], 6)
    else
      if ((a0_5.length : Int) == 256) = true then
        some ([], 7)
      else
        (go_slices_Clone_api_Timer_api_Timer a0_5).bind fun x_223 =>
        if few (x_223 ++ [a1_6]).length then
          whileO go_heap_Add_s1 (x_223 ++ [a1_6], IntKind.i64.wrap (((x_223 ++ [a1_6]).length : Int) - 1))
        else none

theorem go_heap_Add_sc (a0_5 : List api_Timer) (a1_6 : api_Timer) (r : (List api_Timer) × Int) (h : go_heap_Add a0_5 a1_6 = some r) : SC Try.prog gl 11 [V.sl 2 (rws api_Timer.cells a0_5), V.agg [V.int .i64 a1_6.At, V.int .i64 a1_6.Id]] (V.tup [V.own 2 (rws api_Timer.cells r.1), V.int .i64 r.2]) := by
  rw [go_heap_Add] at h
  refine SC.of E_good Try.func11 rfl (fun _ _ => Try.call11 _ _) rfl ?_
  repeat (first | refine Safe.seq ?_ | refine Safe.skip ?_ | with_reducible refine thenQ.n ?_ | with_reducible refine blockQ.n ?_)
  refine Safe.region ?_
  refine SafeOps.quiet1 E_good rfl rfl rfl (.box rfl rfl) rfl ?_
  refine SafeOps.quiet0 E_good rfl rfl rfl (v := V.nils) (.fn rfl) ?_
  refine SafeOps.quiet0 E_good rfl rfl rfl (v := V.int .i64 0) (.fn rfl) ?_
  refine SafeOps.nil ?_
  repeat (first | refine Safe.seq ?_ | refine Safe.skip ?_ | with_reducible refine thenQ.n ?_ | with_reducible refine blockQ.n ?_)
  refine Safe.region ?_
  refine SafeOps.quiet0 E_good rfl rfl rfl (v := V.sl 2 (rws api_Timer.cells a0_5)) (.fn rfl) ?_
  refine bindG h ?_
  intro x_213 he214 h
  refine SafeOps.quiet0 E_good rfl rfl rfl (v := V.int .i64 x_213) (.callP rfl rfl (go_heap_Check_sc a0_5 _ he214) rfl) ?_
  refine SafeOps.quiet0 E_good rfl rfl rfl (v := V.bool (x_213 != 0)) (.fn rfl) ?_
  refine SafeOps.quiet0 E_good rfl rfl rfl (v := V.bool (x_213 != 0)) (.fn rfl) ?_
  refine SafeOps.bjoin 4 17 (b := ((x_213 != 0) || (!(go_heap_may a1_6)))) (b1 := true) (b0 := (!(go_heap_may a1_6))) (fun hc215 K => ?_) (fun hc215 K => ?_) bj_or ?_
  · skip
    refine SafeOps.skip (congrArg (fun b => some (!b)) hc215) rfl rfl ?_
    refine SafeOps.skip (congrArg (fun b => some (!b)) hc215) rfl rfl ?_
    refine SafeOps.skip (congrArg (fun b => some (!b)) hc215) rfl rfl ?_
    refine SafeOps.quiet0 E_good rfl rfl rfl (v := V.bool true) (.pickK rfl hc215 rfl) ?_
    exact SafeOps.drop' 4 rfl rfl rfl K
  · skip
    refine SafeOps.quiet0 E_good (congrArg (fun b => some (!b)) hc215) rfl rfl (v := V.agg [V.int .i64 a1_6.At, V.int .i64 a1_6.Id]) (.load rfl rfl (.box rfl rfl) rfl) ?_
    refine SafeOps.quiet0 E_good (congrArg (fun b => some (!b)) hc215) rfl rfl (v := V.bool (go_heap_may a1_6)) (.callP rfl rfl (go_heap_may_sc a1_6 _ rfl) rfl) ?_
    refine SafeOps.quiet0 E_good (congrArg (fun b => some (!b)) hc215) rfl rfl (v := V.bool (!(go_heap_may a1_6))) (.fn rfl) ?_
    refine SafeOps.quiet0 E_good rfl rfl rfl (v := V.bool (!(go_heap_may a1_6))) (.pickK rfl hc215 rfl) ?_
    exact SafeOps.drop' 4 rfl rfl rfl K
  refine SafeOps.nil ?_
  repeat (first | refine Safe.seq ?_ | refine Safe.skip ?_ | with_reducible refine thenQ.n ?_ | with_reducible refine blockQ.n ?_)
  refine ifG h (fun hc216 h => ?_) (fun hc216 h => ?_)
  · skip
    refine Safe.condK rfl hc216 ?_
    repeat (first | refine Safe.seq ?_ | refine Safe.skip ?_ | with_reducible refine thenQ.n ?_ | with_reducible refine blockQ.n ?_)
    refine Safe.region ?_
    refine SafeOps.quiet0 E_good rfl rfl rfl (v := V.nils) (.fn rfl) ?_
    refine SafeOps.quiet0 E_good rfl rfl rfl (v := V.int .i64 1) (.fn rfl) ?_
    refine SafeOps.nil ?_
    repeat (first | refine Safe.seq ?_ | refine Safe.skip ?_ | with_reducible refine thenQ.n ?_ | with_reducible refine blockQ.n ?_)
    refine Safe.ret ?_
    repeat (first | with_reducible refine thenQ.r ?_ | with_reducible refine blockQ.r ?_)
    obtain rfl := Option.some.inj h
    exact retQ.gen (vs := [V.nils, V.int .i64 1]) rfl (.tmp (v := V.nils) rfl (.tmp (v := V.int .i64 1) rfl .nil)) (by exact (.tup (.cons (.nils _) (.cons (.free rfl) .nil)))) (by simp) (.inr rfl)
  · skip
    refine Safe.condN rfl hc216 ?_
    repeat (first | refine Safe.seq ?_ | refine Safe.skip ?_ | with_reducible refine thenQ.n ?_ | with_reducible refine blockQ.n ?_)
    refine Safe.region ?_
    refine SafeOps.quiet0 E_good rfl rfl rfl (v := V.sl 2 (rws api_Timer.cells a0_5)) (.fn rfl) ?_
    refine SafeOps.quiet0 E_good rfl rfl rfl (v := V.ptr [3] 0 1) (.fn rfl) ?_
    refine SafeOps.quiet0 E_good rfl rfl rfl (v := V.int .i64 a1_6.Id) (.load rfl rfl (.box rfl rfl) rfl) ?_
    refine bindG h ?_
    rintro ⟨x_217, x_218, x_219⟩ he220 h
    refine SafeOps.quiet E_good rfl rfl rfl (v := V.tup [V.ref [22, 0] 0 (rws api_Timer.cells x_217).length, V.int .i64 x_218, V.int .i64 x_219]) (.callP rfl rfl (go_heap_find_sc a0_5 a1_6.Id _ he220) rfl) rfl ?_
    refine SafeOps.quiet0 E_good rfl rfl rfl (v := V.tup [V.ref [22, 0] 0 (rws api_Timer.cells x_217).length, V.int .i64 x_218, V.int .i64 x_219]) (.fn rfl) ?_
    refine SafeOps.quiet0 E_good rfl rfl rfl (v := V.ref [22, 0] 0 (rws api_Timer.cells x_217).length) (.fn rfl) ?_
    refine SafeOps.quiet0 E_good rfl rfl rfl (v := V.int .i64 x_218) (.fn rfl) ?_
    refine SafeOps.quiet0 E_good rfl rfl rfl (v := V.int .i64 x_219) (.fn rfl) ?_
    refine SafeOps.quiet0 E_good rfl rfl rfl (v := V.ref [22, 0] 0 (rws api_Timer.cells x_217).length) (.fn rfl) ?_
    refine SafeOps.quiet0 E_good rfl rfl rfl (v := V.int .i64 x_218) (.fn rfl) ?_
    refine SafeOps.quiet0 E_good rfl rfl rfl (v := V.int .i64 x_219) (.fn rfl) ?_
    refine SafeOps.nil ?_
    repeat (first | refine Safe.seq ?_ | refine Safe.skip ?_ | with_reducible refine thenQ.n ?_ | with_reducible refine blockQ.n ?_)
    refine Safe.region ?_
    refine SafeOps.quiet0 E_good rfl rfl rfl (v := V.int .i64 x_219) (.fn rfl) ?_
    refine SafeOps.quiet0 E_good rfl rfl rfl (v := V.bool (x_219 == 0)) (.fn rfl) ?_
    refine SafeOps.nil ?_
    repeat (first | refine Safe.seq ?_ | refine Safe.skip ?_ | with_reducible refine thenQ.n ?_ | with_reducible refine blockQ.n ?_)
    refine ifG h (fun hc221 h => ?_) (fun hc221 h => ?_)
    · skip
      refine Safe.condK rfl hc221 ?_
      repeat (first | refine Safe.seq ?_ | refine Safe.skip ?_ | with_reducible refine thenQ.n ?_ | with_reducible refine blockQ.n ?_)
      refine Safe.region ?_
      refine SafeOps.quiet0 E_good rfl rfl rfl (v := V.nils) (.fn rfl) ?_
      refine SafeOps.quiet0 E_good rfl rfl rfl (v := V.int .i64 6) (.fn rfl) ?_
      refine SafeOps.nil ?_
      repeat (first | refine Safe.seq ?_ | refine Safe.skip ?_ | with_reducible refine thenQ.n ?_ | with_reducible refine blockQ.n ?_)
      refine Safe.ret ?_
      repeat (first | with_reducible refine thenQ.r ?_ | with_reducible refine blockQ.r ?_)
      obtain rfl := Option.some.inj h
      exact retQ.gen (vs := [V.nils, V.int .i64 6]) rfl (.tmp (v := V.nils) rfl (.tmp (v := V.int .i64 6) rfl .nil)) (by exact (.tup (.cons (.nils _) (.cons (.free rfl) .nil)))) (by simp) (.inr rfl)
    · skip
      refine Safe.condN rfl hc221 ?_
      repeat (first | refine Safe.seq ?_ | refine Safe.skip ?_ | with_reducible refine thenQ.n ?_ | with_reducible refine blockQ.n ?_)
      refine Safe.region ?_
      refine SafeOps.quiet0 E_good rfl rfl rfl (v := V.sl 2 (rws api_Timer.cells a0_5)) (.fn rfl) ?_
      refine SafeOps.quiet0 E_good rfl rfl rfl (v := V.int .i64 (a0_5.length : Int)) (.fnE rfl lenE) ?_
      refine SafeOps.quiet0 E_good rfl rfl rfl (v := V.bool ((a0_5.length : Int) == 256)) (.fn rfl) ?_
      refine SafeOps.nil ?_
      repeat (first | refine Safe.seq ?_ | refine Safe.skip ?_ | with_reducible refine thenQ.n ?_ | with_reducible refine blockQ.n ?_)
      refine ifG h (fun hc222 h => ?_) (fun hc222 h => ?_)
      · skip
        refine Safe.condK rfl hc222 ?_
        repeat (first | refine Safe.seq ?_ | refine Safe.skip ?_ | with_reducible refine thenQ.n ?_ | with_reducible refine blockQ.n ?_)
        refine Safe.region ?_
        refine SafeOps.quiet0 E_good rfl rfl rfl (v := V.nils) (.fn rfl) ?_
        refine SafeOps.quiet0 E_good rfl rfl rfl (v := V.int .i64 7) (.fn rfl) ?_
        refine SafeOps.nil ?_
        repeat (first | refine Safe.seq ?_ | refine Safe.skip ?_ | with_reducible refine thenQ.n ?_ | with_reducible refine blockQ.n ?_)
        refine Safe.ret ?_
        repeat (first | with_reducible refine thenQ.r ?_ | with_reducible refine blockQ.r ?_)
        obtain rfl := Option.some.inj h
        exact retQ.gen (vs := [V.nils, V.int .i64 7]) rfl (.tmp (v := V.nils) rfl (.tmp (v := V.int .i64 7) rfl .nil)) (by exact (.tup (.cons (.nils _) (.cons (.free rfl) .nil)))) (by simp) (.inr rfl)
      · skip
        refine Safe.condN rfl hc222 ?_
        repeat (first | refine Safe.seq ?_ | refine Safe.skip ?_ | with_reducible refine thenQ.n ?_ | with_reducible refine blockQ.n ?_)
        refine Safe.regionD (n := 6) [] [4] E_good mixed rfl ?_
        refine DAny.take (i := 0) rfl (by kernel_rfl) [] (by kernel_rfl) (by kernel_rfl) (by kernel_rfl) rfl rfl rfl (v := V.sl 2 (rws api_Timer.cells a0_5)) (fun _ hz => (.fn rfl)) ?_
        refine DAny.take (i := 2) rfl (by kernel_rfl) [] (by kernel_rfl) (by kernel_rfl) (by kernel_rfl) rfl rfl rfl (v := V.agg [V.int .i64 a1_6.At, V.int .i64 a1_6.Id]) (fun _ hz => (.load rfl rfl (.box (hz _ _ rfl rfl) rfl) rfl)) ?_
        refine bindG h ?_
        intro x_223 he224 h
        skip
        refine DAny.pair (i := 1) (j := 3) rfl rfl (by kernel_rfl) (by kernel_rfl) (by kernel_rfl) (by decide) rfl rfl rfl rfl rfl rfl (.callP rfl rfl (go_slices_Clone_api_Timer_api_Timer_sc a0_5 _ he224) rfl) (.litM (f := api_Timer.cells) (xs := [a1_6]) rfl rfl (by decide) rfl rfl rfl rfl rfl) rfl rfl rfl rfl (by kernel_rfl) (by kernel_rfl) (by decide) ?_
        refine DAny.onlyS (i := 4) rfl (by kernel_rfl) rfl ?_
        refine okG h (fun hb225 h => ?_)
        refine SafeOps.appendM api_Timer.cells (xs := x_223) (ys := [a1_6]) E_good rfl rfl rfl rfl rfl rfl rfl rfl rfl (.own rfl) (.own rfl) (fun _ => rfl) hb225 ?_
        refine SafeOps.nil ⟨rfl, ?_⟩
        refine DAny.take (i := 5) rfl (by kernel_rfl) [] (by kernel_rfl) (by kernel_rfl) (by kernel_rfl) rfl rfl rfl (v := V.ref [35] 0 (rws api_Timer.cells (x_223 ++ [a1_6])).length) (fun _ hz => (.fn rfl)) ?_
        refine DAny.nil (by kernel_rfl) ?_
        repeat (first | refine Safe.seq ?_ | refine Safe.skip ?_ | with_reducible refine thenQ.n ?_ | with_reducible refine blockQ.n ?_)
        refine Safe.region ?_
        refine SafeOps.quiet0 E_good rfl rfl rfl (v := V.ref [35] 0 (rws api_Timer.cells (x_223 ++ [a1_6])).length) (.fn rfl) ?_
        refine SafeOps.quiet0 E_good rfl rfl rfl (v := V.ref [35] 0 (rws api_Timer.cells (x_223 ++ [a1_6])).length) (.fn rfl) ?_
        refine SafeOps.quiet0 E_good rfl rfl rfl (v := V.int .i64 ((x_223 ++ [a1_6]).length : Int)) (.fnE rfl lenE) ?_
        refine SafeOps.quiet0 E_good rfl rfl rfl (v := V.int .i64 (IntKind.i64.wrap (((x_223 ++ [a1_6]).length : Int) - 1))) (.fn rfl) ?_
        refine SafeOps.inline E_good rfl rfl rfl rfl rfl Try.func34 rfl (fun _ _ => Try.call34 _ _) rfl ?_
        repeat (first | refine Safe.seq ?_ | refine Safe.skip ?_ | with_reducible refine thenQ.n ?_ | with_reducible refine blockQ.n ?_)
        refine Safe.block ?_
        repeat (first | refine Safe.seq ?_ | refine Safe.skip ?_ | with_reducible refine thenQ.n ?_ | with_reducible refine blockQ.n ?_)
        refine Safe.loopW (fun ((v9_248, v1_249) : (List api_Timer) × Int) => ⟨Try.f34.ntmps, [(0, V.ref [35] 0 (rws api_Timer.cells v9_248).length), (1, V.int .i64 v1_249)], [([35], Obj.rows 2 (rws api_Timer.cells v9_248) false)], [(Try.f11.ntmps, [(9, V.ref [35] 0 (rws api_Timer.cells v9_248).length)])], [40]⟩) h (.cov ⟨rfl, rfl, (upT_cons (.refl _) (upT_cons (.refl _) upT_nil)), (upOb_cons rfl (.refl _) upOb_nil), (upOut_cons rfl (upT_cons (.refl _) upT_nil) upOut_nil), rfl⟩) ?_
        rintro ⟨v9_248, v1_249⟩ ohr250 h hr250
        replace h : go_heap_Add_s1 (v9_248, v1_249) = some ohr250 := h
        rw [go_heap_Add_s1] at h
        repeat (first | refine Safe.seq ?_ | refine Safe.skip ?_ | with_reducible refine thenQ.n ?_ | with_reducible refine blockQ.n ?_)
        refine Safe.region ?_
        refine SafeOps.quiet0 E_good rfl rfl rfl (v := V.int .i64 v1_249) (.fn rfl) ?_
        refine SafeOps.quiet0 E_good rfl rfl rfl (v := V.bool (decide (v1_249 > 0))) (.fn rfl) ?_
        refine SafeOps.nil ?_
        repeat (first | refine Safe.seq ?_ | refine Safe.skip ?_ | with_reducible refine thenQ.n ?_ | with_reducible refine blockQ.n ?_)
        refine ifG h (fun hc251 h => ?_) (fun hc251 h => ?_)
        · skip
          refine Safe.condK rfl hc251 ?_
          repeat (first | refine Safe.seq ?_ | refine Safe.skip ?_ | with_reducible refine thenQ.n ?_ | with_reducible refine blockQ.n ?_)
          refine Safe.block ?_
          repeat (first | refine Safe.seq ?_ | refine Safe.skip ?_ | with_reducible refine thenQ.n ?_ | with_reducible refine blockQ.n ?_)
          refine Safe.region ?_
          refine SafeOps.quiet0 E_good rfl rfl rfl (v := V.int .i64 v1_249) (.fn rfl) ?_
          refine SafeOps.quiet0 E_good rfl rfl rfl (v := V.int .i64 (IntKind.i64.wrap (v1_249 - 1))) (.fn rfl) ?_
          refine SafeOps.quiet0 E_good rfl rfl rfl (v := V.int .i64 (IntKind.i64.wrap (Int.tdiv (IntKind.i64.wrap (v1_249 - 1)) 4))) (.quoV rfl rfl (by decide)) ?_
          refine SafeOps.quiet0 E_good rfl rfl rfl (v := V.int .i64 (IntKind.i64.wrap (Int.tdiv (IntKind.i64.wrap (v1_249 - 1)) 4))) (.fn rfl) ?_
          refine SafeOps.nil ?_
          repeat (first | refine Safe.seq ?_ | refine Safe.skip ?_ | with_reducible refine thenQ.n ?_ | with_reducible refine blockQ.n ?_)
          refine Safe.regionD (n := 10) [] [] E_good mixed rfl ?_
          refine DAny.take (i := 0) rfl (by kernel_rfl) [] (by kernel_rfl) (by kernel_rfl) (by kernel_rfl) rfl rfl rfl (v := V.ref [35] 0 (rws api_Timer.cells v9_248).length) (fun _ hz => (.fn rfl)) ?_
          refine DAny.take (i := 1) rfl (by kernel_rfl) [] (by kernel_rfl) (by kernel_rfl) (by kernel_rfl) rfl rfl rfl (v := V.int .i64 (IntKind.i64.wrap (Int.tdiv (IntKind.i64.wrap (v1_249 - 1)) 4))) (fun _ hz => (.fn rfl)) ?_
          refine okG h (fun hb252 h => ?_)
          refine DAny.take (i := 2) rfl (by kernel_rfl) [] (by kernel_rfl) (by kernel_rfl) (by kernel_rfl) rfl rfl rfl (v := V.ptr [35] (0 + Int.toNat (IntKind.i64.wrap (Int.tdiv (IntKind.i64.wrap (v1_249 - 1)) 4))) 0) (fun _ hz => (.idxRefM (f := api_Timer.cells) (xs := v9_248) rfl rfl rfl (hz _ _ rfl rfl) rfl rfl hb252)) ?_
          refine DAny.take (i := 3) rfl (by kernel_rfl) [] (by kernel_rfl) (by kernel_rfl) (by kernel_rfl) rfl rfl rfl (v := V.agg [V.int .i64 ((gt v9_248 (IntKind.i64.wrap (Int.tdiv (IntKind.i64.wrap (v1_249 - 1)) 4))).At), V.int .i64 ((gt v9_248 (IntKind.i64.wrap (Int.tdiv (IntKind.i64.wrap (v1_249 - 1)) 4))).Id)]) (fun _ hz => (.load rfl rfl (.rowsM (f := api_Timer.cells) (xs := v9_248) hb252 (hz _ _ rfl rfl) rfl) rfl)) ?_
          refine DAny.take (i := 4) rfl (by kernel_rfl) [] (by kernel_rfl) (by kernel_rfl) (by kernel_rfl) rfl rfl rfl (v := V.ref [35] 0 (rws api_Timer.cells v9_248).length) (fun _ hz => (.fn rfl)) ?_
          refine DAny.take (i := 5) rfl (by kernel_rfl) [] (by kernel_rfl) (by kernel_rfl) (by kernel_rfl) rfl rfl rfl (v := V.int .i64 v1_249) (fun _ hz => (.fn rfl)) ?_
          refine okG h (fun hb253 h => ?_)
          refine DAny.take (i := 6) rfl (by kernel_rfl) [] (by kernel_rfl) (by kernel_rfl) (by kernel_rfl) rfl rfl rfl (v := V.ptr [35] (0 + Int.toNat v1_249) 0) (fun _ hz => (.idxRefM (f := api_Timer.cells) (xs := v9_248) rfl rfl rfl (hz _ _ rfl rfl) rfl rfl hb253)) ?_
          refine DAny.take (i := 7) rfl (by kernel_rfl) [] (by kernel_rfl) (by kernel_rfl) (by kernel_rfl) rfl rfl rfl (v := V.agg [V.int .i64 ((gt v9_248 v1_249).At), V.int .i64 ((gt v9_248 v1_249).Id)]) (fun _ hz => (.load rfl rfl (.rowsM (f := api_Timer.cells) (xs := v9_248) hb253 (hz _ _ rfl rfl) rfl) rfl)) ?_
          refine bindG h ?_
          intro x_254 he255 h
          refine DAny.take (i := 8) rfl (by kernel_rfl) [] (by kernel_rfl) (by kernel_rfl) (by kernel_rfl) rfl rfl rfl (v := V.int .i64 x_254) (fun _ hz => (.callP rfl rfl (go_heap_order_sc (gt v9_248 (IntKind.i64.wrap (Int.tdiv (IntKind.i64.wrap (v1_249 - 1)) 4))) (gt v9_248 v1_249) _ he255) rfl)) ?_
          refine DAny.take (i := 9) rfl (by kernel_rfl) [] (by kernel_rfl) (by kernel_rfl) (by kernel_rfl) rfl rfl rfl (v := V.bool (decide (x_254 ≤ 0))) (fun _ hz => (.fn rfl)) ?_
          refine DAny.nil (by kernel_rfl) ?_
          repeat (first | refine Safe.seq ?_ | refine Safe.skip ?_ | with_reducible refine thenQ.n ?_ | with_reducible refine blockQ.n ?_)
          refine ifG h (fun hc256 h => ?_) (fun hc256 h => ?_)
          · skip
            refine Safe.condK rfl hc256 ?_
            repeat (first | refine Safe.seq ?_ | refine Safe.skip ?_ | with_reducible refine thenQ.n ?_ | with_reducible refine blockQ.n ?_)
            refine Safe.ret ?_
            repeat (first | with_reducible refine thenQ.r ?_ | with_reducible refine blockQ.r ?_)
            refine inQ.gen (vs := []) (v := V.tup []) (.inr rfl) rfl .nil rfl ?_
            replace h := inr_out h hr250
            refine SafeOps.nil ?_
            repeat (first | refine Safe.seq ?_ | refine Safe.skip ?_ | with_reducible refine thenQ.n ?_ | with_reducible refine blockQ.n ?_)
            refine Safe.region ?_
            refine SafeOps.quiet0 E_good rfl rfl rfl (v := V.ref [35] 0 (rws api_Timer.cells v9_248).length) (.fn rfl) ?_
            refine SafeOps.quiet0 E_good rfl rfl rfl (v := V.ref [35] 0 (rws api_Timer.cells v9_248).length) (.fn rfl) ?_
            refine SafeOps.quiet0 E_good rfl rfl rfl (v := V.int .i64 0) (.fn rfl) ?_
            refine SafeOps.nil ?_
            repeat (first | refine Safe.seq ?_ | refine Safe.skip ?_ | with_reducible refine thenQ.n ?_ | with_reducible refine blockQ.n ?_)
            refine Safe.ret ?_
            repeat (first | with_reducible refine thenQ.r ?_ | with_reducible refine blockQ.r ?_)
            obtain rfl := Option.some.inj h
            exact retQ.gen (vs := [V.ref [35] 0 (rws api_Timer.cells v9_248).length, V.int .i64 0]) rfl (.tmp (v := V.ref [35] 0 (rws api_Timer.cells v9_248).length) rfl (.tmp (v := V.int .i64 0) rfl .nil)) (by exact (.tup (.cons (.own rfl rfl) (.cons (.free rfl) .nil)))) (by simp) (.inr rfl)
          · skip
            refine Safe.condN rfl hc256 ?_
            repeat (first | refine Safe.seq ?_ | refine Safe.skip ?_ | with_reducible refine thenQ.n ?_ | with_reducible refine blockQ.n ?_)
            refine Safe.regionD (n := 16) [(13, [35]), (15, [35])] [] E_good mixed rfl ?_
            refine DAny.take (i := 0) rfl (by kernel_rfl) [[35]] (by kernel_rfl) (by kernel_rfl) (by kernel_rfl) rfl rfl rfl (v := V.ref [35] 0 (rws api_Timer.cells v9_248).length) (fun _ hz => (.fn rfl)) ?_
            refine DAny.take (i := 1) rfl (by kernel_rfl) [[35]] (by kernel_rfl) (by kernel_rfl) (by kernel_rfl) rfl rfl rfl (v := V.int .i64 (IntKind.i64.wrap (Int.tdiv (IntKind.i64.wrap (v1_249 - 1)) 4))) (fun _ hz => (.fn rfl)) ?_
            refine DAny.take (i := 2) rfl (by kernel_rfl) [[35]] (by kernel_rfl) (by kernel_rfl) (by kernel_rfl) rfl rfl rfl (v := V.ref [35] 0 (rws api_Timer.cells v9_248).length) (fun _ hz => (.fn rfl)) ?_
            refine DAny.take (i := 3) rfl (by kernel_rfl) [[35]] (by kernel_rfl) (by kernel_rfl) (by kernel_rfl) rfl rfl rfl (v := V.int .i64 v1_249) (fun _ hz => (.fn rfl)) ?_
            refine DAny.take (i := 4) rfl (by kernel_rfl) [[35]] (by kernel_rfl) (by kernel_rfl) (by kernel_rfl) rfl rfl rfl (v := V.ref [35] 0 (rws api_Timer.cells v9_248).length) (fun _ hz => (.fn rfl)) ?_
            refine DAny.take (i := 5) rfl (by kernel_rfl) [[35]] (by kernel_rfl) (by kernel_rfl) (by kernel_rfl) rfl rfl rfl (v := V.int .i64 v1_249) (fun _ hz => (.fn rfl)) ?_
            refine okG h (fun hb257 h => ?_)
            refine DAny.take (i := 6) rfl (by kernel_rfl) [] (by kernel_rfl) (by kernel_rfl) (by kernel_rfl) rfl rfl rfl (v := V.ptr [35] (0 + Int.toNat v1_249) 0) (fun _ hz => (.idxRefM (f := api_Timer.cells) (xs := v9_248) rfl rfl rfl (hz _ _ rfl rfl) rfl rfl hb257)) ?_
            refine DAny.take (i := 7) rfl (by kernel_rfl) [] (by kernel_rfl) (by kernel_rfl) (by kernel_rfl) rfl rfl rfl (v := V.agg [V.int .i64 ((gt v9_248 v1_249).At), V.int .i64 ((gt v9_248 v1_249).Id)]) (fun _ hz => (.load rfl rfl (.rowsM (f := api_Timer.cells) (xs := v9_248) hb257 (hz _ _ rfl rfl) rfl) rfl)) ?_
            refine DAny.take (i := 8) rfl (by kernel_rfl) [[35]] (by kernel_rfl) (by kernel_rfl) (by kernel_rfl) rfl rfl rfl (v := V.ref [35] 0 (rws api_Timer.cells v9_248).length) (fun _ hz => (.fn rfl)) ?_
            refine DAny.take (i := 9) rfl (by kernel_rfl) [[35]] (by kernel_rfl) (by kernel_rfl) (by kernel_rfl) rfl rfl rfl (v := V.int .i64 (IntKind.i64.wrap (Int.tdiv (IntKind.i64.wrap (v1_249 - 1)) 4))) (fun _ hz => (.fn rfl)) ?_
            refine okG h (fun hb258 h => ?_)
            refine DAny.take (i := 10) rfl (by kernel_rfl) [] (by kernel_rfl) (by kernel_rfl) (by kernel_rfl) rfl rfl rfl (v := V.ptr [35] (0 + Int.toNat (IntKind.i64.wrap (Int.tdiv (IntKind.i64.wrap (v1_249 - 1)) 4))) 0) (fun _ hz => (.idxRefM (f := api_Timer.cells) (xs := v9_248) rfl rfl rfl (hz _ _ rfl rfl) rfl rfl hb258)) ?_
            refine DAny.take (i := 11) rfl (by kernel_rfl) [] (by kernel_rfl) (by kernel_rfl) (by kernel_rfl) rfl rfl rfl (v := V.agg [V.int .i64 ((gt v9_248 (IntKind.i64.wrap (Int.tdiv (IntKind.i64.wrap (v1_249 - 1)) 4))).At), V.int .i64 ((gt v9_248 (IntKind.i64.wrap (Int.tdiv (IntKind.i64.wrap (v1_249 - 1)) 4))).Id)]) (fun _ hz => (.load rfl rfl (.rowsM (f := api_Timer.cells) (xs := v9_248) hb258 (hz _ _ rfl rfl) rfl) rfl)) ?_
            refine okG h (fun hb259 h => ?_)
            refine DAny.take (i := 12) rfl (by kernel_rfl) [] (by kernel_rfl) (by kernel_rfl) (by kernel_rfl) rfl rfl rfl (v := V.ptr [35] (0 + Int.toNat (IntKind.i64.wrap (Int.tdiv (IntKind.i64.wrap (v1_249 - 1)) 4))) 0) (fun _ hz => (.idxRefM (f := api_Timer.cells) (xs := v9_248) rfl rfl rfl (hz _ _ rfl rfl) rfl rfl hb259)) ?_
            refine DAny.only (i := 13) rfl (by kernel_rfl) (.store (z := Obj.rows 2 (rws api_Timer.cells (st v9_248 (IntKind.i64.wrap (Int.tdiv (IntKind.i64.wrap (v1_249 - 1)) 4)) (gt v9_248 v1_249))) false) rfl rfl rfl rfl rfl rfl rfl (.rowsM (f := api_Timer.cells) (xs := v9_248) (y := (gt v9_248 v1_249)) hb259 rfl rfl rfl rfl) rfl ?_)
            refine okG h (fun hb260 h => ?_)
            refine DAny.take (i := 14) rfl (by kernel_rfl) [] (by kernel_rfl) (by kernel_rfl) (by kernel_rfl) rfl rfl rfl (v := V.ptr [35] (0 + Int.toNat v1_249) 0) (fun _ hz => (.idxRefL (f := api_Timer.cells) (xs := st v9_248 (IntKind.i64.wrap (Int.tdiv (IntKind.i64.wrap (v1_249 - 1)) 4)) (gt v9_248 v1_249)) (ys := v9_248) rfl rfl rfl (hz _ _ rfl rfl) rfl (by simp [st]) hb260)) ?_
            refine DAny.only (i := 15) rfl (by kernel_rfl) (.store (z := Obj.rows 2 (rws api_Timer.cells (st (st v9_248 (IntKind.i64.wrap (Int.tdiv (IntKind.i64.wrap (v1_249 - 1)) 4)) (gt v9_248 v1_249)) v1_249 (gt v9_248 (IntKind.i64.wrap (Int.tdiv (IntKind.i64.wrap (v1_249 - 1)) 4))))) false) rfl rfl rfl rfl rfl rfl rfl (.rowsM (f := api_Timer.cells) (xs := st v9_248 (IntKind.i64.wrap (Int.tdiv (IntKind.i64.wrap (v1_249 - 1)) 4)) (gt v9_248 v1_249)) (y := (gt v9_248 (IntKind.i64.wrap (Int.tdiv (IntKind.i64.wrap (v1_249 - 1)) 4)))) hb260 rfl rfl rfl rfl) rfl ?_)
            refine DAny.nil (by kernel_rfl) ?_
            repeat (first | refine Safe.seq ?_ | refine Safe.skip ?_ | with_reducible refine thenQ.n ?_ | with_reducible refine blockQ.n ?_)
            refine Safe.see 0 (u := V.ref [35] 0 (rws api_Timer.cells (st (st v9_248 (IntKind.i64.wrap (Int.tdiv (IntKind.i64.wrap (v1_249 - 1)) 4)) (gt v9_248 v1_249)) v1_249 (gt v9_248 (IntKind.i64.wrap (Int.tdiv (IntKind.i64.wrap (v1_249 - 1)) 4))))).length) rfl (.len (by simp [rws, st])) ?_
            refine Safe.see 10 (u := V.ref [35] 0 (rws api_Timer.cells (st (st v9_248 (IntKind.i64.wrap (Int.tdiv (IntKind.i64.wrap (v1_249 - 1)) 4)) (gt v9_248 v1_249)) v1_249 (gt v9_248 (IntKind.i64.wrap (Int.tdiv (IntKind.i64.wrap (v1_249 - 1)) 4))))).length) rfl (.len (by simp [rws, st])) ?_
            refine Safe.see 14 (u := V.ref [35] 0 (rws api_Timer.cells (st (st v9_248 (IntKind.i64.wrap (Int.tdiv (IntKind.i64.wrap (v1_249 - 1)) 4)) (gt v9_248 v1_249)) v1_249 (gt v9_248 (IntKind.i64.wrap (Int.tdiv (IntKind.i64.wrap (v1_249 - 1)) 4))))).length) rfl (.len (by simp [rws, st])) ?_
            refine Safe.see 20 (u := V.ref [35] 0 (rws api_Timer.cells (st (st v9_248 (IntKind.i64.wrap (Int.tdiv (IntKind.i64.wrap (v1_249 - 1)) 4)) (gt v9_248 v1_249)) v1_249 (gt v9_248 (IntKind.i64.wrap (Int.tdiv (IntKind.i64.wrap (v1_249 - 1)) 4))))).length) rfl (.len (by simp [rws, st])) ?_
            refine Safe.see 22 (u := V.ref [35] 0 (rws api_Timer.cells (st (st v9_248 (IntKind.i64.wrap (Int.tdiv (IntKind.i64.wrap (v1_249 - 1)) 4)) (gt v9_248 v1_249)) v1_249 (gt v9_248 (IntKind.i64.wrap (Int.tdiv (IntKind.i64.wrap (v1_249 - 1)) 4))))).length) rfl (.len (by simp [rws, st])) ?_
            refine Safe.see 24 (u := V.ref [35] 0 (rws api_Timer.cells (st (st v9_248 (IntKind.i64.wrap (Int.tdiv (IntKind.i64.wrap (v1_249 - 1)) 4)) (gt v9_248 v1_249)) v1_249 (gt v9_248 (IntKind.i64.wrap (Int.tdiv (IntKind.i64.wrap (v1_249 - 1)) 4))))).length) rfl (.len (by simp [rws, st])) ?_
            refine Safe.see 28 (u := V.ref [35] 0 (rws api_Timer.cells (st (st v9_248 (IntKind.i64.wrap (Int.tdiv (IntKind.i64.wrap (v1_249 - 1)) 4)) (gt v9_248 v1_249)) v1_249 (gt v9_248 (IntKind.i64.wrap (Int.tdiv (IntKind.i64.wrap (v1_249 - 1)) 4))))).length) rfl (.len (by simp [rws, st])) ?_
            repeat (first | refine Safe.seq ?_ | refine Safe.skip ?_ | with_reducible refine thenQ.n ?_ | with_reducible refine blockQ.n ?_)
            refine Safe.region ?_
            refine SafeOps.quiet0 E_good rfl rfl rfl (v := V.int .i64 (IntKind.i64.wrap (Int.tdiv (IntKind.i64.wrap (v1_249 - 1)) 4))) (.fn rfl) ?_
            refine SafeOps.quiet0 E_good rfl rfl rfl (v := V.int .i64 (IntKind.i64.wrap (Int.tdiv (IntKind.i64.wrap (v1_249 - 1)) 4))) (.fn rfl) ?_
            refine SafeOps.nil ?_
            repeat (first | refine Safe.seq ?_ | refine Safe.skip ?_ | with_reducible refine thenQ.n ?_ | with_reducible refine blockQ.n ?_)
            exact ⟨_, next_out h, (.cov ⟨rfl, rfl, (upT_cons (.refl _) (upT_cons (.refl _) upT_nil)), (upOb_cons rfl (.refl _) upOb_nil), (upOut_cons rfl (upT_cons (.len (by simp [rws, st])) upT_nil) upOut_nil), rfl⟩)⟩
        · skip
          refine Safe.condN rfl hc251 ?_
          repeat (first | refine Safe.seq ?_ | refine Safe.skip ?_ | with_reducible refine thenQ.n ?_ | with_reducible refine blockQ.n ?_)
          refine Safe.exit ?_
          repeat (first | with_reducible refine thenQ.e ?_ | with_reducible refine blockQ.x rfl ?_ | with_reducible refine blockQ.y rfl ?_)
          replace h := inr_out h hr250
          repeat (first | refine Safe.seq ?_ | refine Safe.skip ?_ | with_reducible refine thenQ.n ?_ | with_reducible refine blockQ.n ?_)
          repeat (first | with_reducible refine thenQ.r ?_ | with_reducible refine blockQ.r ?_)
          refine inQ.gen (vs := []) (v := V.tup []) (.inl rfl) rfl .nil rfl ?_
          refine SafeOps.nil ?_
          repeat (first | refine Safe.seq ?_ | refine Safe.skip ?_ | with_reducible refine thenQ.n ?_ | with_reducible refine blockQ.n ?_)
          refine Safe.region ?_
          refine SafeOps.quiet0 E_good rfl rfl rfl (v := V.ref [35] 0 (rws api_Timer.cells v9_248).length) (.fn rfl) ?_
          refine SafeOps.quiet0 E_good rfl rfl rfl (v := V.ref [35] 0 (rws api_Timer.cells v9_248).length) (.fn rfl) ?_
          refine SafeOps.quiet0 E_good rfl rfl rfl (v := V.int .i64 0) (.fn rfl) ?_
          refine SafeOps.nil ?_
          repeat (first | refine Safe.seq ?_ | refine Safe.skip ?_ | with_reducible refine thenQ.n ?_ | with_reducible refine blockQ.n ?_)
          refine Safe.ret ?_
          repeat (first | with_reducible refine thenQ.r ?_ | with_reducible refine blockQ.r ?_)
          obtain rfl := Option.some.inj h
          exact retQ.gen (vs := [V.ref [35] 0 (rws api_Timer.cells v9_248).length, V.int .i64 0]) rfl (.tmp (v := V.ref [35] 0 (rws api_Timer.cells v9_248).length) rfl (.tmp (v := V.int .i64 0) rfl .nil)) (by exact (.tup (.cons (.own rfl rfl) (.cons (.free rfl) .nil)))) (by simp) (.inr rfl)

noncomputable def go_heap_Least (a0_267 : List api_Timer) : Option (api_Timer × Int) :=
  (go_heap_Check a0_267).bind fun x_281 =>
  if (x_281 != 0) = true then
    some (api_Timer.zero, 1)
  else
    if ((a0_267.length : Int) == 0) = true then
      some (api_Timer.zero, 5)
    else
      if 0 ≤ (0 : Int) ∧ (0 : Int) < (a0_267.length : Int) then
        some ((gt a0_267 0), 0)
      else none

theorem go_heap_Least_sc (a0_267 : List api_Timer) (r : api_Timer × Int) (h : go_heap_Least a0_267 = some r) : SC Try.prog gl 23 [V.sl 2 (rws api_Timer.cells a0_267)] (V.tup [V.agg [V.int .i64 r.1.At, V.int .i64 r.1.Id], V.int .i64 r.2]) := by
  rw [go_heap_Least] at h
  refine SC.of E_good Try.func23 rfl (fun _ _ => Try.call23 _ _) rfl ?_
  repeat (first | refine Safe.seq ?_ | refine Safe.skip ?_ | with_reducible refine thenQ.n ?_ | with_reducible refine blockQ.n ?_)
  refine Safe.region ?_
  refine SafeOps.quiet1 E_good rfl rfl rfl (.alloc rfl rfl) rfl ?_
  refine SafeOps.quiet0 E_good rfl rfl rfl (v := V.int .i64 0) (.fn rfl) ?_
  refine SafeOps.nil ?_
  repeat (first | refine Safe.seq ?_ | refine Safe.skip ?_ | with_reducible refine thenQ.n ?_ | with_reducible refine blockQ.n ?_)
  refine Safe.block ?_
  repeat (first | refine Safe.seq ?_ | refine Safe.skip ?_ | with_reducible refine thenQ.n ?_ | with_reducible refine blockQ.n ?_)
  refine Safe.region ?_
  refine SafeOps.quiet0 E_good rfl rfl rfl (v := V.sl 2 (rws api_Timer.cells a0_267)) (.fn rfl) ?_
  refine bindG h ?_
  intro x_281 he282 h
  refine SafeOps.quiet0 E_good rfl rfl rfl (v := V.int .i64 x_281) (.callP rfl rfl (go_heap_Check_sc a0_267 _ he282) rfl) ?_
  refine SafeOps.quiet0 E_good rfl rfl rfl (v := V.bool (x_281 != 0)) (.fn rfl) ?_
  refine SafeOps.quiet0 E_good rfl rfl rfl (v := V.bool (x_281 != 0)) (.fn rfl) ?_
  refine SafeOps.nil ?_
  repeat (first | refine Safe.seq ?_ | refine Safe.skip ?_ | with_reducible refine thenQ.n ?_ | with_reducible refine blockQ.n ?_)
  refine ifG h (fun hc283 h => ?_) (fun hc283 h => ?_)
  · skip
    refine Safe.condK rfl hc283 ?_
    repeat (first | refine Safe.seq ?_ | refine Safe.skip ?_ | with_reducible refine thenQ.n ?_ | with_reducible refine blockQ.n ?_)
    refine Safe.region ?_
    refine SafeOps.quiet0 E_good rfl rfl rfl (v := V.agg [V.int .i64 0, V.int .i64 0]) (.fn rfl) ?_
    refine SafeOps.store (z := Obj.box [V.int .i64 0, V.int .i64 0]) E_good rfl rfl rfl rfl rfl rfl rfl (.boxM (c := 2) rfl rfl (Nat.le_of_ble_eq_true rfl) rfl) ?_
    refine SafeOps.quiet0 E_good rfl rfl rfl (v := V.int .i64 1) (.fn rfl) ?_
    refine SafeOps.nil ?_
    repeat (first | refine Safe.seq ?_ | refine Safe.skip ?_ | with_reducible refine thenQ.n ?_ | with_reducible refine blockQ.n ?_)
    refine Safe.ret ?_
    repeat (first | with_reducible refine thenQ.r ?_ | with_reducible refine blockQ.r ?_)
    obtain rfl := Option.some.inj h
    exact retQ.gen (vs := [V.agg [V.int .i64 0, V.int .i64 0], V.int .i64 1]) rfl (.cell (v := V.agg [V.int .i64 0, V.int .i64 0]) rfl rfl (.box rfl rfl) rfl (.tmp (v := V.int .i64 1) rfl .nil)) (.free rfl) (by simp) (.inr rfl)
  · skip
    refine Safe.condN rfl hc283 ?_
    repeat (first | refine Safe.seq ?_ | refine Safe.skip ?_ | with_reducible refine thenQ.n ?_ | with_reducible refine blockQ.n ?_)
    refine Safe.region ?_
    refine SafeOps.quiet0 E_good rfl rfl rfl (v := V.sl 2 (rws api_Timer.cells a0_267)) (.fn rfl) ?_
    refine SafeOps.quiet0 E_good rfl rfl rfl (v := V.int .i64 (a0_267.length : Int)) (.fnE rfl lenE) ?_
    refine SafeOps.quiet0 E_good rfl rfl rfl (v := V.bool ((a0_267.length : Int) == 0)) (.fn rfl) ?_
    refine SafeOps.quiet0 E_good rfl rfl rfl (v := V.bool ((a0_267.length : Int) == 0)) (.fn rfl) ?_
    refine SafeOps.nil ?_
    repeat (first | refine Safe.seq ?_ | refine Safe.skip ?_ | with_reducible refine thenQ.n ?_ | with_reducible refine blockQ.n ?_)
    refine ifG h (fun hc284 h => ?_) (fun hc284 h => ?_)
    · skip
      refine Safe.condK rfl hc284 ?_
      repeat (first | refine Safe.seq ?_ | refine Safe.skip ?_ | with_reducible refine thenQ.n ?_ | with_reducible refine blockQ.n ?_)
      refine Safe.region ?_
      refine SafeOps.quiet0 E_good rfl rfl rfl (v := V.agg [V.int .i64 0, V.int .i64 0]) (.fn rfl) ?_
      refine SafeOps.store (z := Obj.box [V.int .i64 0, V.int .i64 0]) E_good rfl rfl rfl rfl rfl rfl rfl (.boxM (c := 2) rfl rfl (Nat.le_of_ble_eq_true rfl) rfl) ?_
      refine SafeOps.quiet0 E_good rfl rfl rfl (v := V.int .i64 5) (.fn rfl) ?_
      refine SafeOps.nil ?_
      repeat (first | refine Safe.seq ?_ | refine Safe.skip ?_ | with_reducible refine thenQ.n ?_ | with_reducible refine blockQ.n ?_)
      refine Safe.ret ?_
      repeat (first | with_reducible refine thenQ.r ?_ | with_reducible refine blockQ.r ?_)
      obtain rfl := Option.some.inj h
      exact retQ.gen (vs := [V.agg [V.int .i64 0, V.int .i64 0], V.int .i64 5]) rfl (.cell (v := V.agg [V.int .i64 0, V.int .i64 0]) rfl rfl (.box rfl rfl) rfl (.tmp (v := V.int .i64 5) rfl .nil)) (.free rfl) (by simp) (.inr rfl)
    · skip
      refine Safe.condN rfl hc284 ?_
      repeat (first | refine Safe.seq ?_ | refine Safe.skip ?_ | with_reducible refine thenQ.n ?_ | with_reducible refine blockQ.n ?_)
      refine Safe.region ?_
      refine SafeOps.quiet0 E_good rfl rfl rfl (v := V.sl 2 (rws api_Timer.cells a0_267)) (.fn rfl) ?_
      refine okG h (fun hb285 h => ?_)
      refine SafeOps.quiet0 E_good rfl rfl rfl (v := V.spt 2 (rws api_Timer.cells a0_267) (Int.toNat 0) 0) (.idxSlM (f := api_Timer.cells) rfl rfl rfl rfl rfl hb285) ?_
      refine SafeOps.quiet0 E_good rfl rfl rfl (v := V.agg [V.int .i64 ((gt a0_267 0).At), V.int .i64 ((gt a0_267 0).Id)]) (.load rfl rfl (.sptM (f := api_Timer.cells) hb285 rfl) rfl) ?_
      refine SafeOps.store (z := Obj.box [V.int .i64 ((gt a0_267 0).At), V.int .i64 ((gt a0_267 0).Id)]) E_good rfl rfl rfl rfl rfl rfl rfl (.boxM (c := 2) rfl rfl (Nat.le_of_ble_eq_true rfl) rfl) ?_
      refine SafeOps.quiet0 E_good rfl rfl rfl (v := V.int .i64 0) (.fn rfl) ?_
      refine SafeOps.nil ?_
      repeat (first | refine Safe.seq ?_ | refine Safe.skip ?_ | with_reducible refine thenQ.n ?_ | with_reducible refine blockQ.n ?_)
      refine Safe.ret ?_
      repeat (first | with_reducible refine thenQ.r ?_ | with_reducible refine blockQ.r ?_)
      obtain rfl := Option.some.inj h
      exact retQ.gen (vs := [V.agg [V.int .i64 ((gt a0_267 0).At), V.int .i64 ((gt a0_267 0).Id)], V.int .i64 0]) rfl (.cell (v := V.agg [V.int .i64 ((gt a0_267 0).At), V.int .i64 ((gt a0_267 0).Id)]) rfl rfl (.box rfl rfl) rfl (.tmp (v := V.int .i64 0) rfl .nil)) (.free rfl) (by simp) (.inr rfl)

noncomputable def go_ravellaw08_live  : Option Bool :=
  (go_heap_Add [] (api_Timer.mk 9 5)).bind fun (x_292, x_293) =>
  (go_heap_Add x_292 (api_Timer.mk 3 6)).bind fun (x_295, x_296) =>
  (go_heap_Least x_295).bind fun (x_298, x_299) =>
  some ((((x_293 == 0) && (x_296 == 0)) && (x_299 == 0)) && (x_298.Id == 6))

theorem go_ravellaw08_live_sc  (r : Bool) (h : go_ravellaw08_live  = some r) : SC Try.prog gl 10 [] (V.bool r) := by
  rw [go_ravellaw08_live] at h
  refine SC.of E_good Try.func10 rfl (fun _ _ => Try.call10 _ _) rfl ?_
  repeat (first | refine Safe.seq ?_ | refine Safe.skip ?_ | with_reducible refine thenQ.n ?_ | with_reducible refine blockQ.n ?_)
  refine Safe.region ?_
  refine SafeOps.quiet0 E_good rfl rfl rfl (v := V.bool false) (.fn rfl) ?_
  refine SafeOps.nil ?_
  repeat (first | refine Safe.seq ?_ | refine Safe.skip ?_ | with_reducible refine thenQ.n ?_ | with_reducible refine blockQ.n ?_)
  refine Safe.region ?_
  refine SafeOps.quiet0 E_good rfl rfl rfl (v := V.agg [V.int .i64 9, V.int .i64 5]) (.fn rfl) ?_
  refine bindG h ?_
  rintro ⟨x_292, x_293⟩ he294 h
  refine SafeOps.quiet E_good rfl rfl rfl (v := V.tup [V.ref [8, 0] 0 (rws api_Timer.cells x_292).length, V.int .i64 x_293]) (.callS rfl (.cons (.nils _) (.cons (.free rfl) .nil)) (go_heap_Add_sc [] (api_Timer.mk 9 5) _ he294) (.tupL (.cons (.ownM (fun _ => rfl)) (.cons (.plain rfl) .nil))) rfl) rfl ?_
  refine SafeOps.quiet0 E_good rfl rfl rfl (v := V.tup [V.ref [8, 0] 0 (rws api_Timer.cells x_292).length, V.int .i64 x_293]) (.fn rfl) ?_
  refine SafeOps.quiet0 E_good rfl rfl rfl (v := V.ref [8, 0] 0 (rws api_Timer.cells x_292).length) (.fn rfl) ?_
  refine SafeOps.quiet0 E_good rfl rfl rfl (v := V.int .i64 x_293) (.fn rfl) ?_
  refine SafeOps.quiet0 E_good rfl rfl rfl (v := V.ref [8, 0] 0 (rws api_Timer.cells x_292).length) (.fn rfl) ?_
  refine SafeOps.quiet0 E_good rfl rfl rfl (v := V.int .i64 x_293) (.fn rfl) ?_
  refine SafeOps.nil ?_
  repeat (first | refine Safe.seq ?_ | refine Safe.skip ?_ | with_reducible refine thenQ.n ?_ | with_reducible refine blockQ.n ?_)
  refine Safe.region ?_
  refine SafeOps.quiet0 E_good rfl rfl rfl (v := V.ref [8, 0] 0 (rws api_Timer.cells x_292).length) (.fn rfl) ?_
  refine SafeOps.quiet0 E_good rfl rfl rfl (v := V.agg [V.int .i64 3, V.int .i64 6]) (.fn rfl) ?_
  refine bindG h ?_
  rintro ⟨x_295, x_296⟩ he297 h
  refine SafeOps.quiet E_good rfl rfl rfl (v := V.tup [V.ref [14, 0] 0 (rws api_Timer.cells x_295).length, V.int .i64 x_296]) (.callS rfl (.cons (.full rfl rfl) (.cons (.free rfl) .nil)) (go_heap_Add_sc x_292 (api_Timer.mk 3 6) _ he297) (.tupL (.cons (.ownM (fun _ => rfl)) (.cons (.plain rfl) .nil))) rfl) rfl ?_
  refine SafeOps.quiet0 E_good rfl rfl rfl (v := V.tup [V.ref [14, 0] 0 (rws api_Timer.cells x_295).length, V.int .i64 x_296]) (.fn rfl) ?_
  refine SafeOps.quiet0 E_good rfl rfl rfl (v := V.ref [14, 0] 0 (rws api_Timer.cells x_295).length) (.fn rfl) ?_
  refine SafeOps.quiet0 E_good rfl rfl rfl (v := V.int .i64 x_296) (.fn rfl) ?_
  refine SafeOps.quiet0 E_good rfl rfl rfl (v := V.ref [14, 0] 0 (rws api_Timer.cells x_295).length) (.fn rfl) ?_
  refine SafeOps.quiet0 E_good rfl rfl rfl (v := V.int .i64 x_296) (.fn rfl) ?_
  refine SafeOps.nil ?_
  repeat (first | refine Safe.seq ?_ | refine Safe.skip ?_ | with_reducible refine thenQ.n ?_ | with_reducible refine blockQ.n ?_)
  refine Safe.region ?_
  refine SafeOps.quiet0 E_good rfl rfl rfl (v := V.ref [14, 0] 0 (rws api_Timer.cells x_295).length) (.fn rfl) ?_
  refine bindG h ?_
  rintro ⟨x_298, x_299⟩ he300 h
  refine SafeOps.quiet0 E_good rfl rfl rfl (v := V.tup [V.agg [V.int .i64 x_298.At, V.int .i64 x_298.Id], V.int .i64 x_299]) (.callS rfl (.cons (.full rfl rfl) .nil) (go_heap_Least_sc x_295 _ he300) (.tupL (.cons (.aggL (.cons (.plain rfl) (.cons (.plain rfl) .nil))) (.cons (.plain rfl) .nil))) rfl) ?_
  refine SafeOps.quiet0 E_good rfl rfl rfl (v := V.tup [V.agg [V.int .i64 x_298.At, V.int .i64 x_298.Id], V.int .i64 x_299]) (.fn rfl) ?_
  refine SafeOps.quiet0 E_good rfl rfl rfl (v := V.agg [V.int .i64 x_298.At, V.int .i64 x_298.Id]) (.fn rfl) ?_
  refine SafeOps.quiet0 E_good rfl rfl rfl (v := V.int .i64 x_299) (.fn rfl) ?_
  refine SafeOps.quiet1 E_good rfl rfl rfl (.alloc rfl rfl) rfl ?_
  refine SafeOps.store (z := Obj.box [V.int .i64 x_298.At, V.int .i64 x_298.Id]) E_good rfl rfl rfl rfl rfl rfl rfl (.boxM (c := 2) rfl rfl (Nat.le_of_ble_eq_true rfl) rfl) ?_
  refine SafeOps.quiet0 E_good rfl rfl rfl (v := V.int .i64 x_299) (.fn rfl) ?_
  refine SafeOps.nil ?_
  repeat (first | refine Safe.seq ?_ | refine Safe.skip ?_ | with_reducible refine thenQ.n ?_ | with_reducible refine blockQ.n ?_)
  refine Safe.region ?_
  refine SafeOps.quiet0 E_good rfl rfl rfl (v := V.int .i64 x_293) (.fn rfl) ?_
  refine SafeOps.quiet0 E_good rfl rfl rfl (v := V.bool (x_293 == 0)) (.fn rfl) ?_
  refine SafeOps.quiet0 E_good rfl rfl rfl (v := V.bool (x_293 == 0)) (.fn rfl) ?_
  refine SafeOps.bjoin 3 27 (b := ((x_293 == 0) && (x_296 == 0))) (b1 := (x_296 == 0)) (b0 := false) (fun hc301 K => ?_) (fun hc301 K => ?_) bj_and ?_
  · skip
    refine SafeOps.quiet0 E_good (congrArg some hc301) rfl rfl (v := V.int .i64 x_296) (.fn rfl) ?_
    refine SafeOps.quiet0 E_good (congrArg some hc301) rfl rfl (v := V.bool (x_296 == 0)) (.fn rfl) ?_
    refine SafeOps.quiet0 E_good rfl rfl rfl (v := V.bool (x_296 == 0)) (.pickK rfl hc301 rfl) ?_
    exact SafeOps.drop' 3 rfl rfl rfl K
  · skip
    refine SafeOps.skip (congrArg some hc301) rfl rfl ?_
    refine SafeOps.skip (congrArg some hc301) rfl rfl ?_
    refine SafeOps.quiet0 E_good rfl rfl rfl (v := V.bool false) (.pickK rfl hc301 rfl) ?_
    exact SafeOps.drop' 3 rfl rfl rfl K
  refine SafeOps.quiet0 E_good rfl rfl rfl (v := V.bool ((x_293 == 0) && (x_296 == 0))) (.fn rfl) ?_
  refine SafeOps.bjoin 3 31 (b := (((x_293 == 0) && (x_296 == 0)) && (x_299 == 0))) (b1 := (x_299 == 0)) (b0 := false) (fun hc302 K => ?_) (fun hc302 K => ?_) bj_and ?_
  · skip
    refine SafeOps.quiet0 E_good (congrArg some hc302) rfl rfl (v := V.int .i64 x_299) (.fn rfl) ?_
    refine SafeOps.quiet0 E_good (congrArg some hc302) rfl rfl (v := V.bool (x_299 == 0)) (.fn rfl) ?_
    refine SafeOps.quiet0 E_good rfl rfl rfl (v := V.bool (x_299 == 0)) (.pickK rfl hc302 rfl) ?_
    exact SafeOps.drop' 3 rfl rfl rfl K
  · skip
    refine SafeOps.skip (congrArg some hc302) rfl rfl ?_
    refine SafeOps.skip (congrArg some hc302) rfl rfl ?_
    refine SafeOps.quiet0 E_good rfl rfl rfl (v := V.bool false) (.pickK rfl hc302 rfl) ?_
    exact SafeOps.drop' 3 rfl rfl rfl K
  refine SafeOps.quiet0 E_good rfl rfl rfl (v := V.bool (((x_293 == 0) && (x_296 == 0)) && (x_299 == 0))) (.fn rfl) ?_
  refine SafeOps.bjoin 4 36 (b := ((((x_293 == 0) && (x_296 == 0)) && (x_299 == 0)) && (x_298.Id == 6))) (b1 := (x_298.Id == 6)) (b0 := false) (fun hc303 K => ?_) (fun hc303 K => ?_) bj_and ?_
  · skip
    refine SafeOps.quiet0 E_good (congrArg some hc303) rfl rfl (v := V.ptr [4] 0 1) (.fn rfl) ?_
    refine SafeOps.quiet0 E_good (congrArg some hc303) rfl rfl (v := V.int .i64 x_298.Id) (.load rfl rfl (.box rfl rfl) rfl) ?_
    refine SafeOps.quiet0 E_good (congrArg some hc303) rfl rfl (v := V.bool (x_298.Id == 6)) (.fn rfl) ?_
    refine SafeOps.quiet0 E_good rfl rfl rfl (v := V.bool (x_298.Id == 6)) (.pickK rfl hc303 rfl) ?_
    exact SafeOps.drop' 4 rfl rfl rfl K
  · skip
    refine SafeOps.skip (congrArg some hc303) rfl rfl ?_
    refine SafeOps.skip (congrArg some hc303) rfl rfl ?_
    refine SafeOps.skip (congrArg some hc303) rfl rfl ?_
    refine SafeOps.quiet0 E_good rfl rfl rfl (v := V.bool false) (.pickK rfl hc303 rfl) ?_
    exact SafeOps.drop' 4 rfl rfl rfl K
  refine SafeOps.quiet0 E_good rfl rfl rfl (v := V.bool ((((x_293 == 0) && (x_296 == 0)) && (x_299 == 0)) && (x_298.Id == 6))) (.fn rfl) ?_
  refine SafeOps.nil ?_
  repeat (first | refine Safe.seq ?_ | refine Safe.skip ?_ | with_reducible refine thenQ.n ?_ | with_reducible refine blockQ.n ?_)
  refine Safe.ret ?_
  repeat (first | with_reducible refine thenQ.r ?_ | with_reducible refine blockQ.r ?_)
  obtain rfl := Option.some.inj h
  exact retQ.gen (vs := [V.bool ((((x_293 == 0) && (x_296 == 0)) && (x_299 == 0)) && (x_298.Id == 6))]) rfl (.tmp (v := V.bool ((((x_293 == 0) && (x_296 == 0)) && (x_299 == 0)) && (x_298.Id == 6))) rfl .nil) (.free rfl) (by simp) (.inr rfl)

def go_ravelref08_may (a0_320 : api_Timer) : Bool :=
  (((decide (a0_320.At ≥ 0)) && (decide (a0_320.At ≤ 1125899906842624))) && (decide (a0_320.Id ≥ 0)))

def go_ravelref08_Less (a0_345 : api_Timer) (a1_346 : api_Timer) : Bool :=
  ((decide (a0_345.At < a1_346.At)) || ((a0_345.At == a1_346.At) && (decide (a0_345.Id < a1_346.Id))))

theorem go_ravelref08_Less_sc (a0_345 : api_Timer) (a1_346 : api_Timer) (r : Bool) (h : go_ravelref08_Less a0_345 a1_346 = r) : SC Try.prog gl 20 [V.agg [V.int .i64 a0_345.At, V.int .i64 a0_345.Id], V.agg [V.int .i64 a1_346.At, V.int .i64 a1_346.Id]] (V.bool r) := by
  rw [go_ravelref08_Less] at h
  refine SC.of E_good Try.func20 rfl (fun _ _ => Try.call20 _ _) rfl ?_
  repeat (first | refine Safe.seq ?_ | refine Safe.skip ?_ | with_reducible refine thenQ.n ?_ | with_reducible refine blockQ.n ?_)
  refine Safe.region ?_
  refine SafeOps.quiet1 E_good rfl rfl rfl (.box rfl rfl) rfl ?_
  refine SafeOps.quiet1 E_good rfl rfl rfl (.box rfl rfl) rfl ?_
  refine SafeOps.quiet0 E_good rfl rfl rfl (v := V.bool false) (.fn rfl) ?_
  refine SafeOps.nil ?_
  repeat (first | refine Safe.seq ?_ | refine Safe.skip ?_ | with_reducible refine thenQ.n ?_ | with_reducible refine blockQ.n ?_)
  refine Safe.region ?_
  refine SafeOps.quiet0 E_good rfl rfl rfl (v := V.ptr [2] 0 0) (.fn rfl) ?_
  refine SafeOps.quiet0 E_good rfl rfl rfl (v := V.int .i64 a0_345.At) (.load rfl rfl (.box rfl rfl) rfl) ?_
  refine SafeOps.quiet0 E_good rfl rfl rfl (v := V.ptr [3] 0 0) (.fn rfl) ?_
  refine SafeOps.quiet0 E_good rfl rfl rfl (v := V.int .i64 a1_346.At) (.load rfl rfl (.box rfl rfl) rfl) ?_
  refine SafeOps.quiet0 E_good rfl rfl rfl (v := V.bool (decide (a0_345.At < a1_346.At))) (.fn rfl) ?_
  refine SafeOps.quiet0 E_good rfl rfl rfl (v := V.bool (decide (a0_345.At < a1_346.At))) (.fn rfl) ?_
  refine SafeOps.bjoin 13 23 (b := ((decide (a0_345.At < a1_346.At)) || ((a0_345.At == a1_346.At) && (decide (a0_345.Id < a1_346.Id))))) (b1 := true) (b0 := ((a0_345.At == a1_346.At) && (decide (a0_345.Id < a1_346.Id)))) (fun hc349 K => ?_) (fun hc349 K => ?_) bj_or ?_
  · skip
    refine SafeOps.skip (congrArg (fun b => some (!b)) hc349) rfl rfl ?_
    refine SafeOps.skip (congrArg (fun b => some (!b)) hc349) rfl rfl ?_
    refine SafeOps.skip (congrArg (fun b => some (!b)) hc349) rfl rfl ?_
    refine SafeOps.skip (congrArg (fun b => some (!b)) hc349) rfl rfl ?_
    refine SafeOps.skip (congrArg (fun b => some (!b)) hc349) rfl rfl ?_
    refine SafeOps.skip (congrArg (fun b => some (!b)) hc349) rfl rfl ?_
    refine SafeOps.skip rfl rfl rfl ?_
    refine SafeOps.skip rfl rfl rfl ?_
    refine SafeOps.skip rfl rfl rfl ?_
    refine SafeOps.skip rfl rfl rfl ?_
    refine SafeOps.skip rfl rfl rfl ?_
    refine SafeOps.skip (congrArg (fun b => some (!b)) hc349) rfl rfl ?_
    refine SafeOps.quiet0 E_good rfl rfl rfl (v := V.bool true) (.pickK rfl hc349 rfl) ?_
    exact SafeOps.drop' 13 rfl rfl rfl K
  · skip
    refine SafeOps.quiet0 E_good (congrArg (fun b => some (!b)) hc349) rfl rfl (v := V.ptr [2] 0 0) (.fn rfl) ?_
    refine SafeOps.quiet0 E_good (congrArg (fun b => some (!b)) hc349) rfl rfl (v := V.int .i64 a0_345.At) (.load rfl rfl (.box rfl rfl) rfl) ?_
    refine SafeOps.quiet0 E_good (congrArg (fun b => some (!b)) hc349) rfl rfl (v := V.ptr [3] 0 0) (.fn rfl) ?_
    refine SafeOps.quiet0 E_good (congrArg (fun b => some (!b)) hc349) rfl rfl (v := V.int .i64 a1_346.At) (.load rfl rfl (.box rfl rfl) rfl) ?_
    refine SafeOps.quiet0 E_good (congrArg (fun b => some (!b)) hc349) rfl rfl (v := V.bool (a0_345.At == a1_346.At)) (.fn rfl) ?_
    refine SafeOps.quiet0 E_good (congrArg (fun b => some (!b)) hc349) rfl rfl (v := V.bool (a0_345.At == a1_346.At)) (.fn rfl) ?_
    refine SafeOps.bjoin 6 22 (b := ((a0_345.At == a1_346.At) && (decide (a0_345.Id < a1_346.Id)))) (b1 := decide (a0_345.Id < a1_346.Id)) (b0 := false) (fun hc350 K => ?_) (fun hc350 K => ?_) bj_and ?_
    · skip
      refine SafeOps.quiet0 E_good (congrArg some hc350) rfl rfl (v := V.ptr [2] 0 1) (.fn rfl) ?_
      refine SafeOps.quiet0 E_good (congrArg some hc350) rfl rfl (v := V.int .i64 a0_345.Id) (.load rfl rfl (.box rfl rfl) rfl) ?_
      refine SafeOps.quiet0 E_good (congrArg some hc350) rfl rfl (v := V.ptr [3] 0 1) (.fn rfl) ?_
      refine SafeOps.quiet0 E_good (congrArg some hc350) rfl rfl (v := V.int .i64 a1_346.Id) (.load rfl rfl (.box rfl rfl) rfl) ?_
      refine SafeOps.quiet0 E_good (congrArg some hc350) rfl rfl (v := V.bool (decide (a0_345.Id < a1_346.Id))) (.fn rfl) ?_
      refine SafeOps.quiet0 E_good (congrArg (fun b => some (!b)) hc349) rfl rfl (v := V.bool (decide (a0_345.Id < a1_346.Id))) (.pickK rfl hc350 rfl) ?_
      exact SafeOps.drop' 6 rfl rfl rfl K
    · skip
      refine SafeOps.skip (congrArg some hc350) rfl rfl ?_
      refine SafeOps.skip (congrArg some hc350) rfl rfl ?_
      refine SafeOps.skip (congrArg some hc350) rfl rfl ?_
      refine SafeOps.skip (congrArg some hc350) rfl rfl ?_
      refine SafeOps.skip (congrArg some hc350) rfl rfl ?_
      refine SafeOps.quiet0 E_good (congrArg (fun b => some (!b)) hc349) rfl rfl (v := V.bool false) (.pickK rfl hc350 rfl) ?_
      exact SafeOps.drop' 6 rfl rfl rfl K
    refine SafeOps.quiet0 E_good rfl rfl rfl (v := V.bool ((a0_345.At == a1_346.At) && (decide (a0_345.Id < a1_346.Id)))) (.pickK rfl hc349 rfl) ?_
    exact SafeOps.drop' 8 rfl rfl rfl K
  refine SafeOps.quiet0 E_good rfl rfl rfl (v := V.bool ((decide (a0_345.At < a1_346.At)) || ((a0_345.At == a1_346.At) && (decide (a0_345.Id < a1_346.Id))))) (.fn rfl) ?_
  refine SafeOps.nil ?_
  repeat (first | refine Safe.seq ?_ | refine Safe.skip ?_ | with_reducible refine thenQ.n ?_ | with_reducible refine blockQ.n ?_)
  refine Safe.ret ?_
  repeat (first | with_reducible refine thenQ.r ?_ | with_reducible refine blockQ.r ?_)
  obtain rfl := h
  exact retQ.gen (vs := [V.bool ((decide (a0_345.At < a1_346.At)) || ((a0_345.At == a1_346.At) && (decide (a0_345.Id < a1_346.Id))))]) rfl (.tmp (v := V.bool ((decide (a0_345.At < a1_346.At)) || ((a0_345.At == a1_346.At) && (decide (a0_345.Id < a1_346.Id))))) rfl .nil) (.free rfl) (by simp) (.inr rfl)

noncomputable def go_ravelref08_Check_s5 (a0_314 : List api_Timer) (v12_462 : Int) : (Int) → Option ((Int) ⊕ ((Int) ⊕ (Int)))
  | v38_478 =>
    if (decide (v38_478 < ((sub a0_314 0 v12_462).length : Int))) = true then
      if 0 ≤ v38_478 ∧ v38_478 < ((sub a0_314 0 v12_462).length : Int) then
        if (((gt (sub a0_314 0 v12_462) v38_478).Id) == ((gt a0_314 v12_462).Id)) = true then
          inrO (
            inrO (
              some 1))
        else
          nextO (IntKind.i64.wrap (v38_478 + 1))
      else none
    else
      inrO (
        nextO (IntKind.i64.wrap (v12_462 + 1)))

noncomputable def go_ravelref08_Check_s6 (a0_314 : List api_Timer) (v12_462 : Int) : (Int) → Option ((Int) ⊕ ((Int) ⊕ (Int)))
  | v38_491 =>
    if (decide (v38_491 < ((sub a0_314 0 v12_462).length : Int))) = true then
      if 0 ≤ v38_491 ∧ v38_491 < ((sub a0_314 0 v12_462).length : Int) then
        if (((gt (sub a0_314 0 v12_462) v38_491).Id) == ((gt a0_314 v12_462).Id)) = true then
          inrO (
            inrO (
              some 1))
        else
          nextO (IntKind.i64.wrap (v38_491 + 1))
      else none
    else
      inrO (
        nextO (IntKind.i64.wrap (v12_462 + 1)))

noncomputable def go_ravelref08_Check_s4 (a0_314 : List api_Timer) : (Int) → Option ((Int) ⊕ (Int))
  | v12_462 =>
    if (decide (v12_462 < (a0_314.length : Int))) = true then
      if 0 ≤ v12_462 ∧ v12_462 < (a0_314.length : Int) then
        if (!(go_ravelref08_may (gt a0_314 v12_462))) = true then
          inrO (
            some 1)
        else
          if (decide (v12_462 > 0)) = true then
            if 0 ≤ (IntKind.i64.wrap (Int.tdiv (IntKind.i64.wrap (v12_462 - 1)) 4)) ∧ (IntKind.i64.wrap (Int.tdiv (IntKind.i64.wrap (v12_462 - 1)) 4)) < (a0_314.length : Int) then
              if (go_ravelref08_Less (gt a0_314 v12_462) (gt a0_314 (IntKind.i64.wrap (Int.tdiv (IntKind.i64.wrap (v12_462 - 1)) 4)))) = true then
                inrO (
                  some 1)
              else
                if 0 ≤ v12_462 ∧ v12_462 ≤ (a0_314.length : Int) then
                  whileO (go_ravelref08_Check_s5 a0_314 v12_462) 0
                else none
            else none
          else
            if 0 ≤ v12_462 ∧ v12_462 ≤ (a0_314.length : Int) then
              whileO (go_ravelref08_Check_s6 a0_314 v12_462) 0
            else none
      else none
    else
      inrO (
        some 0)

noncomputable def go_ravelref08_Check (a0_314 : List api_Timer) : Option Int :=
  if (decide ((a0_314.length : Int) > 256)) = true then
    some 1
  else
    whileO (go_ravelref08_Check_s4 a0_314) 0

noncomputable def go_ravelref08_at_s1 (a0_500 : List api_Timer) (a1_501 : Int) : (Int) → Option ((Int) ⊕ (Int))
  | v9_522 =>
    if (decide (v9_522 < (a0_500.length : Int))) = true then
      if 0 ≤ v9_522 ∧ v9_522 < (a0_500.length : Int) then
        if (((gt a0_500 v9_522).Id) == a1_501) = true then
          inrO (
            some v9_522)
        else
          nextO (IntKind.i64.wrap (v9_522 + 1))
      else none
    else
      inrO (
        some (-1))

noncomputable def go_ravelref08_at (a0_500 : List api_Timer) (a1_501 : Int) : Option Int :=
  whileO (go_ravelref08_at_s1 a0_500 a1_501) 0

noncomputable def go_ravelref08_with_s3 (a0_535 : List api_Timer) (a1_536 : api_Timer) : ((List api_Timer) × Int) → Option (((List api_Timer) × Int) ⊕ (List api_Timer))
  | (v5_635, v31_636) =>
    if (decide (v31_636 < (a0_535.length : Int))) = true then
      if 0 ≤ v31_636 ∧ v31_636 < (a0_535.length : Int) then
        if (go_ravelref08_Less a1_536 (gt a0_535 v31_636)) = true then
          if few (v5_635 ++ [(gt a0_535 v31_636)]).length then
            nextO (v5_635 ++ [(gt a0_535 v31_636)], IntKind.i64.wrap (v31_636 + 1))
          else none
        else
          nextO (v5_635, IntKind.i64.wrap (v31_636 + 1))
      else none
    else
      inrO (
        some v5_635)

noncomputable def go_ravelref08_with_s2 (a0_535 : List api_Timer) (a1_536 : api_Timer) : ((List api_Timer) × Int) → Option (((List api_Timer) × Int) ⊕ (List api_Timer))
  | (v5_617, v12_618) =>
    if (decide (v12_618 < (a0_535.length : Int))) = true then
      if 0 ≤ v12_618 ∧ v12_618 < (a0_535.length : Int) then
        if (!(go_ravelref08_Less a1_536 (gt a0_535 v12_618))) = true then
          if few (v5_617 ++ [(gt a0_535 v12_618)]).length then
            nextO (v5_617 ++ [(gt a0_535 v12_618)], IntKind.i64.wrap (v12_618 + 1))
          else none
        else
          nextO (v5_617, IntKind.i64.wrap (v12_618 + 1))
      else none
    else
      inrO (
        if few (v5_617 ++ [a1_536]).length then
          whileO (go_ravelref08_with_s3 a0_535 a1_536) (v5_617 ++ [a1_536], 0)
        else none)

noncomputable def go_ravelref08_with (a0_535 : List api_Timer) (a1_536 : api_Timer) : Option (List api_Timer) :=
  whileO (go_ravelref08_with_s2 a0_535 a1_536) ([], 0)

noncomputable def go_ravelref08_Order_s1 (a0_531 : List api_Timer) : ((List api_Timer) × Int) → Option (((List api_Timer) × Int) ⊕ (List api_Timer))
  | (v3_667, v8_668) =>
    if (decide (v8_668 < (a0_531.length : Int))) = true then
      if 0 ≤ v8_668 ∧ v8_668 < (a0_531.length : Int) then
        (go_ravelref08_with v3_667 (gt a0_531 v8_668)).bind fun x_672 =>
        nextO (x_672, IntKind.i64.wrap (v8_668 + 1))
      else none
    else
      inrO (
        some v3_667)

noncomputable def go_ravelref08_Order (a0_531 : List api_Timer) : Option (List api_Timer) :=
  whileO (go_ravelref08_Order_s1 a0_531) ([], 0)

end Go.Proofs.Ytbcapidhhbkkcaa
