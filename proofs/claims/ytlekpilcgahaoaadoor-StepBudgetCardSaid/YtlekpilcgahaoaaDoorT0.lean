/- Helper lemmas for the claim's theorem: an abstract machine over the model, proved sound; no condition beyond each lemma's own. -/
import Derived.Test.YtlekpilcgahaoaaDoorSEnv
set_option linter.unusedVariables false
set_option linter.unusedSimpArgs false
set_option linter.unnecessarySimpa false
set_option linter.unusedSectionVars false
namespace Go.Proofs.YtlekpilcgahaoaaDoor
open Go Go.AM
set_option maxRecDepth 100000
set_option maxHeartbeats 1000000
set_option linter.unusedVariables false
set_option linter.unusedSimpArgs false
@[ext] structure api_Instr where
  Op : Int
  A : Int
  B : Int
  deriving Inhabited
def api_Instr.cells (x : api_Instr) : List V := [V.int .i64 x.Op, V.int .i64 x.A, V.int .i64 x.B]
def api_Instr.zero : api_Instr := ⟨0, 0, 0⟩
def api_Instr.beq (x y : api_Instr) : Bool := ((x.Op == y.Op) && ((x.A == y.A) && ((x.B == y.B) && true)))

@[ext] structure A4_Int where
  a0 : Int
  a1 : Int
  a2 : Int
  a3 : Int
  deriving Inhabited
def A4_Int.cells (x : A4_Int) : List V := [V.int .i64 x.a0, V.int .i64 x.a1, V.int .i64 x.a2, V.int .i64 x.a3]
def A4_Int.zero : A4_Int := ⟨0, 0, 0, 0⟩
def A4_Int.beq (x y : A4_Int) : Bool := ((x.a0 == y.a0) && ((x.a1 == y.a1) && ((x.a2 == y.a2) && ((x.a3 == y.a3) && true))))

@[ext] structure api_Task where
  Id : Int
  Tenant : Int
  Prog : Int
  Pc : Int
  Unit : Int
  Keeps : A4_Int
  State : Int
  Ran : Int
  deriving Inhabited
def api_Task.cells (x : api_Task) : List V := [V.int .i64 x.Id, V.int .i64 x.Tenant, V.int .i64 x.Prog, V.int .i64 x.Pc, V.int .i64 x.Unit, V.int .i64 x.Keeps.a0, V.int .i64 x.Keeps.a1, V.int .i64 x.Keeps.a2, V.int .i64 x.Keeps.a3, V.int .i64 x.State, V.int .i64 x.Ran]
def api_Task.zero : api_Task := ⟨0, 0, 0, 0, 0, ⟨0, 0, 0, 0⟩, 0, 0⟩
def api_Task.beq (x y : api_Task) : Bool := ((x.Id == y.Id) && ((x.Tenant == y.Tenant) && ((x.Prog == y.Prog) && ((x.Pc == y.Pc) && ((x.Unit == y.Unit) && (((x.Keeps.a0 == y.Keeps.a0) && ((x.Keeps.a1 == y.Keeps.a1) && ((x.Keeps.a2 == y.Keeps.a2) && ((x.Keeps.a3 == y.Keeps.a3) && true)))) && ((x.State == y.State) && ((x.Ran == y.Ran) && true))))))))

def go_life_below (a0_9 : Int) (a1_10 : Int) : Bool :=
  ((decide (a0_9 ≥ 0)) && (decide (a0_9 < a1_10)))

theorem go_life_below_sc (a0_9 : Int) (a1_10 : Int) (r : Bool) (h : go_life_below a0_9 a1_10 = r) : SC Tryd.prog gl 26 [V.int .i64 a0_9, V.int .i64 a1_10] (V.bool r) := by
  rw [go_life_below] at h
  refine SC.of E_good Tryd.func26 rfl (fun _ _ => Tryd.call26 _ _) rfl ?_
  repeat (first | refine Safe.seq ?_ | refine Safe.skip ?_ | with_reducible refine thenQ.n ?_ | with_reducible refine blockQ.n ?_)
  refine Safe.region ?_
  refine SafeOps.quiet0 E_good rfl rfl rfl (v := V.bool false) (.fn rfl) ?_
  refine SafeOps.nil ?_
  repeat (first | refine Safe.seq ?_ | refine Safe.skip ?_ | with_reducible refine thenQ.n ?_ | with_reducible refine blockQ.n ?_)
  refine Safe.region ?_
  refine SafeOps.quiet0 E_good rfl rfl rfl (v := V.int .i64 a0_9) (.fn rfl) ?_
  refine SafeOps.quiet0 E_good rfl rfl rfl (v := V.bool (decide (a0_9 ≥ 0))) (.fn rfl) ?_
  refine SafeOps.quiet0 E_good rfl rfl rfl (v := V.bool (decide (a0_9 ≥ 0))) (.fn rfl) ?_
  refine SafeOps.bjoin 4 11 (b := ((decide (a0_9 ≥ 0)) && (decide (a0_9 < a1_10)))) (b1 := decide (a0_9 < a1_10)) (b0 := false) (fun hc12 K => ?_) (fun hc12 K => ?_) bj_and ?_
  · skip
    refine SafeOps.quiet0 E_good (congrArg some hc12) rfl rfl (v := V.int .i64 a0_9) (.fn rfl) ?_
    refine SafeOps.quiet0 E_good (congrArg some hc12) rfl rfl (v := V.int .i64 a1_10) (.fn rfl) ?_
    refine SafeOps.quiet0 E_good (congrArg some hc12) rfl rfl (v := V.bool (decide (a0_9 < a1_10))) (.fn rfl) ?_
    refine SafeOps.quiet0 E_good rfl rfl rfl (v := V.bool (decide (a0_9 < a1_10))) (.pickK rfl hc12 rfl) ?_
    exact SafeOps.drop' 4 rfl rfl rfl K
  · skip
    refine SafeOps.skip (congrArg some hc12) rfl rfl ?_
    refine SafeOps.skip (congrArg some hc12) rfl rfl ?_
    refine SafeOps.skip (congrArg some hc12) rfl rfl ?_
    refine SafeOps.quiet0 E_good rfl rfl rfl (v := V.bool false) (.pickK rfl hc12 rfl) ?_
    exact SafeOps.drop' 4 rfl rfl rfl K
  refine SafeOps.quiet0 E_good rfl rfl rfl (v := V.bool ((decide (a0_9 ≥ 0)) && (decide (a0_9 < a1_10)))) (.fn rfl) ?_
  refine SafeOps.nil ?_
  repeat (first | refine Safe.seq ?_ | refine Safe.skip ?_ | with_reducible refine thenQ.n ?_ | with_reducible refine blockQ.n ?_)
  refine Safe.ret ?_
  repeat (first | with_reducible refine thenQ.r ?_ | with_reducible refine blockQ.r ?_)
  obtain rfl := h
  exact retQ.gen (vs := [V.bool ((decide (a0_9 ≥ 0)) && (decide (a0_9 < a1_10)))]) rfl (.tmp (v := V.bool ((decide (a0_9 ≥ 0)) && (decide (a0_9 < a1_10)))) rfl .nil) (.free rfl) (by simp) (.inr rfl)

def go_life_state (a0_17 : Int) : Bool :=
  ((decide (a0_17 ≥ 1)) && (decide (a0_17 ≤ 7)))

theorem go_life_state_sc (a0_17 : Int) (r : Bool) (h : go_life_state a0_17 = r) : SC Tryd.prog gl 27 [V.int .i64 a0_17] (V.bool r) := by
  rw [go_life_state] at h
  refine SC.of E_good Tryd.func27 rfl (fun _ _ => Tryd.call27 _ _) rfl ?_
  repeat (first | refine Safe.seq ?_ | refine Safe.skip ?_ | with_reducible refine thenQ.n ?_ | with_reducible refine blockQ.n ?_)
  refine Safe.region ?_
  refine SafeOps.quiet0 E_good rfl rfl rfl (v := V.bool false) (.fn rfl) ?_
  refine SafeOps.nil ?_
  repeat (first | refine Safe.seq ?_ | refine Safe.skip ?_ | with_reducible refine thenQ.n ?_ | with_reducible refine blockQ.n ?_)
  refine Safe.region ?_
  refine SafeOps.quiet0 E_good rfl rfl rfl (v := V.int .i64 a0_17) (.fn rfl) ?_
  refine SafeOps.quiet0 E_good rfl rfl rfl (v := V.bool (decide (a0_17 ≥ 1))) (.fn rfl) ?_
  refine SafeOps.quiet0 E_good rfl rfl rfl (v := V.bool (decide (a0_17 ≥ 1))) (.fn rfl) ?_
  refine SafeOps.bjoin 3 8 (b := ((decide (a0_17 ≥ 1)) && (decide (a0_17 ≤ 7)))) (b1 := decide (a0_17 ≤ 7)) (b0 := false) (fun hc19 K => ?_) (fun hc19 K => ?_) bj_and ?_
  · skip
    refine SafeOps.quiet0 E_good (congrArg some hc19) rfl rfl (v := V.int .i64 a0_17) (.fn rfl) ?_
    refine SafeOps.quiet0 E_good (congrArg some hc19) rfl rfl (v := V.bool (decide (a0_17 ≤ 7))) (.fn rfl) ?_
    refine SafeOps.quiet0 E_good rfl rfl rfl (v := V.bool (decide (a0_17 ≤ 7))) (.pickK rfl hc19 rfl) ?_
    exact SafeOps.drop' 3 rfl rfl rfl K
  · skip
    refine SafeOps.skip (congrArg some hc19) rfl rfl ?_
    refine SafeOps.skip (congrArg some hc19) rfl rfl ?_
    refine SafeOps.quiet0 E_good rfl rfl rfl (v := V.bool false) (.pickK rfl hc19 rfl) ?_
    exact SafeOps.drop' 3 rfl rfl rfl K
  refine SafeOps.quiet0 E_good rfl rfl rfl (v := V.bool ((decide (a0_17 ≥ 1)) && (decide (a0_17 ≤ 7)))) (.fn rfl) ?_
  refine SafeOps.nil ?_
  repeat (first | refine Safe.seq ?_ | refine Safe.skip ?_ | with_reducible refine thenQ.n ?_ | with_reducible refine blockQ.n ?_)
  refine Safe.ret ?_
  repeat (first | with_reducible refine thenQ.r ?_ | with_reducible refine blockQ.r ?_)
  obtain rfl := h
  exact retQ.gen (vs := [V.bool ((decide (a0_17 ≥ 1)) && (decide (a0_17 ≤ 7)))]) rfl (.tmp (v := V.bool ((decide (a0_17 ≥ 1)) && (decide (a0_17 ≤ 7)))) rfl .nil) (.free rfl) (by simp) (.inr rfl)

noncomputable def go_slices_Min_int64_int64_s1 (a0_23 : List Int) : (Int × Int) → Option ((Int × Int) ⊕ (Int))
  | (v3_45, v4_46) =>
    if (decide (v4_46 < (a0_23.length : Int))) = true then
      if 0 ≤ v4_46 ∧ v4_46 < (a0_23.length : Int) then
        nextO ((if (gt a0_23 v4_46) < v3_45 then (gt a0_23 v4_46) else v3_45), IntKind.i64.wrap (v4_46 + 1))
      else none
    else
      inrO (
        some v3_45)

noncomputable def go_slices_Min_int64_int64 (a0_23 : List Int) : Option Int :=
  if (decide ((a0_23.length : Int) < 1)) = true then
    none
  else
    if 0 ≤ (0 : Int) ∧ (0 : Int) < (a0_23.length : Int) then
      whileO (go_slices_Min_int64_int64_s1 a0_23) ((gt a0_23 0), 1)
    else none

theorem go_slices_Min_int64_int64_sc (a0_23 : List Int) (r : Int) (h : go_slices_Min_int64_int64 a0_23 = some r) : SC Tryd.prog gl 28 [V.sl 1 (rws (fun n => [V.int .i64 n]) a0_23)] (V.int .i64 r) := by
  rw [go_slices_Min_int64_int64] at h
  refine SC.of E_good Tryd.func28 rfl (fun _ _ => Tryd.call28 _ _) rfl ?_
  repeat (first | refine Safe.seq ?_ | refine Safe.skip ?_ | with_reducible refine thenQ.n ?_ | with_reducible refine blockQ.n ?_)
  refine Safe.region ?_
  refine SafeOps.quiet0 E_good rfl rfl rfl (v := V.int .i64 0) (.fn rfl) ?_
  refine SafeOps.nil ?_
  repeat (first | refine Safe.seq ?_ | refine Safe.skip ?_ | with_reducible refine thenQ.n ?_ | with_reducible refine blockQ.n ?_)
  refine Safe.region ?_
  refine SafeOps.quiet0 E_good rfl rfl rfl (v := V.sl 1 (rws (fun n => [V.int .i64 n]) a0_23)) (.fn rfl) ?_
  refine SafeOps.quiet0 E_good rfl rfl rfl (v := V.int .i64 (a0_23.length : Int)) (.fnE rfl lenE) ?_
  refine SafeOps.quiet0 E_good rfl rfl rfl (v := V.bool (decide ((a0_23.length : Int) < 1))) (.fn rfl) ?_
  refine SafeOps.nil ?_
  repeat (first | refine Safe.seq ?_ | refine Safe.skip ?_ | with_reducible refine thenQ.n ?_ | with_reducible refine blockQ.n ?_)
  refine ifG h (fun hc37 h => ?_) (fun hc37 h => ?_)
  · skip
    refine Safe.condK rfl hc37 ?_
    repeat (first | refine Safe.seq ?_ | refine Safe.skip ?_ | with_reducible refine thenQ.n ?_ | with_reducible refine blockQ.n ?_)
    refine Safe.region ?_
    cases h
  · skip
    refine Safe.condN rfl hc37 ?_
    repeat (first | refine Safe.seq ?_ | refine Safe.skip ?_ | with_reducible refine thenQ.n ?_ | with_reducible refine blockQ.n ?_)
    refine Safe.region ?_
    refine SafeOps.quiet0 E_good rfl rfl rfl (v := V.sl 1 (rws (fun n => [V.int .i64 n]) a0_23)) (.fn rfl) ?_
    refine okG h (fun hb38 h => ?_)
    refine SafeOps.quiet0 E_good rfl rfl rfl (v := V.spt 1 (rws (fun n => [V.int .i64 n]) a0_23) (Int.toNat 0) 0) (.idxSlM (f := (fun n => [V.int .i64 n])) rfl rfl rfl rfl rfl hb38) ?_
    refine SafeOps.quiet0 E_good rfl rfl rfl (v := V.int .i64 (gt a0_23 0)) (.load rfl rfl (.sptM (f := (fun n => [V.int .i64 n])) hb38 rfl) rfl) ?_
    refine SafeOps.quiet0 E_good rfl rfl rfl (v := V.int .i64 (gt a0_23 0)) (.fn rfl) ?_
    refine SafeOps.nil ?_
    repeat (first | refine Safe.seq ?_ | refine Safe.skip ?_ | with_reducible refine thenQ.n ?_ | with_reducible refine blockQ.n ?_)
    refine Safe.region ?_
    refine SafeOps.quiet0 E_good rfl rfl rfl (v := V.int .i64 1) (.fn rfl) ?_
    refine SafeOps.nil ?_
    repeat (first | refine Safe.seq ?_ | refine Safe.skip ?_ | with_reducible refine thenQ.n ?_ | with_reducible refine blockQ.n ?_)
    refine Safe.block ?_
    repeat (first | refine Safe.seq ?_ | refine Safe.skip ?_ | with_reducible refine thenQ.n ?_ | with_reducible refine blockQ.n ?_)
    refine Safe.loopW (fun ((v3_45, v4_46) : Int × Int) => ⟨Tryd.f28.ntmps, [(0, V.sl 1 (rws (fun n => [V.int .i64 n]) a0_23)), (3, V.int .i64 v3_45), (4, V.int .i64 v4_46)], [], [], []⟩) h (.cov ⟨rfl, rfl, (upT_cons (.refl _) (upT_cons (.refl _) (upT_cons (.refl _) upT_nil))), upOb_nil, upOut_nil, rfl⟩) ?_
    rintro ⟨v3_45, v4_46⟩ ohr47 h hr47
    replace h : go_slices_Min_int64_int64_s1 a0_23 (v3_45, v4_46) = some ohr47 := h
    rw [go_slices_Min_int64_int64_s1] at h
    repeat (first | refine Safe.seq ?_ | refine Safe.skip ?_ | with_reducible refine thenQ.n ?_ | with_reducible refine blockQ.n ?_)
    refine Safe.region ?_
    refine SafeOps.quiet0 E_good rfl rfl rfl (v := V.int .i64 v4_46) (.fn rfl) ?_
    refine SafeOps.quiet0 E_good rfl rfl rfl (v := V.sl 1 (rws (fun n => [V.int .i64 n]) a0_23)) (.fn rfl) ?_
    refine SafeOps.quiet0 E_good rfl rfl rfl (v := V.int .i64 (a0_23.length : Int)) (.fnE rfl lenE) ?_
    refine SafeOps.quiet0 E_good rfl rfl rfl (v := V.bool (decide (v4_46 < (a0_23.length : Int)))) (.fn rfl) ?_
    refine SafeOps.nil ?_
    repeat (first | refine Safe.seq ?_ | refine Safe.skip ?_ | with_reducible refine thenQ.n ?_ | with_reducible refine blockQ.n ?_)
    refine ifG h (fun hc48 h => ?_) (fun hc48 h => ?_)
    · skip
      refine Safe.condK rfl hc48 ?_
      repeat (first | refine Safe.seq ?_ | refine Safe.skip ?_ | with_reducible refine thenQ.n ?_ | with_reducible refine blockQ.n ?_)
      refine Safe.block ?_
      repeat (first | refine Safe.seq ?_ | refine Safe.skip ?_ | with_reducible refine thenQ.n ?_ | with_reducible refine blockQ.n ?_)
      refine Safe.region ?_
      refine SafeOps.quiet0 E_good rfl rfl rfl (v := V.int .i64 v3_45) (.fn rfl) ?_
      refine SafeOps.quiet0 E_good rfl rfl rfl (v := V.sl 1 (rws (fun n => [V.int .i64 n]) a0_23)) (.fn rfl) ?_
      refine SafeOps.quiet0 E_good rfl rfl rfl (v := V.int .i64 v4_46) (.fn rfl) ?_
      refine okG h (fun hb49 h => ?_)
      refine SafeOps.quiet0 E_good rfl rfl rfl (v := V.spt 1 (rws (fun n => [V.int .i64 n]) a0_23) (Int.toNat v4_46) 0) (.idxSlM (f := (fun n => [V.int .i64 n])) rfl rfl rfl rfl rfl hb49) ?_
      refine SafeOps.quiet0 E_good rfl rfl rfl (v := V.int .i64 (gt a0_23 v4_46)) (.load rfl rfl (.sptM (f := (fun n => [V.int .i64 n])) hb49 rfl) rfl) ?_
      refine SafeOps.quiet0 E_good rfl rfl rfl (v := V.int .i64 (if (gt a0_23 v4_46) < v3_45 then (gt a0_23 v4_46) else v3_45)) (.fn rfl) ?_
      refine SafeOps.quiet0 E_good rfl rfl rfl (v := V.int .i64 (if (gt a0_23 v4_46) < v3_45 then (gt a0_23 v4_46) else v3_45)) (.fn rfl) ?_
      refine SafeOps.nil ?_
      repeat (first | refine Safe.seq ?_ | refine Safe.skip ?_ | with_reducible refine thenQ.n ?_ | with_reducible refine blockQ.n ?_)
      refine Safe.region ?_
      refine SafeOps.quiet0 E_good rfl rfl rfl (v := V.int .i64 v4_46) (.fn rfl) ?_
      refine SafeOps.quiet0 E_good rfl rfl rfl (v := V.int .i64 (IntKind.i64.wrap (v4_46 + 1))) (.fn rfl) ?_
      refine SafeOps.quiet0 E_good rfl rfl rfl (v := V.int .i64 (IntKind.i64.wrap (v4_46 + 1))) (.fn rfl) ?_
      refine SafeOps.nil ?_
      repeat (first | refine Safe.seq ?_ | refine Safe.skip ?_ | with_reducible refine thenQ.n ?_ | with_reducible refine blockQ.n ?_)
      exact ⟨_, next_out h, (.cov ⟨rfl, rfl, (upT_cons (.refl _) (upT_cons (.refl _) (upT_cons (.refl _) upT_nil))), upOb_nil, upOut_nil, rfl⟩)⟩
    · skip
      refine Safe.condN rfl hc48 ?_
      repeat (first | refine Safe.seq ?_ | refine Safe.skip ?_ | with_reducible refine thenQ.n ?_ | with_reducible refine blockQ.n ?_)
      refine Safe.exit ?_
      repeat (first | with_reducible refine thenQ.e ?_ | with_reducible refine blockQ.x rfl ?_ | with_reducible refine blockQ.y rfl ?_)
      replace h := inr_out h hr47
      repeat (first | refine Safe.seq ?_ | refine Safe.skip ?_ | with_reducible refine thenQ.n ?_ | with_reducible refine blockQ.n ?_)
      refine Safe.region ?_
      refine SafeOps.quiet0 E_good rfl rfl rfl (v := V.int .i64 v3_45) (.fn rfl) ?_
      refine SafeOps.quiet0 E_good rfl rfl rfl (v := V.int .i64 v3_45) (.fn rfl) ?_
      refine SafeOps.nil ?_
      repeat (first | refine Safe.seq ?_ | refine Safe.skip ?_ | with_reducible refine thenQ.n ?_ | with_reducible refine blockQ.n ?_)
      refine Safe.ret ?_
      repeat (first | with_reducible refine thenQ.r ?_ | with_reducible refine blockQ.r ?_)
      obtain rfl := Option.some.inj h
      exact retQ.gen (vs := [V.int .i64 v3_45]) rfl (.tmp (v := V.int .i64 v3_45) rfl .nil) (.free rfl) (by simp) (.inr rfl)

noncomputable def go_life_Check (a0_7 : api_Task) : Option Int :=
  if (!((((((((decide (a0_7.Id ≥ 0)) && (go_life_below a0_7.Tenant 16)) && (go_life_below a0_7.Prog 16)) && (go_life_below a0_7.Pc 33)) && (go_life_below a0_7.Unit 100)) && (go_life_state a0_7.State)) && (decide (a0_7.Ran ≥ 0))) && (decide (a0_7.Ran ≤ 1099511627776)))) = true then
    some 1
  else
    (go_slices_Min_int64_int64 [a0_7.Keeps.a0, a0_7.Keeps.a1, a0_7.Keeps.a2, a0_7.Keeps.a3]).bind fun x_574 =>
    if (decide (x_574 < (-1))) = true then
      some 1
    else
      some 0

theorem go_life_Check_sc (a0_7 : api_Task) (r : Int) (h : go_life_Check a0_7 = some r) : SC Tryd.prog gl 15 [V.agg [V.int .i64 a0_7.Id, V.int .i64 a0_7.Tenant, V.int .i64 a0_7.Prog, V.int .i64 a0_7.Pc, V.int .i64 a0_7.Unit, V.int .i64 a0_7.Keeps.a0, V.int .i64 a0_7.Keeps.a1, V.int .i64 a0_7.Keeps.a2, V.int .i64 a0_7.Keeps.a3, V.int .i64 a0_7.State, V.int .i64 a0_7.Ran]] (V.int .i64 r) := by
  rw [go_life_Check] at h
  refine SC.of E_good Tryd.func15 rfl (fun _ _ => Tryd.call15 _ _) rfl ?_
  repeat (first | refine Safe.seq ?_ | refine Safe.skip ?_ | with_reducible refine thenQ.n ?_ | with_reducible refine blockQ.n ?_)
  refine Safe.region ?_
  refine SafeOps.quiet1 E_good rfl rfl rfl (.box rfl rfl) rfl ?_
  refine SafeOps.quiet0 E_good rfl rfl rfl (v := V.int .i64 0) (.fn rfl) ?_
  refine SafeOps.nil ?_
  repeat (first | refine Safe.seq ?_ | refine Safe.skip ?_ | with_reducible refine thenQ.n ?_ | with_reducible refine blockQ.n ?_)
  refine Safe.region ?_
  refine SafeOps.quiet0 E_good rfl rfl rfl (v := V.ptr [1] 0 0) (.fn rfl) ?_
  refine SafeOps.quiet0 E_good rfl rfl rfl (v := V.int .i64 a0_7.Id) (.load rfl rfl (.box rfl rfl) rfl) ?_
  refine SafeOps.quiet0 E_good rfl rfl rfl (v := V.bool (decide (a0_7.Id ≥ 0))) (.fn rfl) ?_
  refine SafeOps.quiet0 E_good rfl rfl rfl (v := V.bool (decide (a0_7.Id ≥ 0))) (.fn rfl) ?_
  refine SafeOps.bjoin 4 11 (b := ((decide (a0_7.Id ≥ 0)) && (go_life_below a0_7.Tenant 16))) (b1 := go_life_below a0_7.Tenant 16) (b0 := false) (fun hc564 K => ?_) (fun hc564 K => ?_) bj_and ?_
  · skip
    refine SafeOps.quiet0 E_good (congrArg some hc564) rfl rfl (v := V.ptr [1] 0 1) (.fn rfl) ?_
    refine SafeOps.quiet0 E_good (congrArg some hc564) rfl rfl (v := V.int .i64 a0_7.Tenant) (.load rfl rfl (.box rfl rfl) rfl) ?_
    refine SafeOps.quiet0 E_good (congrArg some hc564) rfl rfl (v := V.bool (go_life_below a0_7.Tenant 16)) (.callP rfl rfl (go_life_below_sc a0_7.Tenant 16 _ rfl) rfl) ?_
    refine SafeOps.quiet0 E_good rfl rfl rfl (v := V.bool (go_life_below a0_7.Tenant 16)) (.pickK rfl hc564 rfl) ?_
    exact SafeOps.drop' 4 rfl rfl rfl K
  · skip
    refine SafeOps.skip (congrArg some hc564) rfl rfl ?_
    refine SafeOps.skip (congrArg some hc564) rfl rfl ?_
    refine SafeOps.skip (congrArg some hc564) rfl rfl ?_
    refine SafeOps.quiet0 E_good rfl rfl rfl (v := V.bool false) (.pickK rfl hc564 rfl) ?_
    exact SafeOps.drop' 4 rfl rfl rfl K
  refine SafeOps.quiet0 E_good rfl rfl rfl (v := V.bool ((decide (a0_7.Id ≥ 0)) && (go_life_below a0_7.Tenant 16))) (.fn rfl) ?_
  refine SafeOps.bjoin 4 16 (b := (((decide (a0_7.Id ≥ 0)) && (go_life_below a0_7.Tenant 16)) && (go_life_below a0_7.Prog 16))) (b1 := go_life_below a0_7.Prog 16) (b0 := false) (fun hc565 K => ?_) (fun hc565 K => ?_) bj_and ?_
  · skip
    refine SafeOps.quiet0 E_good (congrArg some hc565) rfl rfl (v := V.ptr [1] 0 2) (.fn rfl) ?_
    refine SafeOps.quiet0 E_good (congrArg some hc565) rfl rfl (v := V.int .i64 a0_7.Prog) (.load rfl rfl (.box rfl rfl) rfl) ?_
    refine SafeOps.quiet0 E_good (congrArg some hc565) rfl rfl (v := V.bool (go_life_below a0_7.Prog 16)) (.callP rfl rfl (go_life_below_sc a0_7.Prog 16 _ rfl) rfl) ?_
    refine SafeOps.quiet0 E_good rfl rfl rfl (v := V.bool (go_life_below a0_7.Prog 16)) (.pickK rfl hc565 rfl) ?_
    exact SafeOps.drop' 4 rfl rfl rfl K
  · skip
    refine SafeOps.skip (congrArg some hc565) rfl rfl ?_
    refine SafeOps.skip (congrArg some hc565) rfl rfl ?_
    refine SafeOps.skip (congrArg some hc565) rfl rfl ?_
    refine SafeOps.quiet0 E_good rfl rfl rfl (v := V.bool false) (.pickK rfl hc565 rfl) ?_
    exact SafeOps.drop' 4 rfl rfl rfl K
  refine SafeOps.quiet0 E_good rfl rfl rfl (v := V.bool (((decide (a0_7.Id ≥ 0)) && (go_life_below a0_7.Tenant 16)) && (go_life_below a0_7.Prog 16))) (.fn rfl) ?_
  refine SafeOps.bjoin 4 21 (b := ((((decide (a0_7.Id ≥ 0)) && (go_life_below a0_7.Tenant 16)) && (go_life_below a0_7.Prog 16)) && (go_life_below a0_7.Pc 33))) (b1 := go_life_below a0_7.Pc 33) (b0 := false) (fun hc566 K => ?_) (fun hc566 K => ?_) bj_and ?_
  · skip
    refine SafeOps.quiet0 E_good (congrArg some hc566) rfl rfl (v := V.ptr [1] 0 3) (.fn rfl) ?_
    refine SafeOps.quiet0 E_good (congrArg some hc566) rfl rfl (v := V.int .i64 a0_7.Pc) (.load rfl rfl (.box rfl rfl) rfl) ?_
    refine SafeOps.quiet0 E_good (congrArg some hc566) rfl rfl (v := V.bool (go_life_below a0_7.Pc 33)) (.callP rfl rfl (go_life_below_sc a0_7.Pc 33 _ rfl) rfl) ?_
    refine SafeOps.quiet0 E_good rfl rfl rfl (v := V.bool (go_life_below a0_7.Pc 33)) (.pickK rfl hc566 rfl) ?_
    exact SafeOps.drop' 4 rfl rfl rfl K
  · skip
    refine SafeOps.skip (congrArg some hc566) rfl rfl ?_
    refine SafeOps.skip (congrArg some hc566) rfl rfl ?_
    refine SafeOps.skip (congrArg some hc566) rfl rfl ?_
    refine SafeOps.quiet0 E_good rfl rfl rfl (v := V.bool false) (.pickK rfl hc566 rfl) ?_
    exact SafeOps.drop' 4 rfl rfl rfl K
  refine SafeOps.quiet0 E_good rfl rfl rfl (v := V.bool ((((decide (a0_7.Id ≥ 0)) && (go_life_below a0_7.Tenant 16)) && (go_life_below a0_7.Prog 16)) && (go_life_below a0_7.Pc 33))) (.fn rfl) ?_
  refine SafeOps.bjoin 4 26 (b := (((((decide (a0_7.Id ≥ 0)) && (go_life_below a0_7.Tenant 16)) && (go_life_below a0_7.Prog 16)) && (go_life_below a0_7.Pc 33)) && (go_life_below a0_7.Unit 100))) (b1 := go_life_below a0_7.Unit 100) (b0 := false) (fun hc567 K => ?_) (fun hc567 K => ?_) bj_and ?_
  · skip
    refine SafeOps.quiet0 E_good (congrArg some hc567) rfl rfl (v := V.ptr [1] 0 4) (.fn rfl) ?_
    refine SafeOps.quiet0 E_good (congrArg some hc567) rfl rfl (v := V.int .i64 a0_7.Unit) (.load rfl rfl (.box rfl rfl) rfl) ?_
    refine SafeOps.quiet0 E_good (congrArg some hc567) rfl rfl (v := V.bool (go_life_below a0_7.Unit 100)) (.callP rfl rfl (go_life_below_sc a0_7.Unit 100 _ rfl) rfl) ?_
    refine SafeOps.quiet0 E_good rfl rfl rfl (v := V.bool (go_life_below a0_7.Unit 100)) (.pickK rfl hc567 rfl) ?_
    exact SafeOps.drop' 4 rfl rfl rfl K
  · skip
    refine SafeOps.skip (congrArg some hc567) rfl rfl ?_
    refine SafeOps.skip (congrArg some hc567) rfl rfl ?_
    refine SafeOps.skip (congrArg some hc567) rfl rfl ?_
    refine SafeOps.quiet0 E_good rfl rfl rfl (v := V.bool false) (.pickK rfl hc567 rfl) ?_
    exact SafeOps.drop' 4 rfl rfl rfl K
  refine SafeOps.quiet0 E_good rfl rfl rfl (v := V.bool (((((decide (a0_7.Id ≥ 0)) && (go_life_below a0_7.Tenant 16)) && (go_life_below a0_7.Prog 16)) && (go_life_below a0_7.Pc 33)) && (go_life_below a0_7.Unit 100))) (.fn rfl) ?_
  refine SafeOps.bjoin 4 31 (b := ((((((decide (a0_7.Id ≥ 0)) && (go_life_below a0_7.Tenant 16)) && (go_life_below a0_7.Prog 16)) && (go_life_below a0_7.Pc 33)) && (go_life_below a0_7.Unit 100)) && (go_life_state a0_7.State))) (b1 := go_life_state a0_7.State) (b0 := false) (fun hc568 K => ?_) (fun hc568 K => ?_) bj_and ?_
  · skip
    refine SafeOps.quiet0 E_good (congrArg some hc568) rfl rfl (v := V.ptr [1] 0 9) (.fn rfl) ?_
    refine SafeOps.quiet0 E_good (congrArg some hc568) rfl rfl (v := V.int .i64 a0_7.State) (.load rfl rfl (.box rfl rfl) rfl) ?_
    refine SafeOps.quiet0 E_good (congrArg some hc568) rfl rfl (v := V.bool (go_life_state a0_7.State)) (.callP rfl rfl (go_life_state_sc a0_7.State _ rfl) rfl) ?_
    refine SafeOps.quiet0 E_good rfl rfl rfl (v := V.bool (go_life_state a0_7.State)) (.pickK rfl hc568 rfl) ?_
    exact SafeOps.drop' 4 rfl rfl rfl K
  · skip
    refine SafeOps.skip (congrArg some hc568) rfl rfl ?_
    refine SafeOps.skip (congrArg some hc568) rfl rfl ?_
    refine SafeOps.skip (congrArg some hc568) rfl rfl ?_
    refine SafeOps.quiet0 E_good rfl rfl rfl (v := V.bool false) (.pickK rfl hc568 rfl) ?_
    exact SafeOps.drop' 4 rfl rfl rfl K
  refine SafeOps.quiet0 E_good rfl rfl rfl (v := V.bool ((((((decide (a0_7.Id ≥ 0)) && (go_life_below a0_7.Tenant 16)) && (go_life_below a0_7.Prog 16)) && (go_life_below a0_7.Pc 33)) && (go_life_below a0_7.Unit 100)) && (go_life_state a0_7.State))) (.fn rfl) ?_
  refine SafeOps.bjoin 4 36 (b := (((((((decide (a0_7.Id ≥ 0)) && (go_life_below a0_7.Tenant 16)) && (go_life_below a0_7.Prog 16)) && (go_life_below a0_7.Pc 33)) && (go_life_below a0_7.Unit 100)) && (go_life_state a0_7.State)) && (decide (a0_7.Ran ≥ 0)))) (b1 := decide (a0_7.Ran ≥ 0)) (b0 := false) (fun hc569 K => ?_) (fun hc569 K => ?_) bj_and ?_
  · skip
    refine SafeOps.quiet0 E_good (congrArg some hc569) rfl rfl (v := V.ptr [1] 0 10) (.fn rfl) ?_
    refine SafeOps.quiet0 E_good (congrArg some hc569) rfl rfl (v := V.int .i64 a0_7.Ran) (.load rfl rfl (.box rfl rfl) rfl) ?_
    refine SafeOps.quiet0 E_good (congrArg some hc569) rfl rfl (v := V.bool (decide (a0_7.Ran ≥ 0))) (.fn rfl) ?_
    refine SafeOps.quiet0 E_good rfl rfl rfl (v := V.bool (decide (a0_7.Ran ≥ 0))) (.pickK rfl hc569 rfl) ?_
    exact SafeOps.drop' 4 rfl rfl rfl K
  · skip
    refine SafeOps.skip (congrArg some hc569) rfl rfl ?_
    refine SafeOps.skip (congrArg some hc569) rfl rfl ?_
    refine SafeOps.skip (congrArg some hc569) rfl rfl ?_
    refine SafeOps.quiet0 E_good rfl rfl rfl (v := V.bool false) (.pickK rfl hc569 rfl) ?_
    exact SafeOps.drop' 4 rfl rfl rfl K
  refine SafeOps.quiet0 E_good rfl rfl rfl (v := V.bool (((((((decide (a0_7.Id ≥ 0)) && (go_life_below a0_7.Tenant 16)) && (go_life_below a0_7.Prog 16)) && (go_life_below a0_7.Pc 33)) && (go_life_below a0_7.Unit 100)) && (go_life_state a0_7.State)) && (decide (a0_7.Ran ≥ 0)))) (.fn rfl) ?_
  refine SafeOps.bjoin 4 41 (b := ((((((((decide (a0_7.Id ≥ 0)) && (go_life_below a0_7.Tenant 16)) && (go_life_below a0_7.Prog 16)) && (go_life_below a0_7.Pc 33)) && (go_life_below a0_7.Unit 100)) && (go_life_state a0_7.State)) && (decide (a0_7.Ran ≥ 0))) && (decide (a0_7.Ran ≤ 1099511627776)))) (b1 := decide (a0_7.Ran ≤ 1099511627776)) (b0 := false) (fun hc570 K => ?_) (fun hc570 K => ?_) bj_and ?_
  · skip
    refine SafeOps.quiet0 E_good (congrArg some hc570) rfl rfl (v := V.ptr [1] 0 10) (.fn rfl) ?_
    refine SafeOps.quiet0 E_good (congrArg some hc570) rfl rfl (v := V.int .i64 a0_7.Ran) (.load rfl rfl (.box rfl rfl) rfl) ?_
    refine SafeOps.quiet0 E_good (congrArg some hc570) rfl rfl (v := V.bool (decide (a0_7.Ran ≤ 1099511627776))) (.fn rfl) ?_
    refine SafeOps.quiet0 E_good rfl rfl rfl (v := V.bool (decide (a0_7.Ran ≤ 1099511627776))) (.pickK rfl hc570 rfl) ?_
    exact SafeOps.drop' 4 rfl rfl rfl K
  · skip
    refine SafeOps.skip (congrArg some hc570) rfl rfl ?_
    refine SafeOps.skip (congrArg some hc570) rfl rfl ?_
    refine SafeOps.skip (congrArg some hc570) rfl rfl ?_
    refine SafeOps.quiet0 E_good rfl rfl rfl (v := V.bool false) (.pickK rfl hc570 rfl) ?_
    exact SafeOps.drop' 4 rfl rfl rfl K
  refine SafeOps.quiet0 E_good rfl rfl rfl (v := V.bool ((((((((decide (a0_7.Id ≥ 0)) && (go_life_below a0_7.Tenant 16)) && (go_life_below a0_7.Prog 16)) && (go_life_below a0_7.Pc 33)) && (go_life_below a0_7.Unit 100)) && (go_life_state a0_7.State)) && (decide (a0_7.Ran ≥ 0))) && (decide (a0_7.Ran ≤ 1099511627776)))) (.fn rfl) ?_
  refine SafeOps.nil ?_
  repeat (first | refine Safe.seq ?_ | refine Safe.skip ?_ | with_reducible refine thenQ.n ?_ | with_reducible refine blockQ.n ?_)
  refine Safe.region ?_
  refine SafeOps.quiet0 E_good rfl rfl rfl (v := V.bool ((((((((decide (a0_7.Id ≥ 0)) && (go_life_below a0_7.Tenant 16)) && (go_life_below a0_7.Prog 16)) && (go_life_below a0_7.Pc 33)) && (go_life_below a0_7.Unit 100)) && (go_life_state a0_7.State)) && (decide (a0_7.Ran ≥ 0))) && (decide (a0_7.Ran ≤ 1099511627776)))) (.fn rfl) ?_
  refine SafeOps.quiet0 E_good rfl rfl rfl (v := V.bool (!((((((((decide (a0_7.Id ≥ 0)) && (go_life_below a0_7.Tenant 16)) && (go_life_below a0_7.Prog 16)) && (go_life_below a0_7.Pc 33)) && (go_life_below a0_7.Unit 100)) && (go_life_state a0_7.State)) && (decide (a0_7.Ran ≥ 0))) && (decide (a0_7.Ran ≤ 1099511627776))))) (.fn rfl) ?_
  refine SafeOps.quiet0 E_good rfl rfl rfl (v := V.bool (!((((((((decide (a0_7.Id ≥ 0)) && (go_life_below a0_7.Tenant 16)) && (go_life_below a0_7.Prog 16)) && (go_life_below a0_7.Pc 33)) && (go_life_below a0_7.Unit 100)) && (go_life_state a0_7.State)) && (decide (a0_7.Ran ≥ 0))) && (decide (a0_7.Ran ≤ 1099511627776))))) (.fn rfl) ?_
  refine ifG h (fun hc571 h => ?_) (fun hc571 h => ?_)
  · skip
    refine SafeOps.skip (congrArg (fun b => some (!b)) hc571) rfl rfl ?_
    refine SafeOps.skip (congrArg (fun b => some (!b)) hc571) rfl rfl ?_
    refine SafeOps.skip (congrArg (fun b => some (!b)) hc571) rfl rfl ?_
    refine SafeOps.skip (congrArg (fun b => some (!b)) hc571) rfl rfl ?_
    refine SafeOps.quiet0 E_good rfl rfl rfl (v := V.bool true) (.pickK rfl hc571 rfl) ?_
    refine SafeOps.nil ?_
    repeat (first | refine Safe.seq ?_ | refine Safe.skip ?_ | with_reducible refine thenQ.n ?_ | with_reducible refine blockQ.n ?_)
    refine Safe.condK rfl rfl ?_
    repeat (first | refine Safe.seq ?_ | refine Safe.skip ?_ | with_reducible refine thenQ.n ?_ | with_reducible refine blockQ.n ?_)
    refine Safe.region ?_
    refine SafeOps.quiet0 E_good rfl rfl rfl (v := V.int .i64 1) (.fn rfl) ?_
    refine SafeOps.nil ?_
    repeat (first | refine Safe.seq ?_ | refine Safe.skip ?_ | with_reducible refine thenQ.n ?_ | with_reducible refine blockQ.n ?_)
    refine Safe.ret ?_
    repeat (first | with_reducible refine thenQ.r ?_ | with_reducible refine blockQ.r ?_)
    obtain rfl := Option.some.inj h
    exact retQ.gen (vs := [V.int .i64 1]) rfl (.tmp (v := V.int .i64 1) rfl .nil) (.free rfl) (by simp) (.inr rfl)
  · skip
    refine SafeOps.quiet0 E_good (congrArg (fun b => some (!b)) hc571) rfl rfl (v := V.ptr [1] 0 5) (.fn rfl) ?_
    refine SafeOps.quiet0 E_good (congrArg (fun b => some (!b)) hc571) rfl rfl (v := V.bref [1] 5 1 4) (.slArrM rfl rfl rfl rfl rfl rfl rfl) ?_
    refine bindG h ?_
    intro x_574 he575 h
    refine SafeOps.quiet0 E_good (congrArg (fun b => some (!b)) hc571) rfl rfl (v := V.int .i64 x_574) (.callS rfl (.cons (.bref rfl rfl rfl) .nil) (go_slices_Min_int64_int64_sc [a0_7.Keeps.a0, a0_7.Keeps.a1, a0_7.Keeps.a2, a0_7.Keeps.a3] _ he575) (.plain rfl) rfl) ?_
    refine SafeOps.quiet0 E_good (congrArg (fun b => some (!b)) hc571) rfl rfl (v := V.bool (decide (x_574 < (-1)))) (.fn rfl) ?_
    refine SafeOps.quiet0 E_good rfl rfl rfl (v := V.bool (decide (x_574 < (-1)))) (.pickK rfl hc571 rfl) ?_
    refine SafeOps.nil ?_
    repeat (first | refine Safe.seq ?_ | refine Safe.skip ?_ | with_reducible refine thenQ.n ?_ | with_reducible refine blockQ.n ?_)
    refine ifG h (fun hc576 h => ?_) (fun hc576 h => ?_)
    · skip
      refine Safe.condK rfl hc576 ?_
      repeat (first | refine Safe.seq ?_ | refine Safe.skip ?_ | with_reducible refine thenQ.n ?_ | with_reducible refine blockQ.n ?_)
      refine Safe.region ?_
      refine SafeOps.quiet0 E_good rfl rfl rfl (v := V.int .i64 1) (.fn rfl) ?_
      refine SafeOps.nil ?_
      repeat (first | refine Safe.seq ?_ | refine Safe.skip ?_ | with_reducible refine thenQ.n ?_ | with_reducible refine blockQ.n ?_)
      refine Safe.ret ?_
      repeat (first | with_reducible refine thenQ.r ?_ | with_reducible refine blockQ.r ?_)
      obtain rfl := Option.some.inj h
      exact retQ.gen (vs := [V.int .i64 1]) rfl (.tmp (v := V.int .i64 1) rfl .nil) (.free rfl) (by simp) (.inr rfl)
    · skip
      refine Safe.condN rfl hc576 ?_
      repeat (first | refine Safe.seq ?_ | refine Safe.skip ?_ | with_reducible refine thenQ.n ?_ | with_reducible refine blockQ.n ?_)
      refine Safe.region ?_
      refine SafeOps.quiet0 E_good rfl rfl rfl (v := V.int .i64 0) (.fn rfl) ?_
      refine SafeOps.nil ?_
      repeat (first | refine Safe.seq ?_ | refine Safe.skip ?_ | with_reducible refine thenQ.n ?_ | with_reducible refine blockQ.n ?_)
      refine Safe.ret ?_
      repeat (first | with_reducible refine thenQ.r ?_ | with_reducible refine blockQ.r ?_)
      obtain rfl := Option.some.inj h
      exact retQ.gen (vs := [V.int .i64 0]) rfl (.tmp (v := V.int .i64 0) rfl .nil) (.free rfl) (by simp) (.inr rfl)

noncomputable def go_life_New (a0_4 : Int) (a1_5 : Int) (a2_6 : Int) : Option (api_Task × Int) :=
  (go_life_Check (api_Task.mk a0_4 a1_5 a2_6 0 0 (A4_Int.mk (-1) (-1) (-1) (-1)) 1 0)).bind fun x_580 =>
  if (x_580 != 0) = true then
    some (api_Task.zero, x_580)
  else
    some ((api_Task.mk a0_4 a1_5 a2_6 0 0 (A4_Int.mk (-1) (-1) (-1) (-1)) 1 0), 0)

theorem go_life_New_sc (a0_4 : Int) (a1_5 : Int) (a2_6 : Int) (r : api_Task × Int) (h : go_life_New a0_4 a1_5 a2_6 = some r) : SC Tryd.prog gl 22 [V.int .i64 a0_4, V.int .i64 a1_5, V.int .i64 a2_6] (V.tup [V.agg [V.int .i64 r.1.Id, V.int .i64 r.1.Tenant, V.int .i64 r.1.Prog, V.int .i64 r.1.Pc, V.int .i64 r.1.Unit, V.int .i64 r.1.Keeps.a0, V.int .i64 r.1.Keeps.a1, V.int .i64 r.1.Keeps.a2, V.int .i64 r.1.Keeps.a3, V.int .i64 r.1.State, V.int .i64 r.1.Ran], V.int .i64 r.2]) := by
  rw [go_life_New] at h
  refine SC.of E_good Tryd.func22 rfl (fun _ _ => Tryd.call22 _ _) rfl ?_
  repeat (first | refine Safe.seq ?_ | refine Safe.skip ?_ | with_reducible refine thenQ.n ?_ | with_reducible refine blockQ.n ?_)
  refine Safe.region ?_
  refine SafeOps.quiet1 E_good rfl rfl rfl (.alloc rfl rfl) rfl ?_
  refine SafeOps.quiet0 E_good rfl rfl rfl (v := V.int .i64 0) (.fn rfl) ?_
  refine SafeOps.nil ?_
  repeat (first | refine Safe.seq ?_ | refine Safe.skip ?_ | with_reducible refine thenQ.n ?_ | with_reducible refine blockQ.n ?_)
  refine Safe.region ?_
  refine SafeOps.quiet0 E_good rfl rfl rfl (v := V.int .i64 a0_4) (.fn rfl) ?_
  refine SafeOps.quiet0 E_good rfl rfl rfl (v := V.int .i64 a1_5) (.fn rfl) ?_
  refine SafeOps.quiet0 E_good rfl rfl rfl (v := V.int .i64 a2_6) (.fn rfl) ?_
  refine SafeOps.quiet0 E_good rfl rfl rfl (v := V.agg [V.int .i64 (-1), V.int .i64 (-1), V.int .i64 (-1), V.int .i64 (-1)]) (.fn rfl) ?_
  refine SafeOps.quiet0 E_good rfl rfl rfl (v := V.agg [V.int .i64 a0_4, V.int .i64 a1_5, V.int .i64 a2_6, V.int .i64 0, V.int .i64 0, V.int .i64 (-1), V.int .i64 (-1), V.int .i64 (-1), V.int .i64 (-1), V.int .i64 1, V.int .i64 0]) (.fn rfl) ?_
  refine SafeOps.quiet1 E_good rfl rfl rfl (.alloc rfl rfl) rfl ?_
  refine SafeOps.store (z := Obj.box [V.int .i64 a0_4, V.int .i64 a1_5, V.int .i64 a2_6, V.int .i64 0, V.int .i64 0, V.int .i64 (-1), V.int .i64 (-1), V.int .i64 (-1), V.int .i64 (-1), V.int .i64 1, V.int .i64 0]) E_good rfl rfl rfl rfl rfl rfl rfl (.boxM (c := 11) rfl rfl (Nat.le_of_ble_eq_true rfl) rfl) ?_
  refine SafeOps.nil ?_
  repeat (first | refine Safe.seq ?_ | refine Safe.skip ?_ | with_reducible refine thenQ.n ?_ | with_reducible refine blockQ.n ?_)
  refine Safe.region ?_
  refine SafeOps.quiet0 E_good rfl rfl rfl (v := V.agg [V.int .i64 a0_4, V.int .i64 a1_5, V.int .i64 a2_6, V.int .i64 0, V.int .i64 0, V.int .i64 (-1), V.int .i64 (-1), V.int .i64 (-1), V.int .i64 (-1), V.int .i64 1, V.int .i64 0]) (.load rfl rfl (.box rfl rfl) rfl) ?_
  refine bindG h ?_
  intro x_580 he581 h
  refine SafeOps.quiet0 E_good rfl rfl rfl (v := V.int .i64 x_580) (.callP rfl rfl (go_life_Check_sc (api_Task.mk a0_4 a1_5 a2_6 0 0 (A4_Int.mk (-1) (-1) (-1) (-1)) 1 0) _ he581) rfl) ?_
  refine SafeOps.quiet0 E_good rfl rfl rfl (v := V.int .i64 x_580) (.fn rfl) ?_
  refine SafeOps.nil ?_
  repeat (first | refine Safe.seq ?_ | refine Safe.skip ?_ | with_reducible refine thenQ.n ?_ | with_reducible refine blockQ.n ?_)
  refine Safe.region ?_
  refine SafeOps.quiet0 E_good rfl rfl rfl (v := V.int .i64 x_580) (.fn rfl) ?_
  refine SafeOps.quiet0 E_good rfl rfl rfl (v := V.bool (x_580 != 0)) (.fn rfl) ?_
  refine SafeOps.nil ?_
  repeat (first | refine Safe.seq ?_ | refine Safe.skip ?_ | with_reducible refine thenQ.n ?_ | with_reducible refine blockQ.n ?_)
  refine ifG h (fun hc582 h => ?_) (fun hc582 h => ?_)
  · skip
    refine Safe.condK rfl hc582 ?_
    repeat (first | refine Safe.seq ?_ | refine Safe.skip ?_ | with_reducible refine thenQ.n ?_ | with_reducible refine blockQ.n ?_)
    refine Safe.region ?_
    refine SafeOps.quiet0 E_good rfl rfl rfl (v := V.agg [V.int .i64 0, V.int .i64 0, V.int .i64 0, V.int .i64 0, V.int .i64 0, V.int .i64 0, V.int .i64 0, V.int .i64 0, V.int .i64 0, V.int .i64 0, V.int .i64 0]) (.fn rfl) ?_
    refine SafeOps.quiet0 E_good rfl rfl rfl (v := V.int .i64 x_580) (.fn rfl) ?_
    refine SafeOps.store (z := Obj.box [V.int .i64 0, V.int .i64 0, V.int .i64 0, V.int .i64 0, V.int .i64 0, V.int .i64 0, V.int .i64 0, V.int .i64 0, V.int .i64 0, V.int .i64 0, V.int .i64 0]) E_good rfl rfl rfl rfl rfl rfl rfl (.boxM (c := 11) rfl rfl (Nat.le_of_ble_eq_true rfl) rfl) ?_
    refine SafeOps.quiet0 E_good rfl rfl rfl (v := V.int .i64 x_580) (.fn rfl) ?_
    refine SafeOps.nil ?_
    repeat (first | refine Safe.seq ?_ | refine Safe.skip ?_ | with_reducible refine thenQ.n ?_ | with_reducible refine blockQ.n ?_)
    refine Safe.ret ?_
    repeat (first | with_reducible refine thenQ.r ?_ | with_reducible refine blockQ.r ?_)
    obtain rfl := Option.some.inj h
    exact retQ.gen (vs := [V.agg [V.int .i64 0, V.int .i64 0, V.int .i64 0, V.int .i64 0, V.int .i64 0, V.int .i64 0, V.int .i64 0, V.int .i64 0, V.int .i64 0, V.int .i64 0, V.int .i64 0], V.int .i64 x_580]) rfl (.cell (v := V.agg [V.int .i64 0, V.int .i64 0, V.int .i64 0, V.int .i64 0, V.int .i64 0, V.int .i64 0, V.int .i64 0, V.int .i64 0, V.int .i64 0, V.int .i64 0, V.int .i64 0]) rfl rfl (.box rfl rfl) rfl (.tmp (v := V.int .i64 x_580) rfl .nil)) (.free rfl) (by simp) (.inr rfl)
  · skip
    refine Safe.condN rfl hc582 ?_
    repeat (first | refine Safe.seq ?_ | refine Safe.skip ?_ | with_reducible refine thenQ.n ?_ | with_reducible refine blockQ.n ?_)
    refine Safe.region ?_
    refine SafeOps.quiet0 E_good rfl rfl rfl (v := V.agg [V.int .i64 a0_4, V.int .i64 a1_5, V.int .i64 a2_6, V.int .i64 0, V.int .i64 0, V.int .i64 (-1), V.int .i64 (-1), V.int .i64 (-1), V.int .i64 (-1), V.int .i64 1, V.int .i64 0]) (.load rfl rfl (.box rfl rfl) rfl) ?_
    refine SafeOps.store (z := Obj.box [V.int .i64 a0_4, V.int .i64 a1_5, V.int .i64 a2_6, V.int .i64 0, V.int .i64 0, V.int .i64 (-1), V.int .i64 (-1), V.int .i64 (-1), V.int .i64 (-1), V.int .i64 1, V.int .i64 0]) E_good rfl rfl rfl rfl rfl rfl rfl (.boxM (c := 11) rfl rfl (Nat.le_of_ble_eq_true rfl) rfl) ?_
    refine SafeOps.quiet0 E_good rfl rfl rfl (v := V.int .i64 0) (.fn rfl) ?_
    refine SafeOps.nil ?_
    repeat (first | refine Safe.seq ?_ | refine Safe.skip ?_ | with_reducible refine thenQ.n ?_ | with_reducible refine blockQ.n ?_)
    refine Safe.ret ?_
    repeat (first | with_reducible refine thenQ.r ?_ | with_reducible refine blockQ.r ?_)
    obtain rfl := Option.some.inj h
    exact retQ.gen (vs := [V.agg [V.int .i64 a0_4, V.int .i64 a1_5, V.int .i64 a2_6, V.int .i64 0, V.int .i64 0, V.int .i64 (-1), V.int .i64 (-1), V.int .i64 (-1), V.int .i64 (-1), V.int .i64 1, V.int .i64 0], V.int .i64 0]) rfl (.cell (v := V.agg [V.int .i64 a0_4, V.int .i64 a1_5, V.int .i64 a2_6, V.int .i64 0, V.int .i64 0, V.int .i64 (-1), V.int .i64 (-1), V.int .i64 (-1), V.int .i64 (-1), V.int .i64 1, V.int .i64 0]) rfl rfl (.box rfl rfl) rfl (.tmp (v := V.int .i64 0) rfl .nil)) (.free rfl) (by simp) (.inr rfl)

noncomputable def go_life_Legal (a0_592 : Int) (a1_593 : Int) : Option Bool :=
  if ((go_life_state a0_592) && (go_life_state a1_593)) = true then
    if 0 ≤ a0_592 ∧ a0_592 < (8 : Int) then
      if 0 ≤ a1_593 then
        some ((IntKind.u8.wrap (BitVec.ofInt IntKind.u8.bits (Int.fdiv (follows.getD (0 + Int.toNat a0_592 * 1) 0) (2 ^ (min (Int.toNat a1_593) IntKind.u8.bits))) &&& BitVec.ofInt IntKind.u8.bits 1).toNat) == 1)
      else none
    else none
  else
    some false

theorem go_life_Legal_sc (a0_592 : Int) (a1_593 : Int) (r : Bool) (h : go_life_Legal a0_592 a1_593 = some r) : SC Tryd.prog gl 33 [V.int .i64 a0_592, V.int .i64 a1_593] (V.bool r) := by
  rw [go_life_Legal] at h
  refine SC.of E_good Tryd.func33 rfl (fun _ _ => Tryd.call33 _ _) rfl ?_
  repeat (first | refine Safe.seq ?_ | refine Safe.skip ?_ | with_reducible refine thenQ.n ?_ | with_reducible refine blockQ.n ?_)
  refine Safe.region ?_
  refine SafeOps.quiet0 E_good rfl rfl rfl (v := V.bool false) (.fn rfl) ?_
  refine SafeOps.nil ?_
  repeat (first | refine Safe.seq ?_ | refine Safe.skip ?_ | with_reducible refine thenQ.n ?_ | with_reducible refine blockQ.n ?_)
  refine Safe.region ?_
  refine SafeOps.quiet0 E_good rfl rfl rfl (v := V.int .i64 a0_592) (.fn rfl) ?_
  refine SafeOps.quiet0 E_good rfl rfl rfl (v := V.bool (go_life_state a0_592)) (.callP rfl rfl (go_life_state_sc a0_592 _ rfl) rfl) ?_
  refine SafeOps.quiet0 E_good rfl rfl rfl (v := V.bool (go_life_state a0_592)) (.fn rfl) ?_
  refine SafeOps.bjoin 3 10 (b := ((go_life_state a0_592) && (go_life_state a1_593))) (b1 := go_life_state a1_593) (b0 := false) (fun hc605 K => ?_) (fun hc605 K => ?_) bj_and ?_
  · skip
    refine SafeOps.quiet0 E_good (congrArg some hc605) rfl rfl (v := V.int .i64 a1_593) (.fn rfl) ?_
    refine SafeOps.quiet0 E_good (congrArg some hc605) rfl rfl (v := V.bool (go_life_state a1_593)) (.callP rfl rfl (go_life_state_sc a1_593 _ rfl) rfl) ?_
    refine SafeOps.quiet0 E_good rfl rfl rfl (v := V.bool (go_life_state a1_593)) (.pickK rfl hc605 rfl) ?_
    exact SafeOps.drop' 3 rfl rfl rfl K
  · skip
    refine SafeOps.skip (congrArg some hc605) rfl rfl ?_
    refine SafeOps.skip (congrArg some hc605) rfl rfl ?_
    refine SafeOps.quiet0 E_good rfl rfl rfl (v := V.bool false) (.pickK rfl hc605 rfl) ?_
    exact SafeOps.drop' 3 rfl rfl rfl K
  refine SafeOps.quiet0 E_good rfl rfl rfl (v := V.bool ((go_life_state a0_592) && (go_life_state a1_593))) (.fn rfl) ?_
  refine ifG h (fun hc606 h => ?_) (fun hc606 h => ?_)
  · skip
    refine SafeOps.quiet0 E_good (congrArg some hc606) rfl rfl (v := V.int .i64 a0_592) (.fn rfl) ?_
    refine okG h (fun hb609 h => ?_)
    refine SafeOps.quiet0 E_good (congrArg some hc606) rfl rfl (v := V.gptr 0 (0 + Int.toNat a0_592 * 1)) (.idxArrGM rfl rfl rfl rfl rfl rfl 8 rfl hb609) ?_
    refine SafeOps.quiet0 E_good (congrArg some hc606) rfl rfl (v := V.int .u8 (follows.getD (0 + Int.toNat a0_592 * 1) 0)) (.load rfl rfl (.globI (xs := follows) rfl (globlt hb609)) rfl) ?_
    refine SafeOps.quiet0 E_good (congrArg some hc606) rfl rfl (v := V.int .i64 a1_593) (.fn rfl) ?_
    refine okG h (fun hb610 h => ?_)
    refine SafeOps.quiet0 E_good (congrArg some hc606) rfl rfl (v := V.int .u8 (Int.fdiv (follows.getD (0 + Int.toNat a0_592 * 1) 0) (2 ^ (min (Int.toNat a1_593) IntKind.u8.bits)))) (.shrV rfl rfl hb610) ?_
    refine SafeOps.quiet0 E_good (congrArg some hc606) rfl rfl (v := V.int .u8 (IntKind.u8.wrap (BitVec.ofInt IntKind.u8.bits (Int.fdiv (follows.getD (0 + Int.toNat a0_592 * 1) 0) (2 ^ (min (Int.toNat a1_593) IntKind.u8.bits))) &&& BitVec.ofInt IntKind.u8.bits 1).toNat)) (.fn rfl) ?_
    refine SafeOps.quiet0 E_good (congrArg some hc606) rfl rfl (v := V.bool ((IntKind.u8.wrap (BitVec.ofInt IntKind.u8.bits (Int.fdiv (follows.getD (0 + Int.toNat a0_592 * 1) 0) (2 ^ (min (Int.toNat a1_593) IntKind.u8.bits))) &&& BitVec.ofInt IntKind.u8.bits 1).toNat) == 1)) (.fn rfl) ?_
    refine SafeOps.quiet0 E_good rfl rfl rfl (v := V.bool ((IntKind.u8.wrap (BitVec.ofInt IntKind.u8.bits (Int.fdiv (follows.getD (0 + Int.toNat a0_592 * 1) 0) (2 ^ (min (Int.toNat a1_593) IntKind.u8.bits))) &&& BitVec.ofInt IntKind.u8.bits 1).toNat) == 1)) (.pickK rfl hc606 rfl) ?_
    refine SafeOps.quiet0 E_good rfl rfl rfl (v := V.bool ((IntKind.u8.wrap (BitVec.ofInt IntKind.u8.bits (Int.fdiv (follows.getD (0 + Int.toNat a0_592 * 1) 0) (2 ^ (min (Int.toNat a1_593) IntKind.u8.bits))) &&& BitVec.ofInt IntKind.u8.bits 1).toNat) == 1)) (.fn rfl) ?_
    refine SafeOps.nil ?_
    repeat (first | refine Safe.seq ?_ | refine Safe.skip ?_ | with_reducible refine thenQ.n ?_ | with_reducible refine blockQ.n ?_)
    refine Safe.ret ?_
    repeat (first | with_reducible refine thenQ.r ?_ | with_reducible refine blockQ.r ?_)
    obtain rfl := Option.some.inj h
    exact retQ.gen (vs := [V.bool ((IntKind.u8.wrap (BitVec.ofInt IntKind.u8.bits (Int.fdiv (follows.getD (0 + Int.toNat a0_592 * 1) 0) (2 ^ (min (Int.toNat a1_593) IntKind.u8.bits))) &&& BitVec.ofInt IntKind.u8.bits 1).toNat) == 1)]) rfl (.tmp (v := V.bool ((IntKind.u8.wrap (BitVec.ofInt IntKind.u8.bits (Int.fdiv (follows.getD (0 + Int.toNat a0_592 * 1) 0) (2 ^ (min (Int.toNat a1_593) IntKind.u8.bits))) &&& BitVec.ofInt IntKind.u8.bits 1).toNat) == 1)) rfl .nil) (.free rfl) (by simp) (.inr rfl)
  · skip
    refine SafeOps.skip (congrArg some hc606) rfl rfl ?_
    refine SafeOps.skip (congrArg some hc606) rfl rfl ?_
    refine SafeOps.skip (congrArg some hc606) rfl rfl ?_
    refine SafeOps.skip (congrArg some hc606) rfl rfl ?_
    refine SafeOps.skip (congrArg some hc606) rfl rfl ?_
    refine SafeOps.skip (congrArg some hc606) rfl rfl ?_
    refine SafeOps.skip (congrArg some hc606) rfl rfl ?_
    refine SafeOps.quiet0 E_good rfl rfl rfl (v := V.bool false) (.pickK rfl hc606 rfl) ?_
    refine SafeOps.quiet0 E_good rfl rfl rfl (v := V.bool false) (.fn rfl) ?_
    refine SafeOps.nil ?_
    repeat (first | refine Safe.seq ?_ | refine Safe.skip ?_ | with_reducible refine thenQ.n ?_ | with_reducible refine blockQ.n ?_)
    refine Safe.ret ?_
    repeat (first | with_reducible refine thenQ.r ?_ | with_reducible refine blockQ.r ?_)
    obtain rfl := Option.some.inj h
    exact retQ.gen (vs := [V.bool false]) rfl (.tmp (v := V.bool false) rfl .nil) (.free rfl) (by simp) (.inr rfl)

noncomputable def go_life_Move (a0_586 : api_Task) (a1_587 : Int) : Option (api_Task × Int) :=
  (go_life_Check a0_586).bind fun x_628 =>
  if ((x_628 != 0) || (!(go_life_state a1_587))) = true then
    some (api_Task.zero, 1)
  else
    (go_life_Legal a0_586.State a1_587).bind fun x_632 =>
    if (!x_632) = true then
      some (api_Task.zero, 9)
    else
      some ((api_Task.mk a0_586.Id a0_586.Tenant a0_586.Prog a0_586.Pc a0_586.Unit a0_586.Keeps a1_587 a0_586.Ran), 0)

theorem go_life_Move_sc (a0_586 : api_Task) (a1_587 : Int) (r : api_Task × Int) (h : go_life_Move a0_586 a1_587 = some r) : SC Tryd.prog gl 23 [V.agg [V.int .i64 a0_586.Id, V.int .i64 a0_586.Tenant, V.int .i64 a0_586.Prog, V.int .i64 a0_586.Pc, V.int .i64 a0_586.Unit, V.int .i64 a0_586.Keeps.a0, V.int .i64 a0_586.Keeps.a1, V.int .i64 a0_586.Keeps.a2, V.int .i64 a0_586.Keeps.a3, V.int .i64 a0_586.State, V.int .i64 a0_586.Ran], V.int .i64 a1_587] (V.tup [V.agg [V.int .i64 r.1.Id, V.int .i64 r.1.Tenant, V.int .i64 r.1.Prog, V.int .i64 r.1.Pc, V.int .i64 r.1.Unit, V.int .i64 r.1.Keeps.a0, V.int .i64 r.1.Keeps.a1, V.int .i64 r.1.Keeps.a2, V.int .i64 r.1.Keeps.a3, V.int .i64 r.1.State, V.int .i64 r.1.Ran], V.int .i64 r.2]) := by
  rw [go_life_Move] at h
  refine SC.of E_good Tryd.func23 rfl (fun _ _ => Tryd.call23 _ _) rfl ?_
  repeat (first | refine Safe.seq ?_ | refine Safe.skip ?_ | with_reducible refine thenQ.n ?_ | with_reducible refine blockQ.n ?_)
  refine Safe.region ?_
  refine SafeOps.quiet1 E_good rfl rfl rfl (.box rfl rfl) rfl ?_
  refine SafeOps.quiet1 E_good rfl rfl rfl (.alloc rfl rfl) rfl ?_
  refine SafeOps.quiet0 E_good rfl rfl rfl (v := V.int .i64 0) (.fn rfl) ?_
  refine SafeOps.nil ?_
  repeat (first | refine Safe.seq ?_ | refine Safe.skip ?_ | with_reducible refine thenQ.n ?_ | with_reducible refine blockQ.n ?_)
  refine Safe.block ?_
  repeat (first | refine Safe.seq ?_ | refine Safe.skip ?_ | with_reducible refine thenQ.n ?_ | with_reducible refine blockQ.n ?_)
  refine Safe.region ?_
  refine SafeOps.quiet0 E_good rfl rfl rfl (v := V.agg [V.int .i64 a0_586.Id, V.int .i64 a0_586.Tenant, V.int .i64 a0_586.Prog, V.int .i64 a0_586.Pc, V.int .i64 a0_586.Unit, V.int .i64 a0_586.Keeps.a0, V.int .i64 a0_586.Keeps.a1, V.int .i64 a0_586.Keeps.a2, V.int .i64 a0_586.Keeps.a3, V.int .i64 a0_586.State, V.int .i64 a0_586.Ran]) (.load rfl rfl (.box rfl rfl) rfl) ?_
  refine bindG h ?_
  intro x_628 he629 h
  refine SafeOps.quiet0 E_good rfl rfl rfl (v := V.int .i64 x_628) (.callP rfl rfl (go_life_Check_sc a0_586 _ he629) rfl) ?_
  refine SafeOps.quiet0 E_good rfl rfl rfl (v := V.bool (x_628 != 0)) (.fn rfl) ?_
  refine SafeOps.quiet0 E_good rfl rfl rfl (v := V.bool (x_628 != 0)) (.fn rfl) ?_
  refine SafeOps.bjoin 4 14 (b := ((x_628 != 0) || (!(go_life_state a1_587)))) (b1 := true) (b0 := (!(go_life_state a1_587))) (fun hc630 K => ?_) (fun hc630 K => ?_) bj_or ?_
  · skip
    refine SafeOps.skip (congrArg (fun b => some (!b)) hc630) rfl rfl ?_
    refine SafeOps.skip (congrArg (fun b => some (!b)) hc630) rfl rfl ?_
    refine SafeOps.skip (congrArg (fun b => some (!b)) hc630) rfl rfl ?_
    refine SafeOps.quiet0 E_good rfl rfl rfl (v := V.bool true) (.pickK rfl hc630 rfl) ?_
    exact SafeOps.drop' 4 rfl rfl rfl K
  · skip
    refine SafeOps.quiet0 E_good (congrArg (fun b => some (!b)) hc630) rfl rfl (v := V.int .i64 a1_587) (.fn rfl) ?_
    refine SafeOps.quiet0 E_good (congrArg (fun b => some (!b)) hc630) rfl rfl (v := V.bool (go_life_state a1_587)) (.callP rfl rfl (go_life_state_sc a1_587 _ rfl) rfl) ?_
    refine SafeOps.quiet0 E_good (congrArg (fun b => some (!b)) hc630) rfl rfl (v := V.bool (!(go_life_state a1_587))) (.fn rfl) ?_
    refine SafeOps.quiet0 E_good rfl rfl rfl (v := V.bool (!(go_life_state a1_587))) (.pickK rfl hc630 rfl) ?_
    exact SafeOps.drop' 4 rfl rfl rfl K
  refine SafeOps.quiet0 E_good rfl rfl rfl (v := V.bool ((x_628 != 0) || (!(go_life_state a1_587)))) (.fn rfl) ?_
  refine SafeOps.nil ?_
  repeat (first | refine Safe.seq ?_ | refine Safe.skip ?_ | with_reducible refine thenQ.n ?_ | with_reducible refine blockQ.n ?_)
  refine ifG h (fun hc631 h => ?_) (fun hc631 h => ?_)
  · skip
    refine Safe.condK rfl hc631 ?_
    repeat (first | refine Safe.seq ?_ | refine Safe.skip ?_ | with_reducible refine thenQ.n ?_ | with_reducible refine blockQ.n ?_)
    refine Safe.region ?_
    refine SafeOps.quiet0 E_good rfl rfl rfl (v := V.agg [V.int .i64 0, V.int .i64 0, V.int .i64 0, V.int .i64 0, V.int .i64 0, V.int .i64 0, V.int .i64 0, V.int .i64 0, V.int .i64 0, V.int .i64 0, V.int .i64 0]) (.fn rfl) ?_
    refine SafeOps.store (z := Obj.box [V.int .i64 0, V.int .i64 0, V.int .i64 0, V.int .i64 0, V.int .i64 0, V.int .i64 0, V.int .i64 0, V.int .i64 0, V.int .i64 0, V.int .i64 0, V.int .i64 0]) E_good rfl rfl rfl rfl rfl rfl rfl (.boxM (c := 11) rfl rfl (Nat.le_of_ble_eq_true rfl) rfl) ?_
    refine SafeOps.quiet0 E_good rfl rfl rfl (v := V.int .i64 1) (.fn rfl) ?_
    refine SafeOps.nil ?_
    repeat (first | refine Safe.seq ?_ | refine Safe.skip ?_ | with_reducible refine thenQ.n ?_ | with_reducible refine blockQ.n ?_)
    refine Safe.ret ?_
    repeat (first | with_reducible refine thenQ.r ?_ | with_reducible refine blockQ.r ?_)
    obtain rfl := Option.some.inj h
    exact retQ.gen (vs := [V.agg [V.int .i64 0, V.int .i64 0, V.int .i64 0, V.int .i64 0, V.int .i64 0, V.int .i64 0, V.int .i64 0, V.int .i64 0, V.int .i64 0, V.int .i64 0, V.int .i64 0], V.int .i64 1]) rfl (.cell (v := V.agg [V.int .i64 0, V.int .i64 0, V.int .i64 0, V.int .i64 0, V.int .i64 0, V.int .i64 0, V.int .i64 0, V.int .i64 0, V.int .i64 0, V.int .i64 0, V.int .i64 0]) rfl rfl (.box rfl rfl) rfl (.tmp (v := V.int .i64 1) rfl .nil)) (.free rfl) (by simp) (.inr rfl)
  · skip
    refine Safe.condN rfl hc631 ?_
    repeat (first | refine Safe.seq ?_ | refine Safe.skip ?_ | with_reducible refine thenQ.n ?_ | with_reducible refine blockQ.n ?_)
    refine Safe.region ?_
    refine SafeOps.quiet0 E_good rfl rfl rfl (v := V.ptr [2] 0 9) (.fn rfl) ?_
    refine SafeOps.quiet0 E_good rfl rfl rfl (v := V.int .i64 a0_586.State) (.load rfl rfl (.box rfl rfl) rfl) ?_
    refine SafeOps.quiet0 E_good rfl rfl rfl (v := V.int .i64 a1_587) (.fn rfl) ?_
    refine bindG h ?_
    intro x_632 he633 h
    refine SafeOps.quiet0 E_good rfl rfl rfl (v := V.bool x_632) (.callP rfl rfl (go_life_Legal_sc a0_586.State a1_587 _ he633) rfl) ?_
    refine SafeOps.quiet0 E_good rfl rfl rfl (v := V.bool (!x_632)) (.fn rfl) ?_
    refine SafeOps.quiet0 E_good rfl rfl rfl (v := V.bool (!x_632)) (.fn rfl) ?_
    refine SafeOps.nil ?_
    repeat (first | refine Safe.seq ?_ | refine Safe.skip ?_ | with_reducible refine thenQ.n ?_ | with_reducible refine blockQ.n ?_)
    refine ifG h (fun hc634 h => ?_) (fun hc634 h => ?_)
    · skip
      refine Safe.condK rfl hc634 ?_
      repeat (first | refine Safe.seq ?_ | refine Safe.skip ?_ | with_reducible refine thenQ.n ?_ | with_reducible refine blockQ.n ?_)
      refine Safe.region ?_
      refine SafeOps.quiet0 E_good rfl rfl rfl (v := V.agg [V.int .i64 0, V.int .i64 0, V.int .i64 0, V.int .i64 0, V.int .i64 0, V.int .i64 0, V.int .i64 0, V.int .i64 0, V.int .i64 0, V.int .i64 0, V.int .i64 0]) (.fn rfl) ?_
      refine SafeOps.store (z := Obj.box [V.int .i64 0, V.int .i64 0, V.int .i64 0, V.int .i64 0, V.int .i64 0, V.int .i64 0, V.int .i64 0, V.int .i64 0, V.int .i64 0, V.int .i64 0, V.int .i64 0]) E_good rfl rfl rfl rfl rfl rfl rfl (.boxM (c := 11) rfl rfl (Nat.le_of_ble_eq_true rfl) rfl) ?_
      refine SafeOps.quiet0 E_good rfl rfl rfl (v := V.int .i64 9) (.fn rfl) ?_
      refine SafeOps.nil ?_
      repeat (first | refine Safe.seq ?_ | refine Safe.skip ?_ | with_reducible refine thenQ.n ?_ | with_reducible refine blockQ.n ?_)
      refine Safe.ret ?_
      repeat (first | with_reducible refine thenQ.r ?_ | with_reducible refine blockQ.r ?_)
      obtain rfl := Option.some.inj h
      exact retQ.gen (vs := [V.agg [V.int .i64 0, V.int .i64 0, V.int .i64 0, V.int .i64 0, V.int .i64 0, V.int .i64 0, V.int .i64 0, V.int .i64 0, V.int .i64 0, V.int .i64 0, V.int .i64 0], V.int .i64 9]) rfl (.cell (v := V.agg [V.int .i64 0, V.int .i64 0, V.int .i64 0, V.int .i64 0, V.int .i64 0, V.int .i64 0, V.int .i64 0, V.int .i64 0, V.int .i64 0, V.int .i64 0, V.int .i64 0]) rfl rfl (.box rfl rfl) rfl (.tmp (v := V.int .i64 9) rfl .nil)) (.free rfl) (by simp) (.inr rfl)
    · skip
      refine Safe.condN rfl hc634 ?_
      repeat (first | refine Safe.seq ?_ | refine Safe.skip ?_ | with_reducible refine thenQ.n ?_ | with_reducible refine blockQ.n ?_)
      refine Safe.region ?_
      refine SafeOps.quiet0 E_good rfl rfl rfl (v := V.int .i64 a1_587) (.fn rfl) ?_
      refine SafeOps.quiet0 E_good rfl rfl rfl (v := V.ptr [2] 0 9) (.fn rfl) ?_
      refine SafeOps.store (z := Obj.box [V.int .i64 a0_586.Id, V.int .i64 a0_586.Tenant, V.int .i64 a0_586.Prog, V.int .i64 a0_586.Pc, V.int .i64 a0_586.Unit, V.int .i64 a0_586.Keeps.a0, V.int .i64 a0_586.Keeps.a1, V.int .i64 a0_586.Keeps.a2, V.int .i64 a0_586.Keeps.a3, V.int .i64 a1_587, V.int .i64 a0_586.Ran]) E_good rfl rfl rfl rfl rfl rfl rfl (.boxM (c := 11) rfl rfl (Nat.le_of_ble_eq_true rfl) rfl) ?_
      refine SafeOps.nil ?_
      repeat (first | refine Safe.seq ?_ | refine Safe.skip ?_ | with_reducible refine thenQ.n ?_ | with_reducible refine blockQ.n ?_)
      refine Safe.region ?_
      refine SafeOps.quiet0 E_good rfl rfl rfl (v := V.agg [V.int .i64 a0_586.Id, V.int .i64 a0_586.Tenant, V.int .i64 a0_586.Prog, V.int .i64 a0_586.Pc, V.int .i64 a0_586.Unit, V.int .i64 a0_586.Keeps.a0, V.int .i64 a0_586.Keeps.a1, V.int .i64 a0_586.Keeps.a2, V.int .i64 a0_586.Keeps.a3, V.int .i64 a1_587, V.int .i64 a0_586.Ran]) (.load rfl rfl (.box rfl rfl) rfl) ?_
      refine SafeOps.store (z := Obj.box [V.int .i64 a0_586.Id, V.int .i64 a0_586.Tenant, V.int .i64 a0_586.Prog, V.int .i64 a0_586.Pc, V.int .i64 a0_586.Unit, V.int .i64 a0_586.Keeps.a0, V.int .i64 a0_586.Keeps.a1, V.int .i64 a0_586.Keeps.a2, V.int .i64 a0_586.Keeps.a3, V.int .i64 a1_587, V.int .i64 a0_586.Ran]) E_good rfl rfl rfl rfl rfl rfl rfl (.boxM (c := 11) rfl rfl (Nat.le_of_ble_eq_true rfl) rfl) ?_
      refine SafeOps.quiet0 E_good rfl rfl rfl (v := V.int .i64 0) (.fn rfl) ?_
      refine SafeOps.nil ?_
      repeat (first | refine Safe.seq ?_ | refine Safe.skip ?_ | with_reducible refine thenQ.n ?_ | with_reducible refine blockQ.n ?_)
      refine Safe.ret ?_
      repeat (first | with_reducible refine thenQ.r ?_ | with_reducible refine blockQ.r ?_)
      obtain rfl := Option.some.inj h
      exact retQ.gen (vs := [V.agg [V.int .i64 a0_586.Id, V.int .i64 a0_586.Tenant, V.int .i64 a0_586.Prog, V.int .i64 a0_586.Pc, V.int .i64 a0_586.Unit, V.int .i64 a0_586.Keeps.a0, V.int .i64 a0_586.Keeps.a1, V.int .i64 a0_586.Keeps.a2, V.int .i64 a0_586.Keeps.a3, V.int .i64 a1_587, V.int .i64 a0_586.Ran], V.int .i64 0]) rfl (.cell (v := V.agg [V.int .i64 a0_586.Id, V.int .i64 a0_586.Tenant, V.int .i64 a0_586.Prog, V.int .i64 a0_586.Pc, V.int .i64 a0_586.Unit, V.int .i64 a0_586.Keeps.a0, V.int .i64 a0_586.Keeps.a1, V.int .i64 a0_586.Keeps.a2, V.int .i64 a0_586.Keeps.a3, V.int .i64 a1_587, V.int .i64 a0_586.Ran]) rfl rfl (.box rfl rfl) rfl (.tmp (v := V.int .i64 0) rfl .nil)) (.free rfl) (by simp) (.inr rfl)

@[ext] structure api_Effect where
  Kind : Int
  A : Int
  B : Int
  deriving Inhabited
def api_Effect.cells (x : api_Effect) : List V := [V.int .i64 x.Kind, V.int .i64 x.A, V.int .i64 x.B]
def api_Effect.zero : api_Effect := ⟨0, 0, 0⟩
def api_Effect.beq (x y : api_Effect) : Bool := ((x.Kind == y.Kind) && ((x.A == y.A) && ((x.B == y.B) && true)))

def go_code_within (a0_656 : Int) (a1_657 : Int) : Bool :=
  ((decide (a0_656 ≥ 0)) && (decide (a0_656 < a1_657)))

theorem go_code_within_sc (a0_656 : Int) (a1_657 : Int) (r : Bool) (h : go_code_within a0_656 a1_657 = r) : SC Tryd.prog gl 35 [V.int .i64 a0_656, V.int .i64 a1_657] (V.bool r) := by
  rw [go_code_within] at h
  refine SC.of E_good Tryd.func35 rfl (fun _ _ => Tryd.call35 _ _) rfl ?_
  repeat (first | refine Safe.seq ?_ | refine Safe.skip ?_ | with_reducible refine thenQ.n ?_ | with_reducible refine blockQ.n ?_)
  refine Safe.region ?_
  refine SafeOps.quiet0 E_good rfl rfl rfl (v := V.bool false) (.fn rfl) ?_
  refine SafeOps.nil ?_
  repeat (first | refine Safe.seq ?_ | refine Safe.skip ?_ | with_reducible refine thenQ.n ?_ | with_reducible refine blockQ.n ?_)
  refine Safe.region ?_
  refine SafeOps.quiet0 E_good rfl rfl rfl (v := V.int .i64 a0_656) (.fn rfl) ?_
  refine SafeOps.quiet0 E_good rfl rfl rfl (v := V.bool (decide (a0_656 ≥ 0))) (.fn rfl) ?_
  refine SafeOps.quiet0 E_good rfl rfl rfl (v := V.bool (decide (a0_656 ≥ 0))) (.fn rfl) ?_
  refine SafeOps.bjoin 4 11 (b := ((decide (a0_656 ≥ 0)) && (decide (a0_656 < a1_657)))) (b1 := decide (a0_656 < a1_657)) (b0 := false) (fun hc659 K => ?_) (fun hc659 K => ?_) bj_and ?_
  · skip
    refine SafeOps.quiet0 E_good (congrArg some hc659) rfl rfl (v := V.int .i64 a0_656) (.fn rfl) ?_
    refine SafeOps.quiet0 E_good (congrArg some hc659) rfl rfl (v := V.int .i64 a1_657) (.fn rfl) ?_
    refine SafeOps.quiet0 E_good (congrArg some hc659) rfl rfl (v := V.bool (decide (a0_656 < a1_657))) (.fn rfl) ?_
    refine SafeOps.quiet0 E_good rfl rfl rfl (v := V.bool (decide (a0_656 < a1_657))) (.pickK rfl hc659 rfl) ?_
    exact SafeOps.drop' 4 rfl rfl rfl K
  · skip
    refine SafeOps.skip (congrArg some hc659) rfl rfl ?_
    refine SafeOps.skip (congrArg some hc659) rfl rfl ?_
    refine SafeOps.skip (congrArg some hc659) rfl rfl ?_
    refine SafeOps.quiet0 E_good rfl rfl rfl (v := V.bool false) (.pickK rfl hc659 rfl) ?_
    exact SafeOps.drop' 4 rfl rfl rfl K
  refine SafeOps.quiet0 E_good rfl rfl rfl (v := V.bool ((decide (a0_656 ≥ 0)) && (decide (a0_656 < a1_657)))) (.fn rfl) ?_
  refine SafeOps.nil ?_
  repeat (first | refine Safe.seq ?_ | refine Safe.skip ?_ | with_reducible refine thenQ.n ?_ | with_reducible refine blockQ.n ?_)
  refine Safe.ret ?_
  repeat (first | with_reducible refine thenQ.r ?_ | with_reducible refine blockQ.r ?_)
  obtain rfl := h
  exact retQ.gen (vs := [V.bool ((decide (a0_656 ≥ 0)) && (decide (a0_656 < a1_657)))]) rfl (.tmp (v := V.bool ((decide (a0_656 ≥ 0)) && (decide (a0_656 < a1_657)))) rfl .nil) (.free rfl) (by simp) (.inr rfl)

def go_code_odd_j2 (v3_677 : Bool) (v4_678 : Bool) : Bool :=
  ((!v3_677) || (!v4_678))

def go_code_odd_j4 (a0_654 : api_Instr) (v46_689 : Bool) : Bool :=
  if v46_689 = true then
    go_code_odd_j2 (go_code_within a0_654.A 8) (a0_654.B == 0)
  else
    true

def go_code_odd_j3 (a0_654 : api_Instr) (v27_683 : Bool) : Bool :=
  if v27_683 = true then
    go_code_odd_j2 (a0_654.A == 0) (a0_654.B == 0)
  else
    if (a0_654.Op == 4) = true then
      go_code_odd_j2 (go_code_within (IntKind.i64.wrap (a0_654.A - 1)) 1000) (a0_654.B == 0)
    else
      if (a0_654.Op == 5) = true then
        go_code_odd_j2 (go_code_within a0_654.A 16) (a0_654.B == 0)
      else
        if (a0_654.Op == 6) = true then
          go_code_odd_j2 (go_code_within a0_654.A 4) (a0_654.B == 0)
        else
          if (a0_654.Op == 7) = true then
            go_code_odd_j4 a0_654 (a0_654.Op == 7)
          else
            go_code_odd_j4 a0_654 (a0_654.Op == 8)

def go_code_odd (a0_654 : api_Instr) : Bool :=
  if (a0_654.Op == 1) = true then
    go_code_odd_j2 (go_code_within (IntKind.i64.wrap (a0_654.A - 1)) 100) (a0_654.B == 0)
  else
    if (a0_654.Op == 2) = true then
      go_code_odd_j2 (go_code_within a0_654.A 16) (go_code_within a0_654.B 4)
    else
      if (a0_654.Op == 3) = true then
        go_code_odd_j3 a0_654 (a0_654.Op == 3)
      else
        go_code_odd_j3 a0_654 (a0_654.Op == 9)

theorem go_code_odd_sc (a0_654 : api_Instr) (r : Bool) (h : go_code_odd a0_654 = r) : SC Tryd.prog gl 25 [V.agg [V.int .i64 a0_654.Op, V.int .i64 a0_654.A, V.int .i64 a0_654.B]] (V.bool r) := by
  rw [go_code_odd] at h
  refine SC.of E_good Tryd.func25 rfl (fun _ _ => Tryd.call25 _ _) rfl ?_
  repeat (first | refine Safe.seq ?_ | refine Safe.skip ?_ | with_reducible refine thenQ.n ?_ | with_reducible refine blockQ.n ?_)
  refine Safe.region ?_
  refine SafeOps.quiet1 E_good rfl rfl rfl (.box rfl rfl) rfl ?_
  refine SafeOps.quiet0 E_good rfl rfl rfl (v := V.bool false) (.fn rfl) ?_
  refine SafeOps.nil ?_
  repeat (first | refine Safe.seq ?_ | refine Safe.skip ?_ | with_reducible refine thenQ.n ?_ | with_reducible refine blockQ.n ?_)
  refine Safe.regionD (n := 8) [] [] E_good mixed rfl ?_
  refine DAny.take (i := 0) rfl (by kernel_rfl) [] (by kernel_rfl) (by kernel_rfl) (by kernel_rfl) rfl rfl rfl (v := V.ptr [1] 0 1) (fun _ hz => (.fn rfl)) ?_
  refine DAny.take (i := 1) rfl (by kernel_rfl) [] (by kernel_rfl) (by kernel_rfl) (by kernel_rfl) rfl rfl rfl (v := V.int .i64 a0_654.A) (fun _ hz => (.load rfl rfl (.box (hz _ _ rfl rfl) rfl) rfl)) ?_
  refine DAny.take (i := 2) rfl (by kernel_rfl) [] (by kernel_rfl) (by kernel_rfl) (by kernel_rfl) rfl rfl rfl (v := V.bool (a0_654.A == 0)) (fun _ hz => (.fn rfl)) ?_
  refine DAny.take (i := 3) rfl (by kernel_rfl) [] (by kernel_rfl) (by kernel_rfl) (by kernel_rfl) rfl rfl rfl (v := V.ptr [1] 0 2) (fun _ hz => (.fn rfl)) ?_
  refine DAny.take (i := 4) rfl (by kernel_rfl) [] (by kernel_rfl) (by kernel_rfl) (by kernel_rfl) rfl rfl rfl (v := V.int .i64 a0_654.B) (fun _ hz => (.load rfl rfl (.box (hz _ _ rfl rfl) rfl) rfl)) ?_
  refine DAny.take (i := 5) rfl (by kernel_rfl) [] (by kernel_rfl) (by kernel_rfl) (by kernel_rfl) rfl rfl rfl (v := V.bool (a0_654.B == 0)) (fun _ hz => (.fn rfl)) ?_
  refine DAny.take (i := 6) rfl (by kernel_rfl) [] (by kernel_rfl) (by kernel_rfl) (by kernel_rfl) rfl rfl rfl (v := V.bool (a0_654.A == 0)) (fun _ hz => (.fn rfl)) ?_
  refine DAny.take (i := 7) rfl (by kernel_rfl) [] (by kernel_rfl) (by kernel_rfl) (by kernel_rfl) rfl rfl rfl (v := V.bool (a0_654.B == 0)) (fun _ hz => (.fn rfl)) ?_
  refine DAny.nil (by kernel_rfl) ?_
  repeat (first | refine Safe.seq ?_ | refine Safe.skip ?_ | with_reducible refine thenQ.n ?_ | with_reducible refine blockQ.n ?_)
  refine Safe.region ?_
  refine SafeOps.quiet0 E_good rfl rfl rfl (v := V.ptr [1] 0 0) (.fn rfl) ?_
  refine SafeOps.quiet0 E_good rfl rfl rfl (v := V.int .i64 a0_654.Op) (.load rfl rfl (.box rfl rfl) rfl) ?_
  refine SafeOps.nil ?_
  repeat (first | refine Safe.seq ?_ | refine Safe.skip ?_ | with_reducible refine thenQ.n ?_ | with_reducible refine blockQ.n ?_)
  refine Safe.joinT (fun ((v3_677, v4_678) : Bool × Bool) => go_code_odd_j2 v3_677 v4_678 = r) (fun ((v3_677, v4_678) : Bool × Bool) => ⟨Tryd.f25.ntmps, [(3, V.bool v3_677), (4, V.bool v4_678)], [], [], []⟩) ?_ (fun HJ679 => ?_)
  · rintro ⟨v3_677, v4_678⟩ h
    replace h : go_code_odd_j2 v3_677 v4_678 = r := h
    rw [go_code_odd_j2] at h
    repeat (first | refine Safe.seq ?_ | refine Safe.skip ?_ | with_reducible refine thenQ.n ?_ | with_reducible refine blockQ.n ?_)
    refine Safe.region ?_
    refine SafeOps.quiet0 E_good rfl rfl rfl (v := V.bool v3_677) (.fn rfl) ?_
    refine SafeOps.quiet0 E_good rfl rfl rfl (v := V.bool (!v3_677)) (.fn rfl) ?_
    refine SafeOps.quiet0 E_good rfl rfl rfl (v := V.bool (!v3_677)) (.fn rfl) ?_
    refine SafeOps.bjoin 3 57 (b := ((!v3_677) || (!v4_678))) (b1 := true) (b0 := (!v4_678)) (fun hc680 K => ?_) (fun hc680 K => ?_) bj_or ?_
    · skip
      refine SafeOps.skip (congrArg (fun b => some (!b)) hc680) rfl rfl ?_
      refine SafeOps.skip (congrArg (fun b => some (!b)) hc680) rfl rfl ?_
      refine SafeOps.quiet0 E_good rfl rfl rfl (v := V.bool true) (.pickK rfl hc680 rfl) ?_
      exact SafeOps.drop' 3 rfl rfl rfl K
    · skip
      refine SafeOps.quiet0 E_good (congrArg (fun b => some (!b)) hc680) rfl rfl (v := V.bool v4_678) (.fn rfl) ?_
      refine SafeOps.quiet0 E_good (congrArg (fun b => some (!b)) hc680) rfl rfl (v := V.bool (!v4_678)) (.fn rfl) ?_
      refine SafeOps.quiet0 E_good rfl rfl rfl (v := V.bool (!v4_678)) (.pickK rfl hc680 rfl) ?_
      exact SafeOps.drop' 3 rfl rfl rfl K
    refine SafeOps.quiet0 E_good rfl rfl rfl (v := V.bool ((!v3_677) || (!v4_678))) (.fn rfl) ?_
    refine SafeOps.nil ?_
    repeat (first | refine Safe.seq ?_ | refine Safe.skip ?_ | with_reducible refine thenQ.n ?_ | with_reducible refine blockQ.n ?_)
    refine Safe.ret ?_
    repeat (first | with_reducible refine thenQ.r ?_ | with_reducible refine blockQ.r ?_)
    obtain rfl := h
    exact retQ.gen (vs := [V.bool ((!v3_677) || (!v4_678))]) rfl (.tmp (v := V.bool ((!v3_677) || (!v4_678))) rfl .nil) (.free rfl) (by simp) (.inr rfl)
  · skip
    refine Safe.block ?_
    repeat (first | refine Safe.seq ?_ | refine Safe.skip ?_ | with_reducible refine thenQ.n ?_ | with_reducible refine blockQ.n ?_)
    refine Safe.region ?_
    refine SafeOps.quiet0 E_good rfl rfl rfl (v := V.bool (a0_654.Op == 1)) (.fn rfl) ?_
    refine SafeOps.quiet0 E_good rfl rfl rfl (v := V.bool (a0_654.Op == 1)) (.fn rfl) ?_
    refine SafeOps.nil ?_
    repeat (first | refine Safe.seq ?_ | refine Safe.skip ?_ | with_reducible refine thenQ.n ?_ | with_reducible refine blockQ.n ?_)
    refine ifG h (fun hc681 h => ?_) (fun hc681 h => ?_)
    · skip
      refine Safe.condK rfl hc681 ?_
      repeat (first | refine Safe.seq ?_ | refine Safe.skip ?_ | with_reducible refine thenQ.n ?_ | with_reducible refine blockQ.n ?_)
      refine Safe.region ?_
      refine SafeOps.quiet0 E_good rfl rfl rfl (v := V.ptr [1] 0 1) (.fn rfl) ?_
      refine SafeOps.quiet0 E_good rfl rfl rfl (v := V.int .i64 a0_654.A) (.load rfl rfl (.box rfl rfl) rfl) ?_
      refine SafeOps.quiet0 E_good rfl rfl rfl (v := V.int .i64 (IntKind.i64.wrap (a0_654.A - 1))) (.fn rfl) ?_
      refine SafeOps.quiet0 E_good rfl rfl rfl (v := V.bool (go_code_within (IntKind.i64.wrap (a0_654.A - 1)) 100)) (.callP rfl rfl (go_code_within_sc (IntKind.i64.wrap (a0_654.A - 1)) 100 _ rfl) rfl) ?_
      refine SafeOps.quiet0 E_good rfl rfl rfl (v := V.bool (go_code_within (IntKind.i64.wrap (a0_654.A - 1)) 100)) (.fn rfl) ?_
      refine SafeOps.nil ?_
      repeat (first | refine Safe.skip ?_ | with_reducible refine thenQ.n ?_ | with_reducible refine blockQ.n ?_)
      exact Safe.got (HJ679 (go_code_within (IntKind.i64.wrap (a0_654.A - 1)) 100, (a0_654.B == 0)) h) (.cov ⟨rfl, rfl, (upT_cons (.refl _) (upT_cons (.refl _) upT_nil)), upOb_nil, upOut_nil, rfl⟩)
    · skip
      refine Safe.condN rfl hc681 ?_
      repeat (first | refine Safe.seq ?_ | refine Safe.skip ?_ | with_reducible refine thenQ.n ?_ | with_reducible refine blockQ.n ?_)
      refine Safe.region ?_
      refine SafeOps.quiet0 E_good rfl rfl rfl (v := V.bool (a0_654.Op == 2)) (.fn rfl) ?_
      refine SafeOps.quiet0 E_good rfl rfl rfl (v := V.bool (a0_654.Op == 2)) (.fn rfl) ?_
      refine SafeOps.nil ?_
      repeat (first | refine Safe.seq ?_ | refine Safe.skip ?_ | with_reducible refine thenQ.n ?_ | with_reducible refine blockQ.n ?_)
      refine ifG h (fun hc682 h => ?_) (fun hc682 h => ?_)
      · skip
        refine Safe.condK rfl hc682 ?_
        repeat (first | refine Safe.seq ?_ | refine Safe.skip ?_ | with_reducible refine thenQ.n ?_ | with_reducible refine blockQ.n ?_)
        refine Safe.regionD (n := 8) [] [] E_good mixed rfl ?_
        refine DAny.take (i := 0) rfl (by kernel_rfl) [] (by kernel_rfl) (by kernel_rfl) (by kernel_rfl) rfl rfl rfl (v := V.ptr [1] 0 1) (fun _ hz => (.fn rfl)) ?_
        refine DAny.take (i := 1) rfl (by kernel_rfl) [] (by kernel_rfl) (by kernel_rfl) (by kernel_rfl) rfl rfl rfl (v := V.int .i64 a0_654.A) (fun _ hz => (.load rfl rfl (.box (hz _ _ rfl rfl) rfl) rfl)) ?_
        refine DAny.take (i := 2) rfl (by kernel_rfl) [] (by kernel_rfl) (by kernel_rfl) (by kernel_rfl) rfl rfl rfl (v := V.bool (go_code_within a0_654.A 16)) (fun _ hz => (.callP rfl rfl (go_code_within_sc a0_654.A 16 _ rfl) rfl)) ?_
        refine DAny.take (i := 3) rfl (by kernel_rfl) [] (by kernel_rfl) (by kernel_rfl) (by kernel_rfl) rfl rfl rfl (v := V.ptr [1] 0 2) (fun _ hz => (.fn rfl)) ?_
        refine DAny.take (i := 4) rfl (by kernel_rfl) [] (by kernel_rfl) (by kernel_rfl) (by kernel_rfl) rfl rfl rfl (v := V.int .i64 a0_654.B) (fun _ hz => (.load rfl rfl (.box (hz _ _ rfl rfl) rfl) rfl)) ?_
        refine DAny.take (i := 5) rfl (by kernel_rfl) [] (by kernel_rfl) (by kernel_rfl) (by kernel_rfl) rfl rfl rfl (v := V.bool (go_code_within a0_654.B 4)) (fun _ hz => (.callP rfl rfl (go_code_within_sc a0_654.B 4 _ rfl) rfl)) ?_
        refine DAny.take (i := 6) rfl (by kernel_rfl) [] (by kernel_rfl) (by kernel_rfl) (by kernel_rfl) rfl rfl rfl (v := V.bool (go_code_within a0_654.A 16)) (fun _ hz => (.fn rfl)) ?_
        refine DAny.take (i := 7) rfl (by kernel_rfl) [] (by kernel_rfl) (by kernel_rfl) (by kernel_rfl) rfl rfl rfl (v := V.bool (go_code_within a0_654.B 4)) (fun _ hz => (.fn rfl)) ?_
        refine DAny.nil (by kernel_rfl) ?_
        repeat (first | refine Safe.skip ?_ | with_reducible refine thenQ.n ?_ | with_reducible refine blockQ.n ?_)
        exact Safe.got (HJ679 (go_code_within a0_654.A 16, go_code_within a0_654.B 4) h) (.cov ⟨rfl, rfl, (upT_cons (.refl _) (upT_cons (.refl _) upT_nil)), upOb_nil, upOut_nil, rfl⟩)
      · skip
        refine Safe.condN rfl hc682 ?_
        repeat (first | refine Safe.seq ?_ | refine Safe.skip ?_ | with_reducible refine thenQ.n ?_ | with_reducible refine blockQ.n ?_)
        refine Safe.region ?_
        refine SafeOps.quiet0 E_good rfl rfl rfl (v := V.bool (a0_654.Op == 3)) (.fn rfl) ?_
        refine SafeOps.quiet0 E_good rfl rfl rfl (v := V.bool (a0_654.Op == 3)) (.fn rfl) ?_
        refine SafeOps.nil ?_
        repeat (first | refine Safe.seq ?_ | refine Safe.skip ?_ | with_reducible refine thenQ.n ?_ | with_reducible refine blockQ.n ?_)
        refine Safe.joinT (fun (v27_683 : Bool) => go_code_odd_j3 a0_654 v27_683 = r) (fun (v27_683 : Bool) => ⟨Tryd.f25.ntmps, [(1, V.ptr [1] 0 0), (3, V.bool (a0_654.A == 0)), (4, V.bool (a0_654.B == 0)), (12, V.int .i64 a0_654.Op), (27, V.bool v27_683)], [([1], Obj.box [V.int .i64 a0_654.Op, V.int .i64 a0_654.A, V.int .i64 a0_654.B])], [], []⟩) ?_ (fun HJ684 => ?_)
        · intro v27_683 h
          replace h : go_code_odd_j3 a0_654 v27_683 = r := h
          rw [go_code_odd_j3] at h
          repeat (first | refine Safe.seq ?_ | refine Safe.skip ?_ | with_reducible refine thenQ.n ?_ | with_reducible refine blockQ.n ?_)
          refine ifG h (fun hc685 h => ?_) (fun hc685 h => ?_)
          · skip
            refine Safe.condK rfl hc685 ?_
            repeat (first | refine Safe.skip ?_ | with_reducible refine thenQ.n ?_ | with_reducible refine blockQ.n ?_)
            exact Safe.got (HJ679 ((a0_654.A == 0), (a0_654.B == 0)) h) (.cov ⟨rfl, rfl, (upT_cons (.refl _) (upT_cons (.refl _) upT_nil)), upOb_nil, upOut_nil, rfl⟩)
          · skip
            refine Safe.condN rfl hc685 ?_
            repeat (first | refine Safe.seq ?_ | refine Safe.skip ?_ | with_reducible refine thenQ.n ?_ | with_reducible refine blockQ.n ?_)
            refine Safe.region ?_
            refine SafeOps.quiet0 E_good rfl rfl rfl (v := V.bool (a0_654.Op == 4)) (.fn rfl) ?_
            refine SafeOps.quiet0 E_good rfl rfl rfl (v := V.bool (a0_654.Op == 4)) (.fn rfl) ?_
            refine SafeOps.nil ?_
            repeat (first | refine Safe.seq ?_ | refine Safe.skip ?_ | with_reducible refine thenQ.n ?_ | with_reducible refine blockQ.n ?_)
            refine ifG h (fun hc686 h => ?_) (fun hc686 h => ?_)
            · skip
              refine Safe.condK rfl hc686 ?_
              repeat (first | refine Safe.seq ?_ | refine Safe.skip ?_ | with_reducible refine thenQ.n ?_ | with_reducible refine blockQ.n ?_)
              refine Safe.region ?_
              refine SafeOps.quiet0 E_good rfl rfl rfl (v := V.ptr [1] 0 1) (.fn rfl) ?_
              refine SafeOps.quiet0 E_good rfl rfl rfl (v := V.int .i64 a0_654.A) (.load rfl rfl (.box rfl rfl) rfl) ?_
              refine SafeOps.quiet0 E_good rfl rfl rfl (v := V.int .i64 (IntKind.i64.wrap (a0_654.A - 1))) (.fn rfl) ?_
              refine SafeOps.quiet0 E_good rfl rfl rfl (v := V.bool (go_code_within (IntKind.i64.wrap (a0_654.A - 1)) 1000)) (.callP rfl rfl (go_code_within_sc (IntKind.i64.wrap (a0_654.A - 1)) 1000 _ rfl) rfl) ?_
              refine SafeOps.quiet0 E_good rfl rfl rfl (v := V.bool (go_code_within (IntKind.i64.wrap (a0_654.A - 1)) 1000)) (.fn rfl) ?_
              refine SafeOps.nil ?_
              repeat (first | refine Safe.skip ?_ | with_reducible refine thenQ.n ?_ | with_reducible refine blockQ.n ?_)
              exact Safe.got (HJ679 (go_code_within (IntKind.i64.wrap (a0_654.A - 1)) 1000, (a0_654.B == 0)) h) (.cov ⟨rfl, rfl, (upT_cons (.refl _) (upT_cons (.refl _) upT_nil)), upOb_nil, upOut_nil, rfl⟩)
            · skip
              refine Safe.condN rfl hc686 ?_
              repeat (first | refine Safe.seq ?_ | refine Safe.skip ?_ | with_reducible refine thenQ.n ?_ | with_reducible refine blockQ.n ?_)
              refine Safe.region ?_
              refine SafeOps.quiet0 E_good rfl rfl rfl (v := V.bool (a0_654.Op == 5)) (.fn rfl) ?_
              refine SafeOps.quiet0 E_good rfl rfl rfl (v := V.bool (a0_654.Op == 5)) (.fn rfl) ?_
              refine SafeOps.nil ?_
              repeat (first | refine Safe.seq ?_ | refine Safe.skip ?_ | with_reducible refine thenQ.n ?_ | with_reducible refine blockQ.n ?_)
              refine ifG h (fun hc687 h => ?_) (fun hc687 h => ?_)
              · skip
                refine Safe.condK rfl hc687 ?_
                repeat (first | refine Safe.seq ?_ | refine Safe.skip ?_ | with_reducible refine thenQ.n ?_ | with_reducible refine blockQ.n ?_)
                refine Safe.region ?_
                refine SafeOps.quiet0 E_good rfl rfl rfl (v := V.ptr [1] 0 1) (.fn rfl) ?_
                refine SafeOps.quiet0 E_good rfl rfl rfl (v := V.int .i64 a0_654.A) (.load rfl rfl (.box rfl rfl) rfl) ?_
                refine SafeOps.quiet0 E_good rfl rfl rfl (v := V.bool (go_code_within a0_654.A 16)) (.callP rfl rfl (go_code_within_sc a0_654.A 16 _ rfl) rfl) ?_
                refine SafeOps.quiet0 E_good rfl rfl rfl (v := V.bool (go_code_within a0_654.A 16)) (.fn rfl) ?_
                refine SafeOps.nil ?_
                repeat (first | refine Safe.skip ?_ | with_reducible refine thenQ.n ?_ | with_reducible refine blockQ.n ?_)
                exact Safe.got (HJ679 (go_code_within a0_654.A 16, (a0_654.B == 0)) h) (.cov ⟨rfl, rfl, (upT_cons (.refl _) (upT_cons (.refl _) upT_nil)), upOb_nil, upOut_nil, rfl⟩)
              · skip
                refine Safe.condN rfl hc687 ?_
                repeat (first | refine Safe.seq ?_ | refine Safe.skip ?_ | with_reducible refine thenQ.n ?_ | with_reducible refine blockQ.n ?_)
                refine Safe.region ?_
                refine SafeOps.quiet0 E_good rfl rfl rfl (v := V.bool (a0_654.Op == 6)) (.fn rfl) ?_
                refine SafeOps.quiet0 E_good rfl rfl rfl (v := V.bool (a0_654.Op == 6)) (.fn rfl) ?_
                refine SafeOps.nil ?_
                repeat (first | refine Safe.seq ?_ | refine Safe.skip ?_ | with_reducible refine thenQ.n ?_ | with_reducible refine blockQ.n ?_)
                refine ifG h (fun hc688 h => ?_) (fun hc688 h => ?_)
                · skip
                  refine Safe.condK rfl hc688 ?_
                  repeat (first | refine Safe.seq ?_ | refine Safe.skip ?_ | with_reducible refine thenQ.n ?_ | with_reducible refine blockQ.n ?_)
                  refine Safe.region ?_
                  refine SafeOps.quiet0 E_good rfl rfl rfl (v := V.ptr [1] 0 1) (.fn rfl) ?_
                  refine SafeOps.quiet0 E_good rfl rfl rfl (v := V.int .i64 a0_654.A) (.load rfl rfl (.box rfl rfl) rfl) ?_
                  refine SafeOps.quiet0 E_good rfl rfl rfl (v := V.bool (go_code_within a0_654.A 4)) (.callP rfl rfl (go_code_within_sc a0_654.A 4 _ rfl) rfl) ?_
                  refine SafeOps.quiet0 E_good rfl rfl rfl (v := V.bool (go_code_within a0_654.A 4)) (.fn rfl) ?_
                  refine SafeOps.nil ?_
                  repeat (first | refine Safe.skip ?_ | with_reducible refine thenQ.n ?_ | with_reducible refine blockQ.n ?_)
                  exact Safe.got (HJ679 (go_code_within a0_654.A 4, (a0_654.B == 0)) h) (.cov ⟨rfl, rfl, (upT_cons (.refl _) (upT_cons (.refl _) upT_nil)), upOb_nil, upOut_nil, rfl⟩)
                · skip
                  refine Safe.condN rfl hc688 ?_
                  repeat (first | refine Safe.seq ?_ | refine Safe.skip ?_ | with_reducible refine thenQ.n ?_ | with_reducible refine blockQ.n ?_)
                  refine Safe.region ?_
                  refine SafeOps.quiet0 E_good rfl rfl rfl (v := V.bool (a0_654.Op == 7)) (.fn rfl) ?_
                  refine SafeOps.quiet0 E_good rfl rfl rfl (v := V.bool (a0_654.Op == 7)) (.fn rfl) ?_
                  refine SafeOps.nil ?_
                  repeat (first | refine Safe.seq ?_ | refine Safe.skip ?_ | with_reducible refine thenQ.n ?_ | with_reducible refine blockQ.n ?_)
                  refine Safe.joinT (fun (v46_689 : Bool) => go_code_odd_j4 a0_654 v46_689 = r) (fun (v46_689 : Bool) => ⟨Tryd.f25.ntmps, [(1, V.ptr [1] 0 0), (4, V.bool (a0_654.B == 0)), (46, V.bool v46_689)], [([1], Obj.box [V.int .i64 a0_654.Op, V.int .i64 a0_654.A, V.int .i64 a0_654.B])], [], []⟩) ?_ (fun HJ690 => ?_)
                  · intro v46_689 h
                    replace h : go_code_odd_j4 a0_654 v46_689 = r := h
                    rw [go_code_odd_j4] at h
                    repeat (first | refine Safe.seq ?_ | refine Safe.skip ?_ | with_reducible refine thenQ.n ?_ | with_reducible refine blockQ.n ?_)
                    refine ifG h (fun hc691 h => ?_) (fun hc691 h => ?_)
                    · skip
                      refine Safe.condK rfl hc691 ?_
                      repeat (first | refine Safe.seq ?_ | refine Safe.skip ?_ | with_reducible refine thenQ.n ?_ | with_reducible refine blockQ.n ?_)
                      refine Safe.region ?_
                      refine SafeOps.quiet0 E_good rfl rfl rfl (v := V.ptr [1] 0 1) (.fn rfl) ?_
                      refine SafeOps.quiet0 E_good rfl rfl rfl (v := V.int .i64 a0_654.A) (.load rfl rfl (.box rfl rfl) rfl) ?_
                      refine SafeOps.quiet0 E_good rfl rfl rfl (v := V.bool (go_code_within a0_654.A 8)) (.callP rfl rfl (go_code_within_sc a0_654.A 8 _ rfl) rfl) ?_
                      refine SafeOps.quiet0 E_good rfl rfl rfl (v := V.bool (go_code_within a0_654.A 8)) (.fn rfl) ?_
                      refine SafeOps.nil ?_
                      repeat (first | refine Safe.skip ?_ | with_reducible refine thenQ.n ?_ | with_reducible refine blockQ.n ?_)
                      exact Safe.got (HJ679 (go_code_within a0_654.A 8, (a0_654.B == 0)) h) (.cov ⟨rfl, rfl, (upT_cons (.refl _) (upT_cons (.refl _) upT_nil)), upOb_nil, upOut_nil, rfl⟩)
                    · skip
                      refine Safe.condN rfl hc691 ?_
                      repeat (first | refine Safe.seq ?_ | refine Safe.skip ?_ | with_reducible refine thenQ.n ?_ | with_reducible refine blockQ.n ?_)
                      refine Safe.region ?_
                      refine SafeOps.quiet0 E_good rfl rfl rfl (v := V.bool true) (.fn rfl) ?_
                      refine SafeOps.nil ?_
                      repeat (first | refine Safe.seq ?_ | refine Safe.skip ?_ | with_reducible refine thenQ.n ?_ | with_reducible refine blockQ.n ?_)
                      refine Safe.ret ?_
                      repeat (first | with_reducible refine thenQ.r ?_ | with_reducible refine blockQ.r ?_)
                      obtain rfl := h
                      exact retQ.gen (vs := [V.bool true]) rfl (.tmp (v := V.bool true) rfl .nil) (.free rfl) (by simp) (.inr rfl)
                  · skip
                    refine ifG h (fun hc692 h => ?_) (fun hc692 h => ?_)
                    · skip
                      refine Safe.condK rfl hc692 ?_
                      repeat (first | refine Safe.skip ?_ | with_reducible refine thenQ.n ?_ | with_reducible refine blockQ.n ?_)
                      exact Safe.got (HJ690 ((a0_654.Op == 7)) h) (.cov ⟨rfl, rfl, (upT_cons (.refl _) (upT_cons (.refl _) (upT_cons (.refl _) upT_nil))), (upOb_cons rfl (.refl _) upOb_nil), upOut_nil, rfl⟩)
                    · skip
                      refine Safe.condN rfl hc692 ?_
                      repeat (first | refine Safe.seq ?_ | refine Safe.skip ?_ | with_reducible refine thenQ.n ?_ | with_reducible refine blockQ.n ?_)
                      refine Safe.region ?_
                      refine SafeOps.quiet0 E_good rfl rfl rfl (v := V.bool (a0_654.Op == 8)) (.fn rfl) ?_
                      refine SafeOps.quiet0 E_good rfl rfl rfl (v := V.bool (a0_654.Op == 8)) (.fn rfl) ?_
                      refine SafeOps.nil ?_
                      repeat (first | refine Safe.skip ?_ | with_reducible refine thenQ.n ?_ | with_reducible refine blockQ.n ?_)
                      exact Safe.got (HJ690 ((a0_654.Op == 8)) h) (.cov ⟨rfl, rfl, (upT_cons (.refl _) (upT_cons (.refl _) (upT_cons (.refl _) upT_nil))), (upOb_cons rfl (.refl _) upOb_nil), upOut_nil, rfl⟩)
        · skip
          refine ifG h (fun hc693 h => ?_) (fun hc693 h => ?_)
          · skip
            refine Safe.condK rfl hc693 ?_
            repeat (first | refine Safe.skip ?_ | with_reducible refine thenQ.n ?_ | with_reducible refine blockQ.n ?_)
            exact Safe.got (HJ684 ((a0_654.Op == 3)) h) (.cov ⟨rfl, rfl, (upT_cons (.refl _) (upT_cons (.refl _) (upT_cons (.refl _) (upT_cons (.refl _) (upT_cons (.refl _) upT_nil))))), (upOb_cons rfl (.refl _) upOb_nil), upOut_nil, rfl⟩)
          · skip
            refine Safe.condN rfl hc693 ?_
            repeat (first | refine Safe.seq ?_ | refine Safe.skip ?_ | with_reducible refine thenQ.n ?_ | with_reducible refine blockQ.n ?_)
            refine Safe.region ?_
            refine SafeOps.quiet0 E_good rfl rfl rfl (v := V.bool (a0_654.Op == 9)) (.fn rfl) ?_
            refine SafeOps.quiet0 E_good rfl rfl rfl (v := V.bool (a0_654.Op == 9)) (.fn rfl) ?_
            refine SafeOps.nil ?_
            repeat (first | refine Safe.skip ?_ | with_reducible refine thenQ.n ?_ | with_reducible refine blockQ.n ?_)
            exact Safe.got (HJ684 ((a0_654.Op == 9)) h) (.cov ⟨rfl, rfl, (upT_cons (.refl _) (upT_cons (.refl _) (upT_cons (.refl _) (upT_cons (.refl _) (upT_cons (.refl _) upT_nil))))), (upOb_cons rfl (.refl _) upOb_nil), upOut_nil, rfl⟩)

noncomputable def go_slices_IndexFunc_api_Instr_api_Instr_odd25_s1 (a0_650 : List api_Instr) : (Int) → Option ((Int) ⊕ (Int))
  | v8_711 =>
    if (decide (v8_711 < (a0_650.length : Int))) = true then
      if 0 ≤ v8_711 ∧ v8_711 < (a0_650.length : Int) then
        if (go_code_odd (gt a0_650 v8_711)) = true then
          inrO (
            some v8_711)
        else
          nextO (IntKind.i64.wrap (v8_711 + 1))
      else none
    else
      inrO (
        some (-1))

noncomputable def go_slices_IndexFunc_api_Instr_api_Instr_odd25 (a0_650 : List api_Instr) : Option Int :=
  whileO (go_slices_IndexFunc_api_Instr_api_Instr_odd25_s1 a0_650) 0

theorem go_slices_IndexFunc_api_Instr_api_Instr_odd25_sc (a0_650 : List api_Instr) (r : Int) (h : go_slices_IndexFunc_api_Instr_api_Instr_odd25 a0_650 = some r) : SC Tryd.prog gl 34 [V.sl 3 (rws api_Instr.cells a0_650), V.fn 25 []] (V.int .i64 r) := by
  rw [go_slices_IndexFunc_api_Instr_api_Instr_odd25] at h
  refine SC.of E_good Tryd.func34 rfl (fun _ _ => Tryd.call34 _ _) rfl ?_
  repeat (first | refine Safe.seq ?_ | refine Safe.skip ?_ | with_reducible refine thenQ.n ?_ | with_reducible refine blockQ.n ?_)
  refine Safe.region ?_
  refine SafeOps.quiet0 E_good rfl rfl rfl (v := V.int .i64 0) (.fn rfl) ?_
  refine SafeOps.nil ?_
  repeat (first | refine Safe.seq ?_ | refine Safe.skip ?_ | with_reducible refine thenQ.n ?_ | with_reducible refine blockQ.n ?_)
  refine Safe.region ?_
  refine SafeOps.quiet0 E_good rfl rfl rfl (v := V.sl 3 (rws api_Instr.cells a0_650)) (.fn rfl) ?_
  refine SafeOps.quiet0 E_good rfl rfl rfl (v := V.int .i64 (a0_650.length : Int)) (.fnE rfl lenE) ?_
  refine SafeOps.quiet0 E_good rfl rfl rfl (v := V.int .i64 0) (.fn rfl) ?_
  refine SafeOps.nil ?_
  repeat (first | refine Safe.seq ?_ | refine Safe.skip ?_ | with_reducible refine thenQ.n ?_ | with_reducible refine blockQ.n ?_)
  refine Safe.block ?_
  repeat (first | refine Safe.seq ?_ | refine Safe.skip ?_ | with_reducible refine thenQ.n ?_ | with_reducible refine blockQ.n ?_)
  refine Safe.loopW (fun (v8_711 : Int) => ⟨Tryd.f34.ntmps, [(0, V.sl 3 (rws api_Instr.cells a0_650)), (1, V.fn 25 []), (7, V.int .i64 (a0_650.length : Int)), (8, V.int .i64 v8_711)], [], [], []⟩) h (.cov ⟨rfl, rfl, (upT_cons (.refl _) (upT_cons (.refl _) (upT_cons (.refl _) (upT_cons (.refl _) upT_nil)))), upOb_nil, upOut_nil, rfl⟩) ?_
  intro v8_711 ohr712 h hr712
  replace h : go_slices_IndexFunc_api_Instr_api_Instr_odd25_s1 a0_650 v8_711 = some ohr712 := h
  rw [go_slices_IndexFunc_api_Instr_api_Instr_odd25_s1] at h
  repeat (first | refine Safe.seq ?_ | refine Safe.skip ?_ | with_reducible refine thenQ.n ?_ | with_reducible refine blockQ.n ?_)
  refine Safe.region ?_
  refine SafeOps.quiet0 E_good rfl rfl rfl (v := V.bool (decide (v8_711 < (a0_650.length : Int)))) (.fn rfl) ?_
  refine SafeOps.nil ?_
  repeat (first | refine Safe.seq ?_ | refine Safe.skip ?_ | with_reducible refine thenQ.n ?_ | with_reducible refine blockQ.n ?_)
  refine ifG h (fun hc713 h => ?_) (fun hc713 h => ?_)
  · skip
    refine Safe.condK rfl hc713 ?_
    repeat (first | refine Safe.seq ?_ | refine Safe.skip ?_ | with_reducible refine thenQ.n ?_ | with_reducible refine blockQ.n ?_)
    refine Safe.block ?_
    repeat (first | refine Safe.seq ?_ | refine Safe.skip ?_ | with_reducible refine thenQ.n ?_ | with_reducible refine blockQ.n ?_)
    refine Safe.region ?_
    refine SafeOps.quiet0 E_good rfl rfl rfl (v := V.int .i64 v8_711) (.fn rfl) ?_
    refine SafeOps.quiet0 E_good rfl rfl rfl (v := V.int .i64 v8_711) (.fn rfl) ?_
    refine SafeOps.nil ?_
    repeat (first | refine Safe.seq ?_ | refine Safe.skip ?_ | with_reducible refine thenQ.n ?_ | with_reducible refine blockQ.n ?_)
    refine Safe.region ?_
    refine SafeOps.quiet0 E_good rfl rfl rfl (v := V.fn 25 []) (.fn rfl) ?_
    refine SafeOps.quiet0 E_good rfl rfl rfl (v := V.sl 3 (rws api_Instr.cells a0_650)) (.fn rfl) ?_
    refine SafeOps.quiet0 E_good rfl rfl rfl (v := V.int .i64 v8_711) (.fn rfl) ?_
    refine okG h (fun hb714 h => ?_)
    refine SafeOps.quiet0 E_good rfl rfl rfl (v := V.spt 3 (rws api_Instr.cells a0_650) (Int.toNat v8_711) 0) (.idxSlM (f := api_Instr.cells) rfl rfl rfl rfl rfl hb714) ?_
    refine SafeOps.quiet0 E_good rfl rfl rfl (v := V.agg [V.int .i64 ((gt a0_650 v8_711).Op), V.int .i64 ((gt a0_650 v8_711).A), V.int .i64 ((gt a0_650 v8_711).B)]) (.load rfl rfl (.sptM (f := api_Instr.cells) hb714 rfl) rfl) ?_
    refine SafeOps.quiet0 E_good rfl rfl rfl (v := V.bool (go_code_odd (gt a0_650 v8_711))) (.callP rfl rfl (go_code_odd_sc (gt a0_650 v8_711) _ rfl) rfl) ?_
    refine SafeOps.nil ?_
    repeat (first | refine Safe.seq ?_ | refine Safe.skip ?_ | with_reducible refine thenQ.n ?_ | with_reducible refine blockQ.n ?_)
    refine ifG h (fun hc715 h => ?_) (fun hc715 h => ?_)
    · skip
      refine Safe.condK rfl hc715 ?_
      repeat (first | refine Safe.seq ?_ | refine Safe.skip ?_ | with_reducible refine thenQ.n ?_ | with_reducible refine blockQ.n ?_)
      refine Safe.region ?_
      refine SafeOps.quiet0 E_good rfl rfl rfl (v := V.int .i64 v8_711) (.fn rfl) ?_
      refine SafeOps.quiet0 E_good rfl rfl rfl (v := V.int .i64 v8_711) (.fn rfl) ?_
      refine SafeOps.nil ?_
      repeat (first | refine Safe.seq ?_ | refine Safe.skip ?_ | with_reducible refine thenQ.n ?_ | with_reducible refine blockQ.n ?_)
      refine Safe.ret ?_
      repeat (first | with_reducible refine thenQ.r ?_ | with_reducible refine blockQ.r ?_)
      replace h := inr_out h hr712
      obtain rfl := Option.some.inj h
      exact retQ.gen (vs := [V.int .i64 v8_711]) rfl (.tmp (v := V.int .i64 v8_711) rfl .nil) (.free rfl) (by simp) (.inr rfl)
    · skip
      refine Safe.condN rfl hc715 ?_
      repeat (first | refine Safe.seq ?_ | refine Safe.skip ?_ | with_reducible refine thenQ.n ?_ | with_reducible refine blockQ.n ?_)
      refine Safe.region ?_
      refine SafeOps.quiet0 E_good rfl rfl rfl (v := V.int .i64 (IntKind.i64.wrap (v8_711 + 1))) (.fn rfl) ?_
      refine SafeOps.quiet0 E_good rfl rfl rfl (v := V.int .i64 (IntKind.i64.wrap (v8_711 + 1))) (.fn rfl) ?_
      refine SafeOps.nil ?_
      repeat (first | refine Safe.seq ?_ | refine Safe.skip ?_ | with_reducible refine thenQ.n ?_ | with_reducible refine blockQ.n ?_)
      exact ⟨_, next_out h, (.cov ⟨rfl, rfl, (upT_cons (.refl _) (upT_cons (.refl _) (upT_cons (.refl _) (upT_cons (.refl _) upT_nil)))), upOb_nil, upOut_nil, rfl⟩)⟩
  · skip
    refine Safe.condN rfl hc713 ?_
    repeat (first | refine Safe.seq ?_ | refine Safe.skip ?_ | with_reducible refine thenQ.n ?_ | with_reducible refine blockQ.n ?_)
    refine Safe.exit ?_
    repeat (first | with_reducible refine thenQ.e ?_ | with_reducible refine blockQ.x rfl ?_ | with_reducible refine blockQ.y rfl ?_)
    replace h := inr_out h hr712
    repeat (first | refine Safe.seq ?_ | refine Safe.skip ?_ | with_reducible refine thenQ.n ?_ | with_reducible refine blockQ.n ?_)
    refine Safe.region ?_
    refine SafeOps.quiet0 E_good rfl rfl rfl (v := V.int .i64 (-1)) (.fn rfl) ?_
    refine SafeOps.nil ?_
    repeat (first | refine Safe.seq ?_ | refine Safe.skip ?_ | with_reducible refine thenQ.n ?_ | with_reducible refine blockQ.n ?_)
    refine Safe.ret ?_
    repeat (first | with_reducible refine thenQ.r ?_ | with_reducible refine blockQ.r ?_)
    obtain rfl := Option.some.inj h
    exact retQ.gen (vs := [V.int .i64 (-1)]) rfl (.tmp (v := V.int .i64 (-1)) rfl .nil) (.free rfl) (by simp) (.inr rfl)

noncomputable def go_slices_ContainsFunc_api_Instr_api_Instr_odd25 (a0_649 : List api_Instr) : Option Bool :=
  (go_slices_IndexFunc_api_Instr_api_Instr_odd25 a0_649).bind fun x_718 =>
  some (decide (x_718 ≥ 0))

theorem go_slices_ContainsFunc_api_Instr_api_Instr_odd25_sc (a0_649 : List api_Instr) (r : Bool) (h : go_slices_ContainsFunc_api_Instr_api_Instr_odd25 a0_649 = some r) : SC Tryd.prog gl 24 [V.sl 3 (rws api_Instr.cells a0_649), V.fn 25 []] (V.bool r) := by
  rw [go_slices_ContainsFunc_api_Instr_api_Instr_odd25] at h
  refine SC.of E_good Tryd.func24 rfl (fun _ _ => Tryd.call24 _ _) rfl ?_
  repeat (first | refine Safe.seq ?_ | refine Safe.skip ?_ | with_reducible refine thenQ.n ?_ | with_reducible refine blockQ.n ?_)
  refine Safe.region ?_
  refine SafeOps.quiet0 E_good rfl rfl rfl (v := V.bool false) (.fn rfl) ?_
  refine SafeOps.nil ?_
  repeat (first | refine Safe.seq ?_ | refine Safe.skip ?_ | with_reducible refine thenQ.n ?_ | with_reducible refine blockQ.n ?_)
  refine Safe.region ?_
  refine SafeOps.quiet0 E_good rfl rfl rfl (v := V.sl 3 (rws api_Instr.cells a0_649)) (.fn rfl) ?_
  refine SafeOps.quiet0 E_good rfl rfl rfl (v := V.fn 25 []) (.fn rfl) ?_
  refine bindG h ?_
  intro x_718 he719 h
  refine SafeOps.quiet0 E_good rfl rfl rfl (v := V.int .i64 x_718) (.callP rfl rfl (go_slices_IndexFunc_api_Instr_api_Instr_odd25_sc a0_649 _ he719) rfl) ?_
  refine SafeOps.quiet0 E_good rfl rfl rfl (v := V.bool (decide (x_718 ≥ 0))) (.fn rfl) ?_
  refine SafeOps.quiet0 E_good rfl rfl rfl (v := V.bool (decide (x_718 ≥ 0))) (.fn rfl) ?_
  refine SafeOps.nil ?_
  repeat (first | refine Safe.seq ?_ | refine Safe.skip ?_ | with_reducible refine thenQ.n ?_ | with_reducible refine blockQ.n ?_)
  refine Safe.ret ?_
  repeat (first | with_reducible refine thenQ.r ?_ | with_reducible refine blockQ.r ?_)
  obtain rfl := Option.some.inj h
  exact retQ.gen (vs := [V.bool (decide (x_718 ≥ 0))]) rfl (.tmp (v := V.bool (decide (x_718 ≥ 0))) rfl .nil) (.free rfl) (by simp) (.inr rfl)

noncomputable def go_code_Check (a0_646 : List api_Instr) : Option Int :=
  if ((decide ((a0_646.length : Int) < 1)) || (decide ((a0_646.length : Int) > 32))) = true then
    some 1
  else
    (go_slices_ContainsFunc_api_Instr_api_Instr_odd25 a0_646).bind fun x_734 =>
    if x_734 = true then
      some 1
    else
      some 0

theorem go_code_Check_sc (a0_646 : List api_Instr) (r : Int) (h : go_code_Check a0_646 = some r) : SC Tryd.prog gl 10 [V.sl 3 (rws api_Instr.cells a0_646)] (V.int .i64 r) := by
  rw [go_code_Check] at h
  refine SC.of E_good Tryd.func10 rfl (fun _ _ => Tryd.call10 _ _) rfl ?_
  repeat (first | refine Safe.seq ?_ | refine Safe.skip ?_ | with_reducible refine thenQ.n ?_ | with_reducible refine blockQ.n ?_)
  refine Safe.region ?_
  refine SafeOps.quiet0 E_good rfl rfl rfl (v := V.int .i64 0) (.fn rfl) ?_
  refine SafeOps.nil ?_
  repeat (first | refine Safe.seq ?_ | refine Safe.skip ?_ | with_reducible refine thenQ.n ?_ | with_reducible refine blockQ.n ?_)
  refine Safe.region ?_
  refine SafeOps.quiet0 E_good rfl rfl rfl (v := V.sl 3 (rws api_Instr.cells a0_646)) (.fn rfl) ?_
  refine SafeOps.quiet0 E_good rfl rfl rfl (v := V.int .i64 (a0_646.length : Int)) (.fnE rfl lenE) ?_
  refine SafeOps.quiet0 E_good rfl rfl rfl (v := V.bool (decide ((a0_646.length : Int) < 1))) (.fn rfl) ?_
  refine SafeOps.quiet0 E_good rfl rfl rfl (v := V.bool (decide ((a0_646.length : Int) < 1))) (.fn rfl) ?_
  refine SafeOps.bjoin 4 10 (b := ((decide ((a0_646.length : Int) < 1)) || (decide ((a0_646.length : Int) > 32)))) (b1 := true) (b0 := decide ((a0_646.length : Int) > 32)) (fun hc730 K => ?_) (fun hc730 K => ?_) bj_or ?_
  · skip
    refine SafeOps.skip (congrArg (fun b => some (!b)) hc730) rfl rfl ?_
    refine SafeOps.skip (congrArg (fun b => some (!b)) hc730) rfl rfl ?_
    refine SafeOps.skip (congrArg (fun b => some (!b)) hc730) rfl rfl ?_
    refine SafeOps.quiet0 E_good rfl rfl rfl (v := V.bool true) (.pickK rfl hc730 rfl) ?_
    exact SafeOps.drop' 4 rfl rfl rfl K
  · skip
    refine SafeOps.quiet0 E_good (congrArg (fun b => some (!b)) hc730) rfl rfl (v := V.sl 3 (rws api_Instr.cells a0_646)) (.fn rfl) ?_
    refine SafeOps.quiet0 E_good (congrArg (fun b => some (!b)) hc730) rfl rfl (v := V.int .i64 (a0_646.length : Int)) (.fnE rfl lenE) ?_
    refine SafeOps.quiet0 E_good (congrArg (fun b => some (!b)) hc730) rfl rfl (v := V.bool (decide ((a0_646.length : Int) > 32))) (.fn rfl) ?_
    refine SafeOps.quiet0 E_good rfl rfl rfl (v := V.bool (decide ((a0_646.length : Int) > 32))) (.pickK rfl hc730 rfl) ?_
    exact SafeOps.drop' 4 rfl rfl rfl K
  refine SafeOps.quiet0 E_good rfl rfl rfl (v := V.bool ((decide ((a0_646.length : Int) < 1)) || (decide ((a0_646.length : Int) > 32)))) (.fn rfl) ?_
  refine ifG h (fun hc731 h => ?_) (fun hc731 h => ?_)
  · skip
    refine SafeOps.skip (congrArg (fun b => some (!b)) hc731) rfl rfl ?_
    refine SafeOps.skip (congrArg (fun b => some (!b)) hc731) rfl rfl ?_
    refine SafeOps.quiet0 E_good rfl rfl rfl (v := V.bool true) (.pickK rfl hc731 rfl) ?_
    refine SafeOps.nil ?_
    repeat (first | refine Safe.seq ?_ | refine Safe.skip ?_ | with_reducible refine thenQ.n ?_ | with_reducible refine blockQ.n ?_)
    refine Safe.condK rfl rfl ?_
    repeat (first | refine Safe.seq ?_ | refine Safe.skip ?_ | with_reducible refine thenQ.n ?_ | with_reducible refine blockQ.n ?_)
    refine Safe.region ?_
    refine SafeOps.quiet0 E_good rfl rfl rfl (v := V.int .i64 1) (.fn rfl) ?_
    refine SafeOps.nil ?_
    repeat (first | refine Safe.seq ?_ | refine Safe.skip ?_ | with_reducible refine thenQ.n ?_ | with_reducible refine blockQ.n ?_)
    refine Safe.ret ?_
    repeat (first | with_reducible refine thenQ.r ?_ | with_reducible refine blockQ.r ?_)
    obtain rfl := Option.some.inj h
    exact retQ.gen (vs := [V.int .i64 1]) rfl (.tmp (v := V.int .i64 1) rfl .nil) (.free rfl) (by simp) (.inr rfl)
  · skip
    refine SafeOps.quiet0 E_good (congrArg (fun b => some (!b)) hc731) rfl rfl (v := V.sl 3 (rws api_Instr.cells a0_646)) (.fn rfl) ?_
    refine bindG h ?_
    intro x_734 he735 h
    refine SafeOps.quiet0 E_good (congrArg (fun b => some (!b)) hc731) rfl rfl (v := V.bool x_734) (.callP rfl rfl (go_slices_ContainsFunc_api_Instr_api_Instr_odd25_sc a0_646 _ he735) rfl) ?_
    refine SafeOps.quiet0 E_good rfl rfl rfl (v := V.bool x_734) (.pickK rfl hc731 rfl) ?_
    refine SafeOps.nil ?_
    repeat (first | refine Safe.seq ?_ | refine Safe.skip ?_ | with_reducible refine thenQ.n ?_ | with_reducible refine blockQ.n ?_)
    refine ifG h (fun hc736 h => ?_) (fun hc736 h => ?_)
    · skip
      refine Safe.condK rfl hc736 ?_
      repeat (first | refine Safe.seq ?_ | refine Safe.skip ?_ | with_reducible refine thenQ.n ?_ | with_reducible refine blockQ.n ?_)
      refine Safe.region ?_
      refine SafeOps.quiet0 E_good rfl rfl rfl (v := V.int .i64 1) (.fn rfl) ?_
      refine SafeOps.nil ?_
      repeat (first | refine Safe.seq ?_ | refine Safe.skip ?_ | with_reducible refine thenQ.n ?_ | with_reducible refine blockQ.n ?_)
      refine Safe.ret ?_
      repeat (first | with_reducible refine thenQ.r ?_ | with_reducible refine blockQ.r ?_)
      obtain rfl := Option.some.inj h
      exact retQ.gen (vs := [V.int .i64 1]) rfl (.tmp (v := V.int .i64 1) rfl .nil) (.free rfl) (by simp) (.inr rfl)
    · skip
      refine Safe.condN rfl hc736 ?_
      repeat (first | refine Safe.seq ?_ | refine Safe.skip ?_ | with_reducible refine thenQ.n ?_ | with_reducible refine blockQ.n ?_)
      refine Safe.region ?_
      refine SafeOps.quiet0 E_good rfl rfl rfl (v := V.int .i64 0) (.fn rfl) ?_
      refine SafeOps.nil ?_
      repeat (first | refine Safe.seq ?_ | refine Safe.skip ?_ | with_reducible refine thenQ.n ?_ | with_reducible refine blockQ.n ?_)
      refine Safe.ret ?_
      repeat (first | with_reducible refine thenQ.r ?_ | with_reducible refine blockQ.r ?_)
      obtain rfl := Option.some.inj h
      exact retQ.gen (vs := [V.int .i64 0]) rfl (.tmp (v := V.int .i64 0) rfl .nil) (.free rfl) (by simp) (.inr rfl)

noncomputable def go_step_Next_j2 (a0_641 : api_Task) (v60_762 : Int) (v61_763 : Int) (v62_764 : Int) : Option (api_Instr × Int) :=
  if ((decide (a0_641.Unit > 0)) && ((v60_762 != 1) || (decide (a0_641.Unit ≥ v61_763)))) = true then
    some (api_Instr.zero, 1)
  else
    some ((api_Instr.mk v60_762 v61_763 v62_764), 0)

noncomputable def go_step_Next_j1 (a0_641 : api_Task) (a1_642 : List api_Instr) (b_757 : Bool) : Option (api_Instr × Int) :=
  if (b_757 || (decide (a0_641.Pc > (a1_642.length : Int)))) = true then
    some (api_Instr.zero, 1)
  else
    if (decide (a0_641.Pc < (a1_642.length : Int))) = true then
      if 0 ≤ a0_641.Pc ∧ a0_641.Pc < (a1_642.length : Int) then
        go_step_Next_j2 a0_641 ((gt a1_642 a0_641.Pc).Op) ((gt a1_642 a0_641.Pc).A) ((gt a1_642 a0_641.Pc).B)
      else none
    else
      go_step_Next_j2 a0_641 9 0 0

noncomputable def go_step_Next (a0_641 : api_Task) (a1_642 : List api_Instr) : Option (api_Instr × Int) :=
  (go_life_Check a0_641).bind fun x_752 =>
  if (x_752 != 0) = true then
    go_step_Next_j1 a0_641 a1_642 true
  else
    (go_code_Check a1_642).bind fun x_771 =>
    go_step_Next_j1 a0_641 a1_642 (x_771 != 0)

theorem go_step_Next_sc (a0_641 : api_Task) (a1_642 : List api_Instr) (r : api_Instr × Int) (h : go_step_Next a0_641 a1_642 = some r) : SC Tryd.prog gl 14 [V.agg [V.int .i64 a0_641.Id, V.int .i64 a0_641.Tenant, V.int .i64 a0_641.Prog, V.int .i64 a0_641.Pc, V.int .i64 a0_641.Unit, V.int .i64 a0_641.Keeps.a0, V.int .i64 a0_641.Keeps.a1, V.int .i64 a0_641.Keeps.a2, V.int .i64 a0_641.Keeps.a3, V.int .i64 a0_641.State, V.int .i64 a0_641.Ran], V.sl 3 (rws api_Instr.cells a1_642)] (V.tup [V.agg [V.int .i64 r.1.Op, V.int .i64 r.1.A, V.int .i64 r.1.B], V.int .i64 r.2]) := by
  rw [go_step_Next] at h
  refine SC.of E_good Tryd.func14 rfl (fun _ _ => Tryd.call14 _ _) rfl ?_
  repeat (first | refine Safe.seq ?_ | refine Safe.skip ?_ | with_reducible refine thenQ.n ?_ | with_reducible refine blockQ.n ?_)
  refine Safe.region ?_
  refine SafeOps.quiet1 E_good rfl rfl rfl (.box rfl rfl) rfl ?_
  refine SafeOps.quiet1 E_good rfl rfl rfl (.alloc rfl rfl) rfl ?_
  refine SafeOps.quiet0 E_good rfl rfl rfl (v := V.int .i64 0) (.fn rfl) ?_
  refine SafeOps.nil ?_
  repeat (first | refine Safe.seq ?_ | refine Safe.skip ?_ | with_reducible refine thenQ.n ?_ | with_reducible refine blockQ.n ?_)
  refine Safe.region ?_
  refine SafeOps.quiet0 E_good rfl rfl rfl (v := V.agg [V.int .i64 a0_641.Id, V.int .i64 a0_641.Tenant, V.int .i64 a0_641.Prog, V.int .i64 a0_641.Pc, V.int .i64 a0_641.Unit, V.int .i64 a0_641.Keeps.a0, V.int .i64 a0_641.Keeps.a1, V.int .i64 a0_641.Keeps.a2, V.int .i64 a0_641.Keeps.a3, V.int .i64 a0_641.State, V.int .i64 a0_641.Ran]) (.load rfl rfl (.box rfl rfl) rfl) ?_
  refine bindG h ?_
  intro x_752 he753 h
  refine SafeOps.quiet0 E_good rfl rfl rfl (v := V.int .i64 x_752) (.callP rfl rfl (go_life_Check_sc a0_641 _ he753) rfl) ?_
  refine SafeOps.quiet0 E_good rfl rfl rfl (v := V.bool (x_752 != 0)) (.fn rfl) ?_
  refine SafeOps.quiet0 E_good rfl rfl rfl (v := V.bool (x_752 != 0)) (.fn rfl) ?_
  refine SafeOps.bsplit 4 14 (fun b_757 => go_step_Next_j1 a0_641 a1_642 b_757 = some r) (fun HJ758 => ?_) (fun b_757 h => ?_)
  · refine ifG h (fun hc754 h => ?_) (fun hc754 h => ?_)
    · skip
      refine SafeOps.skip (congrArg (fun b => some (!b)) hc754) rfl rfl ?_
      refine SafeOps.skip (congrArg (fun b => some (!b)) hc754) rfl rfl ?_
      refine SafeOps.skip (congrArg (fun b => some (!b)) hc754) rfl rfl ?_
      refine SafeOps.quiet0 E_good rfl rfl rfl (v := V.bool true) (.pickK rfl hc754 rfl) ?_
      exact SafeOps.drop' 4 rfl rfl rfl (HJ758 _ h)
    · skip
      refine SafeOps.quiet0 E_good (congrArg (fun b => some (!b)) hc754) rfl rfl (v := V.sl 3 (rws api_Instr.cells a1_642)) (.fn rfl) ?_
      refine bindG h ?_
      intro x_771 he772 h
      refine SafeOps.quiet0 E_good (congrArg (fun b => some (!b)) hc754) rfl rfl (v := V.int .i64 x_771) (.callP rfl rfl (go_code_Check_sc a1_642 _ he772) rfl) ?_
      refine SafeOps.quiet0 E_good (congrArg (fun b => some (!b)) hc754) rfl rfl (v := V.bool (x_771 != 0)) (.fn rfl) ?_
      refine SafeOps.quiet0 E_good rfl rfl rfl (v := V.bool (x_771 != 0)) (.pickK rfl hc754 rfl) ?_
      exact SafeOps.drop' 4 rfl rfl rfl (HJ758 _ h)
  · replace h : go_step_Next_j1 a0_641 a1_642 b_757 = some r := h
    rw [go_step_Next_j1] at h
    refine SafeOps.quiet0 E_good rfl rfl rfl (v := V.bool b_757) (.fn rfl) ?_
    refine SafeOps.bjoin 6 21 (b := (b_757 || (decide (a0_641.Pc > (a1_642.length : Int))))) (b1 := true) (b0 := decide (a0_641.Pc > (a1_642.length : Int))) (fun hc759 K => ?_) (fun hc759 K => ?_) bj_or ?_
    · skip
      refine SafeOps.skip (congrArg (fun b => some (!b)) hc759) rfl rfl ?_
      refine SafeOps.skip (congrArg (fun b => some (!b)) hc759) rfl rfl ?_
      refine SafeOps.skip (congrArg (fun b => some (!b)) hc759) rfl rfl ?_
      refine SafeOps.skip (congrArg (fun b => some (!b)) hc759) rfl rfl ?_
      refine SafeOps.skip (congrArg (fun b => some (!b)) hc759) rfl rfl ?_
      refine SafeOps.quiet0 E_good rfl rfl rfl (v := V.bool true) (.pickK rfl hc759 rfl) ?_
      exact SafeOps.drop' 6 rfl rfl rfl K
    · skip
      refine SafeOps.quiet0 E_good (congrArg (fun b => some (!b)) hc759) rfl rfl (v := V.ptr [2] 0 3) (.fn rfl) ?_
      refine SafeOps.quiet0 E_good (congrArg (fun b => some (!b)) hc759) rfl rfl (v := V.int .i64 a0_641.Pc) (.load rfl rfl (.box rfl rfl) rfl) ?_
      refine SafeOps.quiet0 E_good (congrArg (fun b => some (!b)) hc759) rfl rfl (v := V.sl 3 (rws api_Instr.cells a1_642)) (.fn rfl) ?_
      refine SafeOps.quiet0 E_good (congrArg (fun b => some (!b)) hc759) rfl rfl (v := V.int .i64 (a1_642.length : Int)) (.fnE rfl lenE) ?_
      refine SafeOps.quiet0 E_good (congrArg (fun b => some (!b)) hc759) rfl rfl (v := V.bool (decide (a0_641.Pc > (a1_642.length : Int)))) (.fn rfl) ?_
      refine SafeOps.quiet0 E_good rfl rfl rfl (v := V.bool (decide (a0_641.Pc > (a1_642.length : Int)))) (.pickK rfl hc759 rfl) ?_
      exact SafeOps.drop' 6 rfl rfl rfl K
    refine SafeOps.nil ?_
    repeat (first | refine Safe.seq ?_ | refine Safe.skip ?_ | with_reducible refine thenQ.n ?_ | with_reducible refine blockQ.n ?_)
    refine ifG h (fun hc760 h => ?_) (fun hc760 h => ?_)
    · skip
      refine Safe.condK rfl hc760 ?_
      repeat (first | refine Safe.seq ?_ | refine Safe.skip ?_ | with_reducible refine thenQ.n ?_ | with_reducible refine blockQ.n ?_)
      refine Safe.region ?_
      refine SafeOps.quiet0 E_good rfl rfl rfl (v := V.agg [V.int .i64 0, V.int .i64 0, V.int .i64 0]) (.fn rfl) ?_
      refine SafeOps.store (z := Obj.box [V.int .i64 0, V.int .i64 0, V.int .i64 0]) E_good rfl rfl rfl rfl rfl rfl rfl (.boxM (c := 3) rfl rfl (Nat.le_of_ble_eq_true rfl) rfl) ?_
      refine SafeOps.quiet0 E_good rfl rfl rfl (v := V.int .i64 1) (.fn rfl) ?_
      refine SafeOps.nil ?_
      repeat (first | refine Safe.seq ?_ | refine Safe.skip ?_ | with_reducible refine thenQ.n ?_ | with_reducible refine blockQ.n ?_)
      refine Safe.ret ?_
      repeat (first | with_reducible refine thenQ.r ?_ | with_reducible refine blockQ.r ?_)
      obtain rfl := Option.some.inj h
      exact retQ.gen (vs := [V.agg [V.int .i64 0, V.int .i64 0, V.int .i64 0], V.int .i64 1]) rfl (.cell (v := V.agg [V.int .i64 0, V.int .i64 0, V.int .i64 0]) rfl rfl (.box rfl rfl) rfl (.tmp (v := V.int .i64 1) rfl .nil)) (.free rfl) (by simp) (.inr rfl)
    · skip
      refine Safe.condN rfl hc760 ?_
      repeat (first | refine Safe.seq ?_ | refine Safe.skip ?_ | with_reducible refine thenQ.n ?_ | with_reducible refine blockQ.n ?_)
      refine Safe.region ?_
      refine SafeOps.quiet0 E_good rfl rfl rfl (v := V.agg [V.int .i64 9, V.int .i64 0, V.int .i64 0]) (.fn rfl) ?_
      refine SafeOps.quiet1 E_good rfl rfl rfl (.alloc rfl rfl) rfl ?_
      refine SafeOps.store (z := Obj.box [V.int .i64 9, V.int .i64 0, V.int .i64 0]) E_good rfl rfl rfl rfl rfl rfl rfl (.boxM (c := 3) rfl rfl (Nat.le_of_ble_eq_true rfl) rfl) ?_
      refine SafeOps.nil ?_
      repeat (first | refine Safe.seq ?_ | refine Safe.skip ?_ | with_reducible refine thenQ.n ?_ | with_reducible refine blockQ.n ?_)
      refine Safe.region ?_
      refine SafeOps.quiet0 E_good rfl rfl rfl (v := V.ptr [2] 0 3) (.fn rfl) ?_
      refine SafeOps.quiet0 E_good rfl rfl rfl (v := V.int .i64 a0_641.Pc) (.load rfl rfl (.box rfl rfl) rfl) ?_
      refine SafeOps.quiet0 E_good rfl rfl rfl (v := V.sl 3 (rws api_Instr.cells a1_642)) (.fn rfl) ?_
      refine SafeOps.quiet0 E_good rfl rfl rfl (v := V.int .i64 (a1_642.length : Int)) (.fnE rfl lenE) ?_
      refine SafeOps.quiet0 E_good rfl rfl rfl (v := V.bool (decide (a0_641.Pc < (a1_642.length : Int)))) (.fn rfl) ?_
      refine SafeOps.nil ?_
      repeat (first | refine Safe.seq ?_ | refine Safe.skip ?_ | with_reducible refine thenQ.n ?_ | with_reducible refine blockQ.n ?_)
      refine Safe.joinT (fun ((v60_762, v61_763, v62_764) : Int × Int × Int) => go_step_Next_j2 a0_641 v60_762 v61_763 v62_764 = some r) (fun ((v60_762, v61_763, v62_764) : Int × Int × Int) => ⟨Tryd.f14.ntmps, [(2, V.ptr [2] 0 0), (4, V.ptr [4] 0 0), (6, V.ptr [6] 0 0)], [([2], Obj.box [V.int .i64 a0_641.Id, V.int .i64 a0_641.Tenant, V.int .i64 a0_641.Prog, V.int .i64 a0_641.Pc, V.int .i64 a0_641.Unit, V.int .i64 a0_641.Keeps.a0, V.int .i64 a0_641.Keeps.a1, V.int .i64 a0_641.Keeps.a2, V.int .i64 a0_641.Keeps.a3, V.int .i64 a0_641.State, V.int .i64 a0_641.Ran]), ([4], Obj.box [V.int .i64 0, V.int .i64 0, V.int .i64 0]), ([6], Obj.box [V.int .i64 v60_762, V.int .i64 v61_763, V.int .i64 v62_764])], [], []⟩) ?_ (fun HJ765 => ?_)
      · rintro ⟨v60_762, v61_763, v62_764⟩ h
        replace h : go_step_Next_j2 a0_641 v60_762 v61_763 v62_764 = some r := h
        rw [go_step_Next_j2] at h
        repeat (first | refine Safe.seq ?_ | refine Safe.skip ?_ | with_reducible refine thenQ.n ?_ | with_reducible refine blockQ.n ?_)
        refine Safe.region ?_
        refine SafeOps.quiet0 E_good rfl rfl rfl (v := V.ptr [2] 0 4) (.fn rfl) ?_
        refine SafeOps.quiet0 E_good rfl rfl rfl (v := V.int .i64 a0_641.Unit) (.load rfl rfl (.box rfl rfl) rfl) ?_
        refine SafeOps.quiet0 E_good rfl rfl rfl (v := V.bool (decide (a0_641.Unit > 0))) (.fn rfl) ?_
        refine SafeOps.quiet0 E_good rfl rfl rfl (v := V.bool (decide (a0_641.Unit > 0))) (.fn rfl) ?_
        refine SafeOps.bjoin 11 48 (b := ((decide (a0_641.Unit > 0)) && ((v60_762 != 1) || (decide (a0_641.Unit ≥ v61_763))))) (b1 := ((v60_762 != 1) || (decide (a0_641.Unit ≥ v61_763)))) (b0 := false) (fun hc766 K => ?_) (fun hc766 K => ?_) bj_and ?_
        · skip
          refine SafeOps.quiet0 E_good (congrArg some hc766) rfl rfl (v := V.ptr [6] 0 0) (.fn rfl) ?_
          refine SafeOps.quiet0 E_good (congrArg some hc766) rfl rfl (v := V.int .i64 v60_762) (.load rfl rfl (.box rfl rfl) rfl) ?_
          refine SafeOps.quiet0 E_good (congrArg some hc766) rfl rfl (v := V.bool (v60_762 != 1)) (.fn rfl) ?_
          refine SafeOps.quiet0 E_good (congrArg some hc766) rfl rfl (v := V.bool (v60_762 != 1)) (.fn rfl) ?_
          refine SafeOps.bjoin 6 47 (b := ((v60_762 != 1) || (decide (a0_641.Unit ≥ v61_763)))) (b1 := true) (b0 := decide (a0_641.Unit ≥ v61_763)) (fun hc767 K => ?_) (fun hc767 K => ?_) bj_or ?_
          · skip
            refine SafeOps.skip (congrArg (fun b => some (!b)) hc767) rfl rfl ?_
            refine SafeOps.skip (congrArg (fun b => some (!b)) hc767) rfl rfl ?_
            refine SafeOps.skip (congrArg (fun b => some (!b)) hc767) rfl rfl ?_
            refine SafeOps.skip (congrArg (fun b => some (!b)) hc767) rfl rfl ?_
            refine SafeOps.skip (congrArg (fun b => some (!b)) hc767) rfl rfl ?_
            refine SafeOps.quiet0 E_good (congrArg some hc766) rfl rfl (v := V.bool true) (.pickK rfl hc767 rfl) ?_
            exact SafeOps.drop' 6 rfl rfl rfl K
          · skip
            refine SafeOps.quiet0 E_good (congrArg (fun b => some (!b)) hc767) rfl rfl (v := V.ptr [2] 0 4) (.fn rfl) ?_
            refine SafeOps.quiet0 E_good (congrArg (fun b => some (!b)) hc767) rfl rfl (v := V.int .i64 a0_641.Unit) (.load rfl rfl (.box rfl rfl) rfl) ?_
            refine SafeOps.quiet0 E_good (congrArg (fun b => some (!b)) hc767) rfl rfl (v := V.ptr [6] 0 1) (.fn rfl) ?_
            refine SafeOps.quiet0 E_good (congrArg (fun b => some (!b)) hc767) rfl rfl (v := V.int .i64 v61_763) (.load rfl rfl (.box rfl rfl) rfl) ?_
            refine SafeOps.quiet0 E_good (congrArg (fun b => some (!b)) hc767) rfl rfl (v := V.bool (decide (a0_641.Unit ≥ v61_763))) (.fn rfl) ?_
            refine SafeOps.quiet0 E_good (congrArg some hc766) rfl rfl (v := V.bool (decide (a0_641.Unit ≥ v61_763))) (.pickK rfl hc767 rfl) ?_
            exact SafeOps.drop' 6 rfl rfl rfl K
          refine SafeOps.quiet0 E_good rfl rfl rfl (v := V.bool ((v60_762 != 1) || (decide (a0_641.Unit ≥ v61_763)))) (.pickK rfl hc766 rfl) ?_
          exact SafeOps.drop' 6 rfl rfl rfl K
        · skip
          refine SafeOps.skip (congrArg some hc766) rfl rfl ?_
          refine SafeOps.skip (congrArg some hc766) rfl rfl ?_
          refine SafeOps.skip (congrArg some hc766) rfl rfl ?_
          refine SafeOps.skip (congrArg some hc766) rfl rfl ?_
          refine SafeOps.skip rfl rfl rfl ?_
          refine SafeOps.skip rfl rfl rfl ?_
          refine SafeOps.skip rfl rfl rfl ?_
          refine SafeOps.skip rfl rfl rfl ?_
          refine SafeOps.skip rfl rfl rfl ?_
          refine SafeOps.skip (congrArg some hc766) rfl rfl ?_
          refine SafeOps.quiet0 E_good rfl rfl rfl (v := V.bool false) (.pickK rfl hc766 rfl) ?_
          exact SafeOps.drop' 11 rfl rfl rfl K
        refine SafeOps.nil ?_
        repeat (first | refine Safe.seq ?_ | refine Safe.skip ?_ | with_reducible refine thenQ.n ?_ | with_reducible refine blockQ.n ?_)
        refine ifG h (fun hc768 h => ?_) (fun hc768 h => ?_)
        · skip
          refine Safe.condK rfl hc768 ?_
          repeat (first | refine Safe.seq ?_ | refine Safe.skip ?_ | with_reducible refine thenQ.n ?_ | with_reducible refine blockQ.n ?_)
          refine Safe.region ?_
          refine SafeOps.quiet0 E_good rfl rfl rfl (v := V.agg [V.int .i64 0, V.int .i64 0, V.int .i64 0]) (.fn rfl) ?_
          refine SafeOps.store (z := Obj.box [V.int .i64 0, V.int .i64 0, V.int .i64 0]) E_good rfl rfl rfl rfl rfl rfl rfl (.boxM (c := 3) rfl rfl (Nat.le_of_ble_eq_true rfl) rfl) ?_
          refine SafeOps.quiet0 E_good rfl rfl rfl (v := V.int .i64 1) (.fn rfl) ?_
          refine SafeOps.nil ?_
          repeat (first | refine Safe.seq ?_ | refine Safe.skip ?_ | with_reducible refine thenQ.n ?_ | with_reducible refine blockQ.n ?_)
          refine Safe.ret ?_
          repeat (first | with_reducible refine thenQ.r ?_ | with_reducible refine blockQ.r ?_)
          obtain rfl := Option.some.inj h
          exact retQ.gen (vs := [V.agg [V.int .i64 0, V.int .i64 0, V.int .i64 0], V.int .i64 1]) rfl (.cell (v := V.agg [V.int .i64 0, V.int .i64 0, V.int .i64 0]) rfl rfl (.box rfl rfl) rfl (.tmp (v := V.int .i64 1) rfl .nil)) (.free rfl) (by simp) (.inr rfl)
        · skip
          refine Safe.condN rfl hc768 ?_
          repeat (first | refine Safe.seq ?_ | refine Safe.skip ?_ | with_reducible refine thenQ.n ?_ | with_reducible refine blockQ.n ?_)
          refine Safe.region ?_
          refine SafeOps.quiet0 E_good rfl rfl rfl (v := V.agg [V.int .i64 v60_762, V.int .i64 v61_763, V.int .i64 v62_764]) (.load rfl rfl (.box rfl rfl) rfl) ?_
          refine SafeOps.store (z := Obj.box [V.int .i64 v60_762, V.int .i64 v61_763, V.int .i64 v62_764]) E_good rfl rfl rfl rfl rfl rfl rfl (.boxM (c := 3) rfl rfl (Nat.le_of_ble_eq_true rfl) rfl) ?_
          refine SafeOps.quiet0 E_good rfl rfl rfl (v := V.int .i64 0) (.fn rfl) ?_
          refine SafeOps.nil ?_
          repeat (first | refine Safe.seq ?_ | refine Safe.skip ?_ | with_reducible refine thenQ.n ?_ | with_reducible refine blockQ.n ?_)
          refine Safe.ret ?_
          repeat (first | with_reducible refine thenQ.r ?_ | with_reducible refine blockQ.r ?_)
          obtain rfl := Option.some.inj h
          exact retQ.gen (vs := [V.agg [V.int .i64 v60_762, V.int .i64 v61_763, V.int .i64 v62_764], V.int .i64 0]) rfl (.cell (v := V.agg [V.int .i64 v60_762, V.int .i64 v61_763, V.int .i64 v62_764]) rfl rfl (.box rfl rfl) rfl (.tmp (v := V.int .i64 0) rfl .nil)) (.free rfl) (by simp) (.inr rfl)
      · skip
        refine ifG h (fun hc769 h => ?_) (fun hc769 h => ?_)
        · skip
          refine Safe.condK rfl hc769 ?_
          repeat (first | refine Safe.seq ?_ | refine Safe.skip ?_ | with_reducible refine thenQ.n ?_ | with_reducible refine blockQ.n ?_)
          refine Safe.region ?_
          refine SafeOps.quiet0 E_good rfl rfl rfl (v := V.sl 3 (rws api_Instr.cells a1_642)) (.fn rfl) ?_
          refine SafeOps.quiet0 E_good rfl rfl rfl (v := V.ptr [2] 0 3) (.fn rfl) ?_
          refine SafeOps.quiet0 E_good rfl rfl rfl (v := V.int .i64 a0_641.Pc) (.load rfl rfl (.box rfl rfl) rfl) ?_
          refine okG h (fun hb770 h => ?_)
          refine SafeOps.quiet0 E_good rfl rfl rfl (v := V.spt 3 (rws api_Instr.cells a1_642) (Int.toNat a0_641.Pc) 0) (.idxSlM (f := api_Instr.cells) rfl rfl rfl rfl rfl hb770) ?_
          refine SafeOps.quiet0 E_good rfl rfl rfl (v := V.agg [V.int .i64 ((gt a1_642 a0_641.Pc).Op), V.int .i64 ((gt a1_642 a0_641.Pc).A), V.int .i64 ((gt a1_642 a0_641.Pc).B)]) (.load rfl rfl (.sptM (f := api_Instr.cells) hb770 rfl) rfl) ?_
          refine SafeOps.store (z := Obj.box [V.int .i64 ((gt a1_642 a0_641.Pc).Op), V.int .i64 ((gt a1_642 a0_641.Pc).A), V.int .i64 ((gt a1_642 a0_641.Pc).B)]) E_good rfl rfl rfl rfl rfl rfl rfl (.boxM (c := 3) rfl rfl (Nat.le_of_ble_eq_true rfl) rfl) ?_
          refine SafeOps.nil ?_
          repeat (first | refine Safe.skip ?_ | with_reducible refine thenQ.n ?_ | with_reducible refine blockQ.n ?_)
          exact Safe.got (HJ765 ((gt a1_642 a0_641.Pc).Op, (gt a1_642 a0_641.Pc).A, (gt a1_642 a0_641.Pc).B) h) (.cov ⟨rfl, rfl, (upT_cons (.refl _) (upT_cons (.refl _) (upT_cons (.refl _) upT_nil))), (upOb_cons rfl (.refl _) (upOb_cons rfl (.refl _) (upOb_cons rfl (.refl _) upOb_nil))), upOut_nil, rfl⟩)
        · skip
          refine Safe.condN rfl hc769 ?_
          repeat (first | refine Safe.skip ?_ | with_reducible refine thenQ.n ?_ | with_reducible refine blockQ.n ?_)
          exact Safe.got (HJ765 (9, 0, 0) h) (.cov ⟨rfl, rfl, (upT_cons (.refl _) (upT_cons (.refl _) (upT_cons (.refl _) upT_nil))), (upOb_cons rfl (.refl _) (upOb_cons rfl (.refl _) (upOb_cons rfl (.refl _) upOb_nil))), upOut_nil, rfl⟩)

noncomputable def go_step_Do_j1 (a0_780 : api_Task) (a1_781 : List api_Instr) (v24_809 : Int) (v90_810 : Int) (v91_811 : Int) (v92_812 : Int) : Option (api_Task × api_Effect × Int) :=
  some ((api_Task.mk a0_780.Id a0_780.Tenant a0_780.Prog (if (a1_781.length : Int) < (IntKind.i64.wrap (a0_780.Pc + 1)) then (a1_781.length : Int) else IntKind.i64.wrap (a0_780.Pc + 1)) 0 a0_780.Keeps a0_780.State (IntKind.i64.wrap (a0_780.Ran + 1))), (api_Effect.mk v90_810 v91_811 v92_812), 0)

noncomputable def go_step_Do (a0_780 : api_Task) (a1_781 : List api_Instr) : Option (api_Task × api_Effect × Int) :=
  (go_step_Next a0_780 a1_781).bind fun (x_799, x_800) =>
  if (x_800 != 0) = true then
    some (api_Task.zero, api_Effect.zero, x_800)
  else
    if (a0_780.State != 2) = true then
      some (api_Task.zero, api_Effect.zero, 9)
    else
      if (a0_780.Ran == 1099511627776) = true then
        some (api_Task.zero, api_Effect.zero, 4)
      else
        if (x_799.Op == 1) = true then
          if (decide ((IntKind.i64.wrap (a0_780.Unit + 1)) < x_799.A)) = true then
            some ((api_Task.mk a0_780.Id a0_780.Tenant a0_780.Prog a0_780.Pc (IntKind.i64.wrap (a0_780.Unit + 1)) a0_780.Keeps a0_780.State (IntKind.i64.wrap (a0_780.Ran + 1))), api_Effect.zero, 0)
          else
            go_step_Do_j1 a0_780 a1_781 (IntKind.i64.wrap (a0_780.Unit + 1)) 0 0 0
        else
          go_step_Do_j1 a0_780 a1_781 a0_780.Unit x_799.Op x_799.A x_799.B

theorem go_step_Do_sc (a0_780 : api_Task) (a1_781 : List api_Instr) (r : api_Task × api_Effect × Int) (h : go_step_Do a0_780 a1_781 = some r) : SC Tryd.prog gl 13 [V.agg [V.int .i64 a0_780.Id, V.int .i64 a0_780.Tenant, V.int .i64 a0_780.Prog, V.int .i64 a0_780.Pc, V.int .i64 a0_780.Unit, V.int .i64 a0_780.Keeps.a0, V.int .i64 a0_780.Keeps.a1, V.int .i64 a0_780.Keeps.a2, V.int .i64 a0_780.Keeps.a3, V.int .i64 a0_780.State, V.int .i64 a0_780.Ran], V.sl 3 (rws api_Instr.cells a1_781)] (V.tup [V.agg [V.int .i64 r.1.Id, V.int .i64 r.1.Tenant, V.int .i64 r.1.Prog, V.int .i64 r.1.Pc, V.int .i64 r.1.Unit, V.int .i64 r.1.Keeps.a0, V.int .i64 r.1.Keeps.a1, V.int .i64 r.1.Keeps.a2, V.int .i64 r.1.Keeps.a3, V.int .i64 r.1.State, V.int .i64 r.1.Ran], V.agg [V.int .i64 r.2.1.Kind, V.int .i64 r.2.1.A, V.int .i64 r.2.1.B], V.int .i64 r.2.2]) := by
  rw [go_step_Do] at h
  refine SC.of E_good Tryd.func13 rfl (fun _ _ => Tryd.call13 _ _) rfl ?_
  repeat (first | refine Safe.seq ?_ | refine Safe.skip ?_ | with_reducible refine thenQ.n ?_ | with_reducible refine blockQ.n ?_)
  refine Safe.region ?_
  refine SafeOps.quiet1 E_good rfl rfl rfl (.box rfl rfl) rfl ?_
  refine SafeOps.quiet1 E_good rfl rfl rfl (.alloc rfl rfl) rfl ?_
  refine SafeOps.quiet1 E_good rfl rfl rfl (.alloc rfl rfl) rfl ?_
  refine SafeOps.quiet0 E_good rfl rfl rfl (v := V.int .i64 0) (.fn rfl) ?_
  refine SafeOps.nil ?_
  repeat (first | refine Safe.seq ?_ | refine Safe.skip ?_ | with_reducible refine thenQ.n ?_ | with_reducible refine blockQ.n ?_)
  refine Safe.region ?_
  refine SafeOps.quiet0 E_good rfl rfl rfl (v := V.agg [V.int .i64 a0_780.Id, V.int .i64 a0_780.Tenant, V.int .i64 a0_780.Prog, V.int .i64 a0_780.Pc, V.int .i64 a0_780.Unit, V.int .i64 a0_780.Keeps.a0, V.int .i64 a0_780.Keeps.a1, V.int .i64 a0_780.Keeps.a2, V.int .i64 a0_780.Keeps.a3, V.int .i64 a0_780.State, V.int .i64 a0_780.Ran]) (.load rfl rfl (.box rfl rfl) rfl) ?_
  refine SafeOps.quiet0 E_good rfl rfl rfl (v := V.sl 3 (rws api_Instr.cells a1_781)) (.fn rfl) ?_
  refine bindG h ?_
  rintro ⟨x_799, x_800⟩ he801 h
  refine SafeOps.quiet0 E_good rfl rfl rfl (v := V.tup [V.agg [V.int .i64 x_799.Op, V.int .i64 x_799.A, V.int .i64 x_799.B], V.int .i64 x_800]) (.callP rfl rfl (go_step_Next_sc a0_780 a1_781 _ he801) rfl) ?_
  refine SafeOps.quiet0 E_good rfl rfl rfl (v := V.tup [V.agg [V.int .i64 x_799.Op, V.int .i64 x_799.A, V.int .i64 x_799.B], V.int .i64 x_800]) (.fn rfl) ?_
  refine SafeOps.quiet0 E_good rfl rfl rfl (v := V.agg [V.int .i64 x_799.Op, V.int .i64 x_799.A, V.int .i64 x_799.B]) (.fn rfl) ?_
  refine SafeOps.quiet0 E_good rfl rfl rfl (v := V.int .i64 x_800) (.fn rfl) ?_
  refine SafeOps.quiet1 E_good rfl rfl rfl (.alloc rfl rfl) rfl ?_
  refine SafeOps.store (z := Obj.box [V.int .i64 x_799.Op, V.int .i64 x_799.A, V.int .i64 x_799.B]) E_good rfl rfl rfl rfl rfl rfl rfl (.boxM (c := 3) rfl rfl (Nat.le_of_ble_eq_true rfl) rfl) ?_
  refine SafeOps.quiet0 E_good rfl rfl rfl (v := V.int .i64 x_800) (.fn rfl) ?_
  refine SafeOps.nil ?_
  repeat (first | refine Safe.seq ?_ | refine Safe.skip ?_ | with_reducible refine thenQ.n ?_ | with_reducible refine blockQ.n ?_)
  refine Safe.block ?_
  repeat (first | refine Safe.seq ?_ | refine Safe.skip ?_ | with_reducible refine thenQ.n ?_ | with_reducible refine blockQ.n ?_)
  refine Safe.region ?_
  refine SafeOps.quiet0 E_good rfl rfl rfl (v := V.int .i64 x_800) (.fn rfl) ?_
  refine SafeOps.quiet0 E_good rfl rfl rfl (v := V.bool (x_800 != 0)) (.fn rfl) ?_
  refine SafeOps.quiet0 E_good rfl rfl rfl (v := V.bool (x_800 != 0)) (.fn rfl) ?_
  refine SafeOps.nil ?_
  repeat (first | refine Safe.seq ?_ | refine Safe.skip ?_ | with_reducible refine thenQ.n ?_ | with_reducible refine blockQ.n ?_)
  refine ifG h (fun hc805 h => ?_) (fun hc805 h => ?_)
  · skip
    refine Safe.condK rfl hc805 ?_
    repeat (first | refine Safe.seq ?_ | refine Safe.skip ?_ | with_reducible refine thenQ.n ?_ | with_reducible refine blockQ.n ?_)
    refine Safe.region ?_
    refine SafeOps.quiet0 E_good rfl rfl rfl (v := V.agg [V.int .i64 0, V.int .i64 0, V.int .i64 0, V.int .i64 0, V.int .i64 0, V.int .i64 0, V.int .i64 0, V.int .i64 0, V.int .i64 0, V.int .i64 0, V.int .i64 0]) (.fn rfl) ?_
    refine SafeOps.quiet0 E_good rfl rfl rfl (v := V.agg [V.int .i64 0, V.int .i64 0, V.int .i64 0]) (.fn rfl) ?_
    refine SafeOps.quiet0 E_good rfl rfl rfl (v := V.int .i64 x_800) (.fn rfl) ?_
    refine SafeOps.store (z := Obj.box [V.int .i64 0, V.int .i64 0, V.int .i64 0, V.int .i64 0, V.int .i64 0, V.int .i64 0, V.int .i64 0, V.int .i64 0, V.int .i64 0, V.int .i64 0, V.int .i64 0]) E_good rfl rfl rfl rfl rfl rfl rfl (.boxM (c := 11) rfl rfl (Nat.le_of_ble_eq_true rfl) rfl) ?_
    refine SafeOps.store (z := Obj.box [V.int .i64 0, V.int .i64 0, V.int .i64 0]) E_good rfl rfl rfl rfl rfl rfl rfl (.boxM (c := 3) rfl rfl (Nat.le_of_ble_eq_true rfl) rfl) ?_
    refine SafeOps.quiet0 E_good rfl rfl rfl (v := V.int .i64 x_800) (.fn rfl) ?_
    refine SafeOps.nil ?_
    repeat (first | refine Safe.seq ?_ | refine Safe.skip ?_ | with_reducible refine thenQ.n ?_ | with_reducible refine blockQ.n ?_)
    refine Safe.ret ?_
    repeat (first | with_reducible refine thenQ.r ?_ | with_reducible refine blockQ.r ?_)
    obtain rfl := Option.some.inj h
    exact retQ.gen (vs := [V.agg [V.int .i64 0, V.int .i64 0, V.int .i64 0, V.int .i64 0, V.int .i64 0, V.int .i64 0, V.int .i64 0, V.int .i64 0, V.int .i64 0, V.int .i64 0, V.int .i64 0], V.agg [V.int .i64 0, V.int .i64 0, V.int .i64 0], V.int .i64 x_800]) rfl (.cell (v := V.agg [V.int .i64 0, V.int .i64 0, V.int .i64 0, V.int .i64 0, V.int .i64 0, V.int .i64 0, V.int .i64 0, V.int .i64 0, V.int .i64 0, V.int .i64 0, V.int .i64 0]) rfl rfl (.box rfl rfl) rfl (.cell (v := V.agg [V.int .i64 0, V.int .i64 0, V.int .i64 0]) rfl rfl (.box rfl rfl) rfl (.tmp (v := V.int .i64 x_800) rfl .nil))) (.free rfl) (by simp) (.inr rfl)
  · skip
    refine Safe.condN rfl hc805 ?_
    repeat (first | refine Safe.seq ?_ | refine Safe.skip ?_ | with_reducible refine thenQ.n ?_ | with_reducible refine blockQ.n ?_)
    refine Safe.region ?_
    refine SafeOps.quiet0 E_good rfl rfl rfl (v := V.ptr [2] 0 9) (.fn rfl) ?_
    refine SafeOps.quiet0 E_good rfl rfl rfl (v := V.int .i64 a0_780.State) (.load rfl rfl (.box rfl rfl) rfl) ?_
    refine SafeOps.quiet0 E_good rfl rfl rfl (v := V.bool (a0_780.State != 2)) (.fn rfl) ?_
    refine SafeOps.quiet0 E_good rfl rfl rfl (v := V.bool (a0_780.State != 2)) (.fn rfl) ?_
    refine SafeOps.nil ?_
    repeat (first | refine Safe.seq ?_ | refine Safe.skip ?_ | with_reducible refine thenQ.n ?_ | with_reducible refine blockQ.n ?_)
    refine ifG h (fun hc806 h => ?_) (fun hc806 h => ?_)
    · skip
      refine Safe.condK rfl hc806 ?_
      repeat (first | refine Safe.seq ?_ | refine Safe.skip ?_ | with_reducible refine thenQ.n ?_ | with_reducible refine blockQ.n ?_)
      refine Safe.region ?_
      refine SafeOps.quiet0 E_good rfl rfl rfl (v := V.agg [V.int .i64 0, V.int .i64 0, V.int .i64 0, V.int .i64 0, V.int .i64 0, V.int .i64 0, V.int .i64 0, V.int .i64 0, V.int .i64 0, V.int .i64 0, V.int .i64 0]) (.fn rfl) ?_
      refine SafeOps.quiet0 E_good rfl rfl rfl (v := V.agg [V.int .i64 0, V.int .i64 0, V.int .i64 0]) (.fn rfl) ?_
      refine SafeOps.store (z := Obj.box [V.int .i64 0, V.int .i64 0, V.int .i64 0, V.int .i64 0, V.int .i64 0, V.int .i64 0, V.int .i64 0, V.int .i64 0, V.int .i64 0, V.int .i64 0, V.int .i64 0]) E_good rfl rfl rfl rfl rfl rfl rfl (.boxM (c := 11) rfl rfl (Nat.le_of_ble_eq_true rfl) rfl) ?_
      refine SafeOps.store (z := Obj.box [V.int .i64 0, V.int .i64 0, V.int .i64 0]) E_good rfl rfl rfl rfl rfl rfl rfl (.boxM (c := 3) rfl rfl (Nat.le_of_ble_eq_true rfl) rfl) ?_
      refine SafeOps.quiet0 E_good rfl rfl rfl (v := V.int .i64 9) (.fn rfl) ?_
      refine SafeOps.nil ?_
      repeat (first | refine Safe.seq ?_ | refine Safe.skip ?_ | with_reducible refine thenQ.n ?_ | with_reducible refine blockQ.n ?_)
      refine Safe.ret ?_
      repeat (first | with_reducible refine thenQ.r ?_ | with_reducible refine blockQ.r ?_)
      obtain rfl := Option.some.inj h
      exact retQ.gen (vs := [V.agg [V.int .i64 0, V.int .i64 0, V.int .i64 0, V.int .i64 0, V.int .i64 0, V.int .i64 0, V.int .i64 0, V.int .i64 0, V.int .i64 0, V.int .i64 0, V.int .i64 0], V.agg [V.int .i64 0, V.int .i64 0, V.int .i64 0], V.int .i64 9]) rfl (.cell (v := V.agg [V.int .i64 0, V.int .i64 0, V.int .i64 0, V.int .i64 0, V.int .i64 0, V.int .i64 0, V.int .i64 0, V.int .i64 0, V.int .i64 0, V.int .i64 0, V.int .i64 0]) rfl rfl (.box rfl rfl) rfl (.cell (v := V.agg [V.int .i64 0, V.int .i64 0, V.int .i64 0]) rfl rfl (.box rfl rfl) rfl (.tmp (v := V.int .i64 9) rfl .nil))) (.free rfl) (by simp) (.inr rfl)
    · skip
      refine Safe.condN rfl hc806 ?_
      repeat (first | refine Safe.seq ?_ | refine Safe.skip ?_ | with_reducible refine thenQ.n ?_ | with_reducible refine blockQ.n ?_)
      refine Safe.region ?_
      refine SafeOps.quiet0 E_good rfl rfl rfl (v := V.ptr [2] 0 10) (.fn rfl) ?_
      refine SafeOps.quiet0 E_good rfl rfl rfl (v := V.int .i64 a0_780.Ran) (.load rfl rfl (.box rfl rfl) rfl) ?_
      refine SafeOps.quiet0 E_good rfl rfl rfl (v := V.bool (a0_780.Ran == 1099511627776)) (.fn rfl) ?_
      refine SafeOps.quiet0 E_good rfl rfl rfl (v := V.bool (a0_780.Ran == 1099511627776)) (.fn rfl) ?_
      refine SafeOps.nil ?_
      repeat (first | refine Safe.seq ?_ | refine Safe.skip ?_ | with_reducible refine thenQ.n ?_ | with_reducible refine blockQ.n ?_)
      refine ifG h (fun hc807 h => ?_) (fun hc807 h => ?_)
      · skip
        refine Safe.condK rfl hc807 ?_
        repeat (first | refine Safe.seq ?_ | refine Safe.skip ?_ | with_reducible refine thenQ.n ?_ | with_reducible refine blockQ.n ?_)
        refine Safe.region ?_
        refine SafeOps.quiet0 E_good rfl rfl rfl (v := V.agg [V.int .i64 0, V.int .i64 0, V.int .i64 0, V.int .i64 0, V.int .i64 0, V.int .i64 0, V.int .i64 0, V.int .i64 0, V.int .i64 0, V.int .i64 0, V.int .i64 0]) (.fn rfl) ?_
        refine SafeOps.quiet0 E_good rfl rfl rfl (v := V.agg [V.int .i64 0, V.int .i64 0, V.int .i64 0]) (.fn rfl) ?_
        refine SafeOps.store (z := Obj.box [V.int .i64 0, V.int .i64 0, V.int .i64 0, V.int .i64 0, V.int .i64 0, V.int .i64 0, V.int .i64 0, V.int .i64 0, V.int .i64 0, V.int .i64 0, V.int .i64 0]) E_good rfl rfl rfl rfl rfl rfl rfl (.boxM (c := 11) rfl rfl (Nat.le_of_ble_eq_true rfl) rfl) ?_
        refine SafeOps.store (z := Obj.box [V.int .i64 0, V.int .i64 0, V.int .i64 0]) E_good rfl rfl rfl rfl rfl rfl rfl (.boxM (c := 3) rfl rfl (Nat.le_of_ble_eq_true rfl) rfl) ?_
        refine SafeOps.quiet0 E_good rfl rfl rfl (v := V.int .i64 4) (.fn rfl) ?_
        refine SafeOps.nil ?_
        repeat (first | refine Safe.seq ?_ | refine Safe.skip ?_ | with_reducible refine thenQ.n ?_ | with_reducible refine blockQ.n ?_)
        refine Safe.ret ?_
        repeat (first | with_reducible refine thenQ.r ?_ | with_reducible refine blockQ.r ?_)
        obtain rfl := Option.some.inj h
        exact retQ.gen (vs := [V.agg [V.int .i64 0, V.int .i64 0, V.int .i64 0, V.int .i64 0, V.int .i64 0, V.int .i64 0, V.int .i64 0, V.int .i64 0, V.int .i64 0, V.int .i64 0, V.int .i64 0], V.agg [V.int .i64 0, V.int .i64 0, V.int .i64 0], V.int .i64 4]) rfl (.cell (v := V.agg [V.int .i64 0, V.int .i64 0, V.int .i64 0, V.int .i64 0, V.int .i64 0, V.int .i64 0, V.int .i64 0, V.int .i64 0, V.int .i64 0, V.int .i64 0, V.int .i64 0]) rfl rfl (.box rfl rfl) rfl (.cell (v := V.agg [V.int .i64 0, V.int .i64 0, V.int .i64 0]) rfl rfl (.box rfl rfl) rfl (.tmp (v := V.int .i64 4) rfl .nil))) (.free rfl) (by simp) (.inr rfl)
      · skip
        refine Safe.condN rfl hc807 ?_
        repeat (first | refine Safe.seq ?_ | refine Safe.skip ?_ | with_reducible refine thenQ.n ?_ | with_reducible refine blockQ.n ?_)
        refine Safe.region ?_
        refine SafeOps.quiet0 E_good rfl rfl rfl (v := V.ptr [2] 0 10) (.fn rfl) ?_
        refine SafeOps.quiet0 E_good rfl rfl rfl (v := V.int .i64 a0_780.Ran) (.load rfl rfl (.box rfl rfl) rfl) ?_
        refine SafeOps.quiet0 E_good rfl rfl rfl (v := V.int .i64 (IntKind.i64.wrap (a0_780.Ran + 1))) (.fn rfl) ?_
        refine SafeOps.quiet0 E_good rfl rfl rfl (v := V.ptr [2] 0 10) (.fn rfl) ?_
        refine SafeOps.store (z := Obj.box [V.int .i64 a0_780.Id, V.int .i64 a0_780.Tenant, V.int .i64 a0_780.Prog, V.int .i64 a0_780.Pc, V.int .i64 a0_780.Unit, V.int .i64 a0_780.Keeps.a0, V.int .i64 a0_780.Keeps.a1, V.int .i64 a0_780.Keeps.a2, V.int .i64 a0_780.Keeps.a3, V.int .i64 a0_780.State, V.int .i64 (IntKind.i64.wrap (a0_780.Ran + 1))]) E_good rfl rfl rfl rfl rfl rfl rfl (.boxM (c := 11) rfl rfl (Nat.le_of_ble_eq_true rfl) rfl) ?_
        refine SafeOps.nil ?_
        repeat (first | refine Safe.seq ?_ | refine Safe.skip ?_ | with_reducible refine thenQ.n ?_ | with_reducible refine blockQ.n ?_)
        refine Safe.region ?_
        refine SafeOps.quiet0 E_good rfl rfl rfl (v := V.ptr [7] 0 0) (.fn rfl) ?_
        refine SafeOps.quiet0 E_good rfl rfl rfl (v := V.int .i64 x_799.Op) (.load rfl rfl (.box rfl rfl) rfl) ?_
        refine SafeOps.quiet0 E_good rfl rfl rfl (v := V.ptr [7] 0 1) (.fn rfl) ?_
        refine SafeOps.quiet0 E_good rfl rfl rfl (v := V.int .i64 x_799.A) (.load rfl rfl (.box rfl rfl) rfl) ?_
        refine SafeOps.quiet0 E_good rfl rfl rfl (v := V.ptr [7] 0 2) (.fn rfl) ?_
        refine SafeOps.quiet0 E_good rfl rfl rfl (v := V.int .i64 x_799.B) (.load rfl rfl (.box rfl rfl) rfl) ?_
        refine SafeOps.quiet0 E_good rfl rfl rfl (v := V.agg [V.int .i64 x_799.Op, V.int .i64 x_799.A, V.int .i64 x_799.B]) (.fn rfl) ?_
        refine SafeOps.quiet1 E_good rfl rfl rfl (.alloc rfl rfl) rfl ?_
        refine SafeOps.store (z := Obj.box [V.int .i64 x_799.Op, V.int .i64 x_799.A, V.int .i64 x_799.B]) E_good rfl rfl rfl rfl rfl rfl rfl (.boxM (c := 3) rfl rfl (Nat.le_of_ble_eq_true rfl) rfl) ?_
        refine SafeOps.nil ?_
        repeat (first | refine Safe.seq ?_ | refine Safe.skip ?_ | with_reducible refine thenQ.n ?_ | with_reducible refine blockQ.n ?_)
        refine Safe.region ?_
        refine SafeOps.quiet0 E_good rfl rfl rfl (v := V.ptr [7] 0 0) (.fn rfl) ?_
        refine SafeOps.quiet0 E_good rfl rfl rfl (v := V.int .i64 x_799.Op) (.load rfl rfl (.box rfl rfl) rfl) ?_
        refine SafeOps.quiet0 E_good rfl rfl rfl (v := V.bool (x_799.Op == 1)) (.fn rfl) ?_
        refine SafeOps.nil ?_
        repeat (first | refine Safe.seq ?_ | refine Safe.skip ?_ | with_reducible refine thenQ.n ?_ | with_reducible refine blockQ.n ?_)
        refine Safe.joinT (fun ((v24_809, v90_810, v91_811, v92_812) : Int × Int × Int × Int) => go_step_Do_j1 a0_780 a1_781 v24_809 v90_810 v91_811 v92_812 = some r) (fun ((v24_809, v90_810, v91_811, v92_812) : Int × Int × Int × Int) => ⟨Tryd.f13.ntmps, [(1, V.sl 3 (rws api_Instr.cells a1_781)), (2, V.ptr [2] 0 0), (4, V.ptr [4] 0 0), (5, V.ptr [5] 0 0), (9, V.ptr [9] 0 0)], [([2], Obj.box [V.int .i64 a0_780.Id, V.int .i64 a0_780.Tenant, V.int .i64 a0_780.Prog, V.int .i64 a0_780.Pc, V.int .i64 v24_809, V.int .i64 a0_780.Keeps.a0, V.int .i64 a0_780.Keeps.a1, V.int .i64 a0_780.Keeps.a2, V.int .i64 a0_780.Keeps.a3, V.int .i64 a0_780.State, V.int .i64 (IntKind.i64.wrap (a0_780.Ran + 1))]), ([4], Obj.box [V.int .i64 0, V.int .i64 0, V.int .i64 0, V.int .i64 0, V.int .i64 0, V.int .i64 0, V.int .i64 0, V.int .i64 0, V.int .i64 0, V.int .i64 0, V.int .i64 0]), ([5], Obj.box [V.int .i64 0, V.int .i64 0, V.int .i64 0]), ([9], Obj.box [V.int .i64 v90_810, V.int .i64 v91_811, V.int .i64 v92_812])], [], []⟩) ?_ (fun HJ813 => ?_)
        · rintro ⟨v24_809, v90_810, v91_811, v92_812⟩ h
          replace h : go_step_Do_j1 a0_780 a1_781 v24_809 v90_810 v91_811 v92_812 = some r := h
          rw [go_step_Do_j1] at h
          repeat (first | refine Safe.seq ?_ | refine Safe.skip ?_ | with_reducible refine thenQ.n ?_ | with_reducible refine blockQ.n ?_)
          refine Safe.region ?_
          refine SafeOps.quiet0 E_good rfl rfl rfl (v := V.ptr [2] 0 3) (.fn rfl) ?_
          refine SafeOps.quiet0 E_good rfl rfl rfl (v := V.int .i64 a0_780.Pc) (.load rfl rfl (.box rfl rfl) rfl) ?_
          refine SafeOps.quiet0 E_good rfl rfl rfl (v := V.int .i64 (IntKind.i64.wrap (a0_780.Pc + 1))) (.fn rfl) ?_
          refine SafeOps.quiet0 E_good rfl rfl rfl (v := V.sl 3 (rws api_Instr.cells a1_781)) (.fn rfl) ?_
          refine SafeOps.quiet0 E_good rfl rfl rfl (v := V.int .i64 (a1_781.length : Int)) (.fnE rfl lenE) ?_
          refine SafeOps.quiet0 E_good rfl rfl rfl (v := V.int .i64 (if (a1_781.length : Int) < (IntKind.i64.wrap (a0_780.Pc + 1)) then (a1_781.length : Int) else IntKind.i64.wrap (a0_780.Pc + 1))) (.fn rfl) ?_
          refine SafeOps.quiet0 E_good rfl rfl rfl (v := V.ptr [2] 0 4) (.fn rfl) ?_
          refine SafeOps.store (z := Obj.box [V.int .i64 a0_780.Id, V.int .i64 a0_780.Tenant, V.int .i64 a0_780.Prog, V.int .i64 a0_780.Pc, V.int .i64 0, V.int .i64 a0_780.Keeps.a0, V.int .i64 a0_780.Keeps.a1, V.int .i64 a0_780.Keeps.a2, V.int .i64 a0_780.Keeps.a3, V.int .i64 a0_780.State, V.int .i64 (IntKind.i64.wrap (a0_780.Ran + 1))]) E_good rfl rfl rfl rfl rfl rfl rfl (.boxM (c := 11) rfl rfl (Nat.le_of_ble_eq_true rfl) rfl) ?_
          refine SafeOps.quiet0 E_good rfl rfl rfl (v := V.ptr [2] 0 3) (.fn rfl) ?_
          refine SafeOps.store (z := Obj.box [V.int .i64 a0_780.Id, V.int .i64 a0_780.Tenant, V.int .i64 a0_780.Prog, V.int .i64 (if (a1_781.length : Int) < (IntKind.i64.wrap (a0_780.Pc + 1)) then (a1_781.length : Int) else IntKind.i64.wrap (a0_780.Pc + 1)), V.int .i64 0, V.int .i64 a0_780.Keeps.a0, V.int .i64 a0_780.Keeps.a1, V.int .i64 a0_780.Keeps.a2, V.int .i64 a0_780.Keeps.a3, V.int .i64 a0_780.State, V.int .i64 (IntKind.i64.wrap (a0_780.Ran + 1))]) E_good rfl rfl rfl rfl rfl rfl rfl (.boxM (c := 11) rfl rfl (Nat.le_of_ble_eq_true rfl) rfl) ?_
          refine SafeOps.nil ?_
          repeat (first | refine Safe.seq ?_ | refine Safe.skip ?_ | with_reducible refine thenQ.n ?_ | with_reducible refine blockQ.n ?_)
          refine Safe.regionD (n := 5) [(2, [4]), (3, [5])] [] E_good mixed rfl ?_
          refine DAny.take (i := 0) rfl (by kernel_rfl) [[4], [5]] (by kernel_rfl) (by kernel_rfl) (by kernel_rfl) rfl rfl rfl (v := V.agg [V.int .i64 a0_780.Id, V.int .i64 a0_780.Tenant, V.int .i64 a0_780.Prog, V.int .i64 (if (a1_781.length : Int) < (IntKind.i64.wrap (a0_780.Pc + 1)) then (a1_781.length : Int) else IntKind.i64.wrap (a0_780.Pc + 1)), V.int .i64 0, V.int .i64 a0_780.Keeps.a0, V.int .i64 a0_780.Keeps.a1, V.int .i64 a0_780.Keeps.a2, V.int .i64 a0_780.Keeps.a3, V.int .i64 a0_780.State, V.int .i64 (IntKind.i64.wrap (a0_780.Ran + 1))]) (fun _ hz => (.load rfl rfl (.box (hz _ _ rfl rfl) rfl) rfl)) ?_
          refine DAny.take (i := 1) rfl (by kernel_rfl) [[4], [5]] (by kernel_rfl) (by kernel_rfl) (by kernel_rfl) rfl rfl rfl (v := V.agg [V.int .i64 v90_810, V.int .i64 v91_811, V.int .i64 v92_812]) (fun _ hz => (.load rfl rfl (.box (hz _ _ rfl rfl) rfl) rfl)) ?_
          refine DAny.only (i := 2) rfl (by kernel_rfl) (.store (z := Obj.box [V.int .i64 a0_780.Id, V.int .i64 a0_780.Tenant, V.int .i64 a0_780.Prog, V.int .i64 (if (a1_781.length : Int) < (IntKind.i64.wrap (a0_780.Pc + 1)) then (a1_781.length : Int) else IntKind.i64.wrap (a0_780.Pc + 1)), V.int .i64 0, V.int .i64 a0_780.Keeps.a0, V.int .i64 a0_780.Keeps.a1, V.int .i64 a0_780.Keeps.a2, V.int .i64 a0_780.Keeps.a3, V.int .i64 a0_780.State, V.int .i64 (IntKind.i64.wrap (a0_780.Ran + 1))]) rfl rfl rfl rfl rfl rfl rfl (.boxM (c := 11) rfl rfl (Nat.le_of_ble_eq_true rfl) rfl) rfl ?_)
          refine DAny.only (i := 3) rfl (by kernel_rfl) (.store (z := Obj.box [V.int .i64 v90_810, V.int .i64 v91_811, V.int .i64 v92_812]) rfl rfl rfl rfl rfl rfl rfl (.boxM (c := 3) rfl rfl (Nat.le_of_ble_eq_true rfl) rfl) rfl ?_)
          refine DAny.take (i := 4) rfl (by kernel_rfl) [[4], [5]] (by kernel_rfl) (by kernel_rfl) (by kernel_rfl) rfl rfl rfl (v := V.int .i64 0) (fun _ hz => (.fn rfl)) ?_
          refine DAny.nil (by kernel_rfl) ?_
          repeat (first | refine Safe.seq ?_ | refine Safe.skip ?_ | with_reducible refine thenQ.n ?_ | with_reducible refine blockQ.n ?_)
          refine Safe.ret ?_
          repeat (first | with_reducible refine thenQ.r ?_ | with_reducible refine blockQ.r ?_)
          obtain rfl := Option.some.inj h
          exact retQ.gen (vs := [V.agg [V.int .i64 a0_780.Id, V.int .i64 a0_780.Tenant, V.int .i64 a0_780.Prog, V.int .i64 (if (a1_781.length : Int) < (IntKind.i64.wrap (a0_780.Pc + 1)) then (a1_781.length : Int) else IntKind.i64.wrap (a0_780.Pc + 1)), V.int .i64 0, V.int .i64 a0_780.Keeps.a0, V.int .i64 a0_780.Keeps.a1, V.int .i64 a0_780.Keeps.a2, V.int .i64 a0_780.Keeps.a3, V.int .i64 a0_780.State, V.int .i64 (IntKind.i64.wrap (a0_780.Ran + 1))], V.agg [V.int .i64 v90_810, V.int .i64 v91_811, V.int .i64 v92_812], V.int .i64 0]) rfl (.cell (v := V.agg [V.int .i64 a0_780.Id, V.int .i64 a0_780.Tenant, V.int .i64 a0_780.Prog, V.int .i64 (if (a1_781.length : Int) < (IntKind.i64.wrap (a0_780.Pc + 1)) then (a1_781.length : Int) else IntKind.i64.wrap (a0_780.Pc + 1)), V.int .i64 0, V.int .i64 a0_780.Keeps.a0, V.int .i64 a0_780.Keeps.a1, V.int .i64 a0_780.Keeps.a2, V.int .i64 a0_780.Keeps.a3, V.int .i64 a0_780.State, V.int .i64 (IntKind.i64.wrap (a0_780.Ran + 1))]) rfl rfl (.box rfl rfl) rfl (.cell (v := V.agg [V.int .i64 v90_810, V.int .i64 v91_811, V.int .i64 v92_812]) rfl rfl (.box rfl rfl) rfl (.tmp (v := V.int .i64 0) rfl .nil))) (.free rfl) (by simp) (.inr rfl)
        · skip
          refine ifG h (fun hc814 h => ?_) (fun hc814 h => ?_)
          · skip
            refine Safe.condK rfl hc814 ?_
            repeat (first | refine Safe.seq ?_ | refine Safe.skip ?_ | with_reducible refine thenQ.n ?_ | with_reducible refine blockQ.n ?_)
            refine Safe.region ?_
            refine SafeOps.quiet0 E_good rfl rfl rfl (v := V.agg [V.int .i64 0, V.int .i64 0, V.int .i64 0]) (.fn rfl) ?_
            refine SafeOps.store (z := Obj.box [V.int .i64 0, V.int .i64 0, V.int .i64 0]) E_good rfl rfl rfl rfl rfl rfl rfl (.boxM (c := 3) rfl rfl (Nat.le_of_ble_eq_true rfl) rfl) ?_
            refine SafeOps.nil ?_
            repeat (first | refine Safe.seq ?_ | refine Safe.skip ?_ | with_reducible refine thenQ.n ?_ | with_reducible refine blockQ.n ?_)
            refine Safe.region ?_
            refine SafeOps.quiet0 E_good rfl rfl rfl (v := V.ptr [2] 0 4) (.fn rfl) ?_
            refine SafeOps.quiet0 E_good rfl rfl rfl (v := V.int .i64 a0_780.Unit) (.load rfl rfl (.box rfl rfl) rfl) ?_
            refine SafeOps.quiet0 E_good rfl rfl rfl (v := V.int .i64 (IntKind.i64.wrap (a0_780.Unit + 1))) (.fn rfl) ?_
            refine SafeOps.quiet0 E_good rfl rfl rfl (v := V.ptr [2] 0 4) (.fn rfl) ?_
            refine SafeOps.store (z := Obj.box [V.int .i64 a0_780.Id, V.int .i64 a0_780.Tenant, V.int .i64 a0_780.Prog, V.int .i64 a0_780.Pc, V.int .i64 (IntKind.i64.wrap (a0_780.Unit + 1)), V.int .i64 a0_780.Keeps.a0, V.int .i64 a0_780.Keeps.a1, V.int .i64 a0_780.Keeps.a2, V.int .i64 a0_780.Keeps.a3, V.int .i64 a0_780.State, V.int .i64 (IntKind.i64.wrap (a0_780.Ran + 1))]) E_good rfl rfl rfl rfl rfl rfl rfl (.boxM (c := 11) rfl rfl (Nat.le_of_ble_eq_true rfl) rfl) ?_
            refine SafeOps.nil ?_
            repeat (first | refine Safe.seq ?_ | refine Safe.skip ?_ | with_reducible refine thenQ.n ?_ | with_reducible refine blockQ.n ?_)
            refine Safe.region ?_
            refine SafeOps.quiet0 E_good rfl rfl rfl (v := V.ptr [2] 0 4) (.fn rfl) ?_
            refine SafeOps.quiet0 E_good rfl rfl rfl (v := V.int .i64 (IntKind.i64.wrap (a0_780.Unit + 1))) (.load rfl rfl (.box rfl rfl) rfl) ?_
            refine SafeOps.quiet0 E_good rfl rfl rfl (v := V.ptr [7] 0 1) (.fn rfl) ?_
            refine SafeOps.quiet0 E_good rfl rfl rfl (v := V.int .i64 x_799.A) (.load rfl rfl (.box rfl rfl) rfl) ?_
            refine SafeOps.quiet0 E_good rfl rfl rfl (v := V.bool (decide ((IntKind.i64.wrap (a0_780.Unit + 1)) < x_799.A))) (.fn rfl) ?_
            refine SafeOps.nil ?_
            repeat (first | refine Safe.seq ?_ | refine Safe.skip ?_ | with_reducible refine thenQ.n ?_ | with_reducible refine blockQ.n ?_)
            refine ifG h (fun hc815 h => ?_) (fun hc815 h => ?_)
            · skip
              refine Safe.condK rfl hc815 ?_
              repeat (first | refine Safe.seq ?_ | refine Safe.skip ?_ | with_reducible refine thenQ.n ?_ | with_reducible refine blockQ.n ?_)
              refine Safe.regionD (n := 5) [(2, [4]), (3, [5])] [] E_good mixed rfl ?_
              refine DAny.take (i := 0) rfl (by kernel_rfl) [[4], [5]] (by kernel_rfl) (by kernel_rfl) (by kernel_rfl) rfl rfl rfl (v := V.agg [V.int .i64 a0_780.Id, V.int .i64 a0_780.Tenant, V.int .i64 a0_780.Prog, V.int .i64 a0_780.Pc, V.int .i64 (IntKind.i64.wrap (a0_780.Unit + 1)), V.int .i64 a0_780.Keeps.a0, V.int .i64 a0_780.Keeps.a1, V.int .i64 a0_780.Keeps.a2, V.int .i64 a0_780.Keeps.a3, V.int .i64 a0_780.State, V.int .i64 (IntKind.i64.wrap (a0_780.Ran + 1))]) (fun _ hz => (.load rfl rfl (.box (hz _ _ rfl rfl) rfl) rfl)) ?_
              refine DAny.take (i := 1) rfl (by kernel_rfl) [[4], [5]] (by kernel_rfl) (by kernel_rfl) (by kernel_rfl) rfl rfl rfl (v := V.agg [V.int .i64 0, V.int .i64 0, V.int .i64 0]) (fun _ hz => (.load rfl rfl (.box (hz _ _ rfl rfl) rfl) rfl)) ?_
              refine DAny.only (i := 2) rfl (by kernel_rfl) (.store (z := Obj.box [V.int .i64 a0_780.Id, V.int .i64 a0_780.Tenant, V.int .i64 a0_780.Prog, V.int .i64 a0_780.Pc, V.int .i64 (IntKind.i64.wrap (a0_780.Unit + 1)), V.int .i64 a0_780.Keeps.a0, V.int .i64 a0_780.Keeps.a1, V.int .i64 a0_780.Keeps.a2, V.int .i64 a0_780.Keeps.a3, V.int .i64 a0_780.State, V.int .i64 (IntKind.i64.wrap (a0_780.Ran + 1))]) rfl rfl rfl rfl rfl rfl rfl (.boxM (c := 11) rfl rfl (Nat.le_of_ble_eq_true rfl) rfl) rfl ?_)
              refine DAny.only (i := 3) rfl (by kernel_rfl) (.store (z := Obj.box [V.int .i64 0, V.int .i64 0, V.int .i64 0]) rfl rfl rfl rfl rfl rfl rfl (.boxM (c := 3) rfl rfl (Nat.le_of_ble_eq_true rfl) rfl) rfl ?_)
              refine DAny.take (i := 4) rfl (by kernel_rfl) [[4], [5]] (by kernel_rfl) (by kernel_rfl) (by kernel_rfl) rfl rfl rfl (v := V.int .i64 0) (fun _ hz => (.fn rfl)) ?_
              refine DAny.nil (by kernel_rfl) ?_
              repeat (first | refine Safe.seq ?_ | refine Safe.skip ?_ | with_reducible refine thenQ.n ?_ | with_reducible refine blockQ.n ?_)
              refine Safe.ret ?_
              repeat (first | with_reducible refine thenQ.r ?_ | with_reducible refine blockQ.r ?_)
              obtain rfl := Option.some.inj h
              exact retQ.gen (vs := [V.agg [V.int .i64 a0_780.Id, V.int .i64 a0_780.Tenant, V.int .i64 a0_780.Prog, V.int .i64 a0_780.Pc, V.int .i64 (IntKind.i64.wrap (a0_780.Unit + 1)), V.int .i64 a0_780.Keeps.a0, V.int .i64 a0_780.Keeps.a1, V.int .i64 a0_780.Keeps.a2, V.int .i64 a0_780.Keeps.a3, V.int .i64 a0_780.State, V.int .i64 (IntKind.i64.wrap (a0_780.Ran + 1))], V.agg [V.int .i64 0, V.int .i64 0, V.int .i64 0], V.int .i64 0]) rfl (.cell (v := V.agg [V.int .i64 a0_780.Id, V.int .i64 a0_780.Tenant, V.int .i64 a0_780.Prog, V.int .i64 a0_780.Pc, V.int .i64 (IntKind.i64.wrap (a0_780.Unit + 1)), V.int .i64 a0_780.Keeps.a0, V.int .i64 a0_780.Keeps.a1, V.int .i64 a0_780.Keeps.a2, V.int .i64 a0_780.Keeps.a3, V.int .i64 a0_780.State, V.int .i64 (IntKind.i64.wrap (a0_780.Ran + 1))]) rfl rfl (.box rfl rfl) rfl (.cell (v := V.agg [V.int .i64 0, V.int .i64 0, V.int .i64 0]) rfl rfl (.box rfl rfl) rfl (.tmp (v := V.int .i64 0) rfl .nil))) (.free rfl) (by simp) (.inr rfl)
            · skip
              refine Safe.condN rfl hc815 ?_
              repeat (first | refine Safe.skip ?_ | with_reducible refine thenQ.n ?_ | with_reducible refine blockQ.n ?_)
              exact Safe.got (HJ813 (IntKind.i64.wrap (a0_780.Unit + 1), 0, 0, 0) h) (.cov ⟨rfl, rfl, (upT_cons (.refl _) (upT_cons (.refl _) (upT_cons (.refl _) (upT_cons (.refl _) (upT_cons (.refl _) upT_nil))))), (upOb_cons rfl (.refl _) (upOb_cons rfl (.refl _) (upOb_cons rfl (.refl _) (upOb_cons rfl (.refl _) upOb_nil)))), upOut_nil, rfl⟩)
          · skip
            refine Safe.condN rfl hc814 ?_
            repeat (first | refine Safe.skip ?_ | with_reducible refine thenQ.n ?_ | with_reducible refine blockQ.n ?_)
            exact Safe.got (HJ813 (a0_780.Unit, x_799.Op, x_799.A, x_799.B) h) (.cov ⟨rfl, rfl, (upT_cons (.refl _) (upT_cons (.refl _) (upT_cons (.refl _) (upT_cons (.refl _) (upT_cons (.refl _) upT_nil))))), (upOb_cons rfl (.refl _) (upOb_cons rfl (.refl _) (upOb_cons rfl (.refl _) (upOb_cons rfl (.refl _) upOb_nil)))), upOut_nil, rfl⟩)

noncomputable def go_step_Slice_s2 (a1_639 : List api_Instr) (a2_640 : Int) : (Int × Int × Int × Int × Int × Int × Int × Int × Int × Int × Int × Int × Int × Int × Int) → Option ((Int × Int × Int × Int × Int × Int × Int × Int × Int × Int × Int × Int × Int × Int × Int) ⊕ (api_Task × api_Effect × Int × Int))
  | (v8_1002, v30_1003, v31_1004, v32_1005, v33_1006, v34_1007, v35_1008, v36_1009, v37_1010, v38_1011, v39_1012, v310_1013, v70_1014, v71_1015, v72_1016) =>
    if ((v70_1014 == 0) && (decide (v8_1002 < a2_640))) = true then
      (go_step_Do (api_Task.mk v30_1003 v31_1004 v32_1005 v33_1006 v34_1007 (A4_Int.mk v35_1008 v36_1009 v37_1010 v38_1011) v39_1012 v310_1013) a1_639).bind fun (x_1020, x_1021, x_1022) =>
      if (x_1022 != 0) = true then
        inrO (
          some (api_Task.zero, api_Effect.zero, 0, x_1022))
      else
        nextO (IntKind.i64.wrap (v8_1002 + 1), x_1020.Id, x_1020.Tenant, x_1020.Prog, x_1020.Pc, x_1020.Unit, x_1020.Keeps.a0, x_1020.Keeps.a1, x_1020.Keeps.a2, x_1020.Keeps.a3, x_1020.State, x_1020.Ran, x_1021.Kind, x_1021.A, x_1021.B)
    else
      inrO (
        some ((api_Task.mk v30_1003 v31_1004 v32_1005 v33_1006 v34_1007 (A4_Int.mk v35_1008 v36_1009 v37_1010 v38_1011) v39_1012 v310_1013), (api_Effect.mk v70_1014 v71_1015 v72_1016), v8_1002, 0))

noncomputable def go_step_Slice (a0_638 : api_Task) (a1_639 : List api_Instr) (a2_640 : Int) : Option (api_Task × api_Effect × Int × Int) :=
  (go_step_Next a0_638 a1_639).bind fun (x_917, x_918) =>
  if (((x_918 != 0) || (decide (a2_640 < 1))) || (decide (a2_640 > 100))) = true then
    some (api_Task.zero, api_Effect.zero, 0, 1)
  else
    whileO (go_step_Slice_s2 a1_639 a2_640) (0, a0_638.Id, a0_638.Tenant, a0_638.Prog, a0_638.Pc, a0_638.Unit, a0_638.Keeps.a0, a0_638.Keeps.a1, a0_638.Keeps.a2, a0_638.Keeps.a3, a0_638.State, a0_638.Ran, 0, 0, 0)

theorem go_step_Slice_sc (a0_638 : api_Task) (a1_639 : List api_Instr) (a2_640 : Int) (r : api_Task × api_Effect × Int × Int) (h : go_step_Slice a0_638 a1_639 a2_640 = some r) : SC Tryd.prog gl 12 [V.agg [V.int .i64 a0_638.Id, V.int .i64 a0_638.Tenant, V.int .i64 a0_638.Prog, V.int .i64 a0_638.Pc, V.int .i64 a0_638.Unit, V.int .i64 a0_638.Keeps.a0, V.int .i64 a0_638.Keeps.a1, V.int .i64 a0_638.Keeps.a2, V.int .i64 a0_638.Keeps.a3, V.int .i64 a0_638.State, V.int .i64 a0_638.Ran], V.sl 3 (rws api_Instr.cells a1_639), V.int .i64 a2_640] (V.tup [V.agg [V.int .i64 r.1.Id, V.int .i64 r.1.Tenant, V.int .i64 r.1.Prog, V.int .i64 r.1.Pc, V.int .i64 r.1.Unit, V.int .i64 r.1.Keeps.a0, V.int .i64 r.1.Keeps.a1, V.int .i64 r.1.Keeps.a2, V.int .i64 r.1.Keeps.a3, V.int .i64 r.1.State, V.int .i64 r.1.Ran], V.agg [V.int .i64 r.2.1.Kind, V.int .i64 r.2.1.A, V.int .i64 r.2.1.B], V.int .i64 r.2.2.1, V.int .i64 r.2.2.2]) := by
  rw [go_step_Slice] at h
  refine SC.of E_good Tryd.func12 rfl (fun _ _ => Tryd.call12 _ _) rfl ?_
  repeat (first | refine Safe.seq ?_ | refine Safe.skip ?_ | with_reducible refine thenQ.n ?_ | with_reducible refine blockQ.n ?_)
  refine Safe.region ?_
  refine SafeOps.quiet1 E_good rfl rfl rfl (.box rfl rfl) rfl ?_
  refine SafeOps.quiet1 E_good rfl rfl rfl (.alloc rfl rfl) rfl ?_
  refine SafeOps.quiet1 E_good rfl rfl rfl (.alloc rfl rfl) rfl ?_
  refine SafeOps.quiet0 E_good rfl rfl rfl (v := V.int .i64 0) (.fn rfl) ?_
  refine SafeOps.quiet0 E_good rfl rfl rfl (v := V.int .i64 0) (.fn rfl) ?_
  refine SafeOps.nil ?_
  repeat (first | refine Safe.seq ?_ | refine Safe.skip ?_ | with_reducible refine thenQ.n ?_ | with_reducible refine blockQ.n ?_)
  refine Safe.region ?_
  refine SafeOps.quiet0 E_good rfl rfl rfl (v := V.agg [V.int .i64 a0_638.Id, V.int .i64 a0_638.Tenant, V.int .i64 a0_638.Prog, V.int .i64 a0_638.Pc, V.int .i64 a0_638.Unit, V.int .i64 a0_638.Keeps.a0, V.int .i64 a0_638.Keeps.a1, V.int .i64 a0_638.Keeps.a2, V.int .i64 a0_638.Keeps.a3, V.int .i64 a0_638.State, V.int .i64 a0_638.Ran]) (.load rfl rfl (.box rfl rfl) rfl) ?_
  refine SafeOps.quiet0 E_good rfl rfl rfl (v := V.sl 3 (rws api_Instr.cells a1_639)) (.fn rfl) ?_
  refine bindG h ?_
  rintro ⟨x_917, x_918⟩ he919 h
  refine SafeOps.quiet0 E_good rfl rfl rfl (v := V.tup [V.agg [V.int .i64 x_917.Op, V.int .i64 x_917.A, V.int .i64 x_917.B], V.int .i64 x_918]) (.callP rfl rfl (go_step_Next_sc a0_638 a1_639 _ he919) rfl) ?_
  refine SafeOps.quiet0 E_good rfl rfl rfl (v := V.tup [V.agg [V.int .i64 x_917.Op, V.int .i64 x_917.A, V.int .i64 x_917.B], V.int .i64 x_918]) (.fn rfl) ?_
  refine SafeOps.quiet0 E_good rfl rfl rfl (v := V.agg [V.int .i64 x_917.Op, V.int .i64 x_917.A, V.int .i64 x_917.B]) (.fn rfl) ?_
  refine SafeOps.quiet0 E_good rfl rfl rfl (v := V.int .i64 x_918) (.fn rfl) ?_
  refine SafeOps.quiet0 E_good rfl rfl rfl (v := V.int .i64 x_918) (.fn rfl) ?_
  refine SafeOps.nil ?_
  repeat (first | refine Safe.seq ?_ | refine Safe.skip ?_ | with_reducible refine thenQ.n ?_ | with_reducible refine blockQ.n ?_)
  refine Safe.region ?_
  refine SafeOps.quiet0 E_good rfl rfl rfl (v := V.int .i64 x_918) (.fn rfl) ?_
  refine SafeOps.quiet0 E_good rfl rfl rfl (v := V.bool (x_918 != 0)) (.fn rfl) ?_
  refine SafeOps.quiet0 E_good rfl rfl rfl (v := V.bool (x_918 != 0)) (.fn rfl) ?_
  refine SafeOps.bjoin 3 21 (b := ((x_918 != 0) || (decide (a2_640 < 1)))) (b1 := true) (b0 := decide (a2_640 < 1)) (fun hc920 K => ?_) (fun hc920 K => ?_) bj_or ?_
  · skip
    refine SafeOps.skip (congrArg (fun b => some (!b)) hc920) rfl rfl ?_
    refine SafeOps.skip (congrArg (fun b => some (!b)) hc920) rfl rfl ?_
    refine SafeOps.quiet0 E_good rfl rfl rfl (v := V.bool true) (.pickK rfl hc920 rfl) ?_
    exact SafeOps.drop' 3 rfl rfl rfl K
  · skip
    refine SafeOps.quiet0 E_good (congrArg (fun b => some (!b)) hc920) rfl rfl (v := V.int .i64 a2_640) (.fn rfl) ?_
    refine SafeOps.quiet0 E_good (congrArg (fun b => some (!b)) hc920) rfl rfl (v := V.bool (decide (a2_640 < 1))) (.fn rfl) ?_
    refine SafeOps.quiet0 E_good rfl rfl rfl (v := V.bool (decide (a2_640 < 1))) (.pickK rfl hc920 rfl) ?_
    exact SafeOps.drop' 3 rfl rfl rfl K
  refine SafeOps.quiet0 E_good rfl rfl rfl (v := V.bool ((x_918 != 0) || (decide (a2_640 < 1)))) (.fn rfl) ?_
  refine SafeOps.bjoin 3 25 (b := (((x_918 != 0) || (decide (a2_640 < 1))) || (decide (a2_640 > 100)))) (b1 := true) (b0 := decide (a2_640 > 100)) (fun hc921 K => ?_) (fun hc921 K => ?_) bj_or ?_
  · skip
    refine SafeOps.skip (congrArg (fun b => some (!b)) hc921) rfl rfl ?_
    refine SafeOps.skip (congrArg (fun b => some (!b)) hc921) rfl rfl ?_
    refine SafeOps.quiet0 E_good rfl rfl rfl (v := V.bool true) (.pickK rfl hc921 rfl) ?_
    exact SafeOps.drop' 3 rfl rfl rfl K
  · skip
    refine SafeOps.quiet0 E_good (congrArg (fun b => some (!b)) hc921) rfl rfl (v := V.int .i64 a2_640) (.fn rfl) ?_
    refine SafeOps.quiet0 E_good (congrArg (fun b => some (!b)) hc921) rfl rfl (v := V.bool (decide (a2_640 > 100))) (.fn rfl) ?_
    refine SafeOps.quiet0 E_good rfl rfl rfl (v := V.bool (decide (a2_640 > 100))) (.pickK rfl hc921 rfl) ?_
    exact SafeOps.drop' 3 rfl rfl rfl K
  refine SafeOps.nil ?_
  repeat (first | refine Safe.seq ?_ | refine Safe.skip ?_ | with_reducible refine thenQ.n ?_ | with_reducible refine blockQ.n ?_)
  refine ifG h (fun hc922 h => ?_) (fun hc922 h => ?_)
  · skip
    refine Safe.condK rfl hc922 ?_
    repeat (first | refine Safe.seq ?_ | refine Safe.skip ?_ | with_reducible refine thenQ.n ?_ | with_reducible refine blockQ.n ?_)
    refine Safe.region ?_
    refine SafeOps.quiet0 E_good rfl rfl rfl (v := V.agg [V.int .i64 0, V.int .i64 0, V.int .i64 0, V.int .i64 0, V.int .i64 0, V.int .i64 0, V.int .i64 0, V.int .i64 0, V.int .i64 0, V.int .i64 0, V.int .i64 0]) (.fn rfl) ?_
    refine SafeOps.quiet0 E_good rfl rfl rfl (v := V.agg [V.int .i64 0, V.int .i64 0, V.int .i64 0]) (.fn rfl) ?_
    refine SafeOps.store (z := Obj.box [V.int .i64 0, V.int .i64 0, V.int .i64 0, V.int .i64 0, V.int .i64 0, V.int .i64 0, V.int .i64 0, V.int .i64 0, V.int .i64 0, V.int .i64 0, V.int .i64 0]) E_good rfl rfl rfl rfl rfl rfl rfl (.boxM (c := 11) rfl rfl (Nat.le_of_ble_eq_true rfl) rfl) ?_
    refine SafeOps.store (z := Obj.box [V.int .i64 0, V.int .i64 0, V.int .i64 0]) E_good rfl rfl rfl rfl rfl rfl rfl (.boxM (c := 3) rfl rfl (Nat.le_of_ble_eq_true rfl) rfl) ?_
    refine SafeOps.quiet0 E_good rfl rfl rfl (v := V.int .i64 0) (.fn rfl) ?_
    refine SafeOps.quiet0 E_good rfl rfl rfl (v := V.int .i64 1) (.fn rfl) ?_
    refine SafeOps.nil ?_
    repeat (first | refine Safe.seq ?_ | refine Safe.skip ?_ | with_reducible refine thenQ.n ?_ | with_reducible refine blockQ.n ?_)
    refine Safe.ret ?_
    repeat (first | with_reducible refine thenQ.r ?_ | with_reducible refine blockQ.r ?_)
    obtain rfl := Option.some.inj h
    exact retQ.gen (vs := [V.agg [V.int .i64 0, V.int .i64 0, V.int .i64 0, V.int .i64 0, V.int .i64 0, V.int .i64 0, V.int .i64 0, V.int .i64 0, V.int .i64 0, V.int .i64 0, V.int .i64 0], V.agg [V.int .i64 0, V.int .i64 0, V.int .i64 0], V.int .i64 0, V.int .i64 1]) rfl (.cell (v := V.agg [V.int .i64 0, V.int .i64 0, V.int .i64 0, V.int .i64 0, V.int .i64 0, V.int .i64 0, V.int .i64 0, V.int .i64 0, V.int .i64 0, V.int .i64 0, V.int .i64 0]) rfl rfl (.box rfl rfl) rfl (.cell (v := V.agg [V.int .i64 0, V.int .i64 0, V.int .i64 0]) rfl rfl (.box rfl rfl) rfl (.tmp (v := V.int .i64 0) rfl (.tmp (v := V.int .i64 1) rfl .nil)))) (.free rfl) (by simp) (.inr rfl)
  · skip
    refine Safe.condN rfl hc922 ?_
    repeat (first | refine Safe.seq ?_ | refine Safe.skip ?_ | with_reducible refine thenQ.n ?_ | with_reducible refine blockQ.n ?_)
    refine Safe.block ?_
    repeat (first | refine Safe.seq ?_ | refine Safe.skip ?_ | with_reducible refine thenQ.n ?_ | with_reducible refine blockQ.n ?_)
    refine Safe.loopW (fun ((v8_1002, v30_1003, v31_1004, v32_1005, v33_1006, v34_1007, v35_1008, v36_1009, v37_1010, v38_1011, v39_1012, v310_1013, v70_1014, v71_1015, v72_1016) : Int × Int × Int × Int × Int × Int × Int × Int × Int × Int × Int × Int × Int × Int × Int) => ⟨Tryd.f12.ntmps, [(1, V.sl 3 (rws api_Instr.cells a1_639)), (2, V.int .i64 a2_640), (3, V.ptr [3] 0 0), (6, V.ptr [6] 0 0), (7, V.ptr [7] 0 0), (8, V.int .i64 v8_1002)], [([3], Obj.box [V.int .i64 v30_1003, V.int .i64 v31_1004, V.int .i64 v32_1005, V.int .i64 v33_1006, V.int .i64 v34_1007, V.int .i64 v35_1008, V.int .i64 v36_1009, V.int .i64 v37_1010, V.int .i64 v38_1011, V.int .i64 v39_1012, V.int .i64 v310_1013]), ([6], Obj.box [V.int .i64 0, V.int .i64 0, V.int .i64 0, V.int .i64 0, V.int .i64 0, V.int .i64 0, V.int .i64 0, V.int .i64 0, V.int .i64 0, V.int .i64 0, V.int .i64 0]), ([7], Obj.box [V.int .i64 v70_1014, V.int .i64 v71_1015, V.int .i64 v72_1016])], [], []⟩) h (.cov ⟨rfl, rfl, (upT_cons (.refl _) (upT_cons (.refl _) (upT_cons (.refl _) (upT_cons (.refl _) (upT_cons (.refl _) (upT_cons (.refl _) upT_nil)))))), (upOb_cons rfl (.refl _) (upOb_cons rfl (.refl _) (upOb_cons rfl (.refl _) upOb_nil))), upOut_nil, rfl⟩) ?_
    rintro ⟨v8_1002, v30_1003, v31_1004, v32_1005, v33_1006, v34_1007, v35_1008, v36_1009, v37_1010, v38_1011, v39_1012, v310_1013, v70_1014, v71_1015, v72_1016⟩ ohr1017 h hr1017
    replace h : go_step_Slice_s2 a1_639 a2_640 (v8_1002, v30_1003, v31_1004, v32_1005, v33_1006, v34_1007, v35_1008, v36_1009, v37_1010, v38_1011, v39_1012, v310_1013, v70_1014, v71_1015, v72_1016) = some ohr1017 := h
    rw [go_step_Slice_s2] at h
    repeat (first | refine Safe.seq ?_ | refine Safe.skip ?_ | with_reducible refine thenQ.n ?_ | with_reducible refine blockQ.n ?_)
    refine Safe.region ?_
    refine SafeOps.quiet0 E_good rfl rfl rfl (v := V.ptr [7] 0 0) (.fn rfl) ?_
    refine SafeOps.quiet0 E_good rfl rfl rfl (v := V.int .i64 v70_1014) (.load rfl rfl (.box rfl rfl) rfl) ?_
    refine SafeOps.quiet0 E_good rfl rfl rfl (v := V.bool (v70_1014 == 0)) (.fn rfl) ?_
    refine SafeOps.quiet0 E_good rfl rfl rfl (v := V.bool (v70_1014 == 0)) (.fn rfl) ?_
    refine SafeOps.bjoin 4 35 (b := ((v70_1014 == 0) && (decide (v8_1002 < a2_640)))) (b1 := decide (v8_1002 < a2_640)) (b0 := false) (fun hc1018 K => ?_) (fun hc1018 K => ?_) bj_and ?_
    · skip
      refine SafeOps.quiet0 E_good (congrArg some hc1018) rfl rfl (v := V.int .i64 v8_1002) (.fn rfl) ?_
      refine SafeOps.quiet0 E_good (congrArg some hc1018) rfl rfl (v := V.int .i64 a2_640) (.fn rfl) ?_
      refine SafeOps.quiet0 E_good (congrArg some hc1018) rfl rfl (v := V.bool (decide (v8_1002 < a2_640))) (.fn rfl) ?_
      refine SafeOps.quiet0 E_good rfl rfl rfl (v := V.bool (decide (v8_1002 < a2_640))) (.pickK rfl hc1018 rfl) ?_
      exact SafeOps.drop' 4 rfl rfl rfl K
    · skip
      refine SafeOps.skip (congrArg some hc1018) rfl rfl ?_
      refine SafeOps.skip (congrArg some hc1018) rfl rfl ?_
      refine SafeOps.skip (congrArg some hc1018) rfl rfl ?_
      refine SafeOps.quiet0 E_good rfl rfl rfl (v := V.bool false) (.pickK rfl hc1018 rfl) ?_
      exact SafeOps.drop' 4 rfl rfl rfl K
    refine SafeOps.nil ?_
    repeat (first | refine Safe.seq ?_ | refine Safe.skip ?_ | with_reducible refine thenQ.n ?_ | with_reducible refine blockQ.n ?_)
    refine ifG h (fun hc1019 h => ?_) (fun hc1019 h => ?_)
    · skip
      refine Safe.condK rfl hc1019 ?_
      repeat (first | refine Safe.seq ?_ | refine Safe.skip ?_ | with_reducible refine thenQ.n ?_ | with_reducible refine blockQ.n ?_)
      refine Safe.block ?_
      repeat (first | refine Safe.seq ?_ | refine Safe.skip ?_ | with_reducible refine thenQ.n ?_ | with_reducible refine blockQ.n ?_)
      refine Safe.region ?_
      refine SafeOps.quiet0 E_good rfl rfl rfl (v := V.agg [V.int .i64 v30_1003, V.int .i64 v31_1004, V.int .i64 v32_1005, V.int .i64 v33_1006, V.int .i64 v34_1007, V.int .i64 v35_1008, V.int .i64 v36_1009, V.int .i64 v37_1010, V.int .i64 v38_1011, V.int .i64 v39_1012, V.int .i64 v310_1013]) (.load rfl rfl (.box rfl rfl) rfl) ?_
      refine SafeOps.quiet0 E_good rfl rfl rfl (v := V.sl 3 (rws api_Instr.cells a1_639)) (.fn rfl) ?_
      refine bindG h ?_
      rintro ⟨x_1020, x_1021, x_1022⟩ he1023 h
      refine SafeOps.quiet0 E_good rfl rfl rfl (v := V.tup [V.agg [V.int .i64 x_1020.Id, V.int .i64 x_1020.Tenant, V.int .i64 x_1020.Prog, V.int .i64 x_1020.Pc, V.int .i64 x_1020.Unit, V.int .i64 x_1020.Keeps.a0, V.int .i64 x_1020.Keeps.a1, V.int .i64 x_1020.Keeps.a2, V.int .i64 x_1020.Keeps.a3, V.int .i64 x_1020.State, V.int .i64 x_1020.Ran], V.agg [V.int .i64 x_1021.Kind, V.int .i64 x_1021.A, V.int .i64 x_1021.B], V.int .i64 x_1022]) (.callP rfl rfl (go_step_Do_sc (api_Task.mk v30_1003 v31_1004 v32_1005 v33_1006 v34_1007 (A4_Int.mk v35_1008 v36_1009 v37_1010 v38_1011) v39_1012 v310_1013) a1_639 _ he1023) rfl) ?_
      refine SafeOps.quiet0 E_good rfl rfl rfl (v := V.tup [V.agg [V.int .i64 x_1020.Id, V.int .i64 x_1020.Tenant, V.int .i64 x_1020.Prog, V.int .i64 x_1020.Pc, V.int .i64 x_1020.Unit, V.int .i64 x_1020.Keeps.a0, V.int .i64 x_1020.Keeps.a1, V.int .i64 x_1020.Keeps.a2, V.int .i64 x_1020.Keeps.a3, V.int .i64 x_1020.State, V.int .i64 x_1020.Ran], V.agg [V.int .i64 x_1021.Kind, V.int .i64 x_1021.A, V.int .i64 x_1021.B], V.int .i64 x_1022]) (.fn rfl) ?_
      refine SafeOps.quiet0 E_good rfl rfl rfl (v := V.agg [V.int .i64 x_1020.Id, V.int .i64 x_1020.Tenant, V.int .i64 x_1020.Prog, V.int .i64 x_1020.Pc, V.int .i64 x_1020.Unit, V.int .i64 x_1020.Keeps.a0, V.int .i64 x_1020.Keeps.a1, V.int .i64 x_1020.Keeps.a2, V.int .i64 x_1020.Keeps.a3, V.int .i64 x_1020.State, V.int .i64 x_1020.Ran]) (.fn rfl) ?_
      refine SafeOps.quiet0 E_good rfl rfl rfl (v := V.agg [V.int .i64 x_1021.Kind, V.int .i64 x_1021.A, V.int .i64 x_1021.B]) (.fn rfl) ?_
      refine SafeOps.quiet0 E_good rfl rfl rfl (v := V.int .i64 x_1022) (.fn rfl) ?_
      refine SafeOps.store (z := Obj.box [V.int .i64 x_1020.Id, V.int .i64 x_1020.Tenant, V.int .i64 x_1020.Prog, V.int .i64 x_1020.Pc, V.int .i64 x_1020.Unit, V.int .i64 x_1020.Keeps.a0, V.int .i64 x_1020.Keeps.a1, V.int .i64 x_1020.Keeps.a2, V.int .i64 x_1020.Keeps.a3, V.int .i64 x_1020.State, V.int .i64 x_1020.Ran]) E_good rfl rfl rfl rfl rfl rfl rfl (.boxM (c := 11) rfl rfl (Nat.le_of_ble_eq_true rfl) rfl) ?_
      refine SafeOps.store (z := Obj.box [V.int .i64 x_1021.Kind, V.int .i64 x_1021.A, V.int .i64 x_1021.B]) E_good rfl rfl rfl rfl rfl rfl rfl (.boxM (c := 3) rfl rfl (Nat.le_of_ble_eq_true rfl) rfl) ?_
      refine SafeOps.quiet0 E_good rfl rfl rfl (v := V.int .i64 x_1022) (.fn rfl) ?_
      refine SafeOps.nil ?_
      repeat (first | refine Safe.seq ?_ | refine Safe.skip ?_ | with_reducible refine thenQ.n ?_ | with_reducible refine blockQ.n ?_)
      refine Safe.region ?_
      refine SafeOps.quiet0 E_good rfl rfl rfl (v := V.int .i64 x_1022) (.fn rfl) ?_
      refine SafeOps.quiet0 E_good rfl rfl rfl (v := V.bool (x_1022 != 0)) (.fn rfl) ?_
      refine SafeOps.nil ?_
      repeat (first | refine Safe.seq ?_ | refine Safe.skip ?_ | with_reducible refine thenQ.n ?_ | with_reducible refine blockQ.n ?_)
      refine ifG h (fun hc1024 h => ?_) (fun hc1024 h => ?_)
      · skip
        refine Safe.condK rfl hc1024 ?_
        repeat (first | refine Safe.seq ?_ | refine Safe.skip ?_ | with_reducible refine thenQ.n ?_ | with_reducible refine blockQ.n ?_)
        refine Safe.region ?_
        refine SafeOps.quiet0 E_good rfl rfl rfl (v := V.agg [V.int .i64 0, V.int .i64 0, V.int .i64 0, V.int .i64 0, V.int .i64 0, V.int .i64 0, V.int .i64 0, V.int .i64 0, V.int .i64 0, V.int .i64 0, V.int .i64 0]) (.fn rfl) ?_
        refine SafeOps.quiet0 E_good rfl rfl rfl (v := V.agg [V.int .i64 0, V.int .i64 0, V.int .i64 0]) (.fn rfl) ?_
        refine SafeOps.quiet0 E_good rfl rfl rfl (v := V.int .i64 x_1022) (.fn rfl) ?_
        refine SafeOps.store (z := Obj.box [V.int .i64 0, V.int .i64 0, V.int .i64 0, V.int .i64 0, V.int .i64 0, V.int .i64 0, V.int .i64 0, V.int .i64 0, V.int .i64 0, V.int .i64 0, V.int .i64 0]) E_good rfl rfl rfl rfl rfl rfl rfl (.boxM (c := 11) rfl rfl (Nat.le_of_ble_eq_true rfl) rfl) ?_
        refine SafeOps.store (z := Obj.box [V.int .i64 0, V.int .i64 0, V.int .i64 0]) E_good rfl rfl rfl rfl rfl rfl rfl (.boxM (c := 3) rfl rfl (Nat.le_of_ble_eq_true rfl) rfl) ?_
        refine SafeOps.quiet0 E_good rfl rfl rfl (v := V.int .i64 0) (.fn rfl) ?_
        refine SafeOps.quiet0 E_good rfl rfl rfl (v := V.int .i64 x_1022) (.fn rfl) ?_
        refine SafeOps.nil ?_
        repeat (first | refine Safe.seq ?_ | refine Safe.skip ?_ | with_reducible refine thenQ.n ?_ | with_reducible refine blockQ.n ?_)
        refine Safe.ret ?_
        repeat (first | with_reducible refine thenQ.r ?_ | with_reducible refine blockQ.r ?_)
        replace h := inr_out h hr1017
        obtain rfl := Option.some.inj h
        exact retQ.gen (vs := [V.agg [V.int .i64 0, V.int .i64 0, V.int .i64 0, V.int .i64 0, V.int .i64 0, V.int .i64 0, V.int .i64 0, V.int .i64 0, V.int .i64 0, V.int .i64 0, V.int .i64 0], V.agg [V.int .i64 0, V.int .i64 0, V.int .i64 0], V.int .i64 0, V.int .i64 x_1022]) rfl (.cell (v := V.agg [V.int .i64 0, V.int .i64 0, V.int .i64 0, V.int .i64 0, V.int .i64 0, V.int .i64 0, V.int .i64 0, V.int .i64 0, V.int .i64 0, V.int .i64 0, V.int .i64 0]) rfl rfl (.box rfl rfl) rfl (.cell (v := V.agg [V.int .i64 0, V.int .i64 0, V.int .i64 0]) rfl rfl (.box rfl rfl) rfl (.tmp (v := V.int .i64 0) rfl (.tmp (v := V.int .i64 x_1022) rfl .nil)))) (.free rfl) (by simp) (.inr rfl)
      · skip
        refine Safe.condN rfl hc1024 ?_
        repeat (first | refine Safe.seq ?_ | refine Safe.skip ?_ | with_reducible refine thenQ.n ?_ | with_reducible refine blockQ.n ?_)
        refine Safe.region ?_
        refine SafeOps.quiet0 E_good rfl rfl rfl (v := V.int .i64 v8_1002) (.fn rfl) ?_
        refine SafeOps.quiet0 E_good rfl rfl rfl (v := V.int .i64 (IntKind.i64.wrap (v8_1002 + 1))) (.fn rfl) ?_
        refine SafeOps.quiet0 E_good rfl rfl rfl (v := V.int .i64 (IntKind.i64.wrap (v8_1002 + 1))) (.fn rfl) ?_
        refine SafeOps.nil ?_
        repeat (first | refine Safe.seq ?_ | refine Safe.skip ?_ | with_reducible refine thenQ.n ?_ | with_reducible refine blockQ.n ?_)
        exact ⟨_, next_out h, (.cov ⟨rfl, rfl, (upT_cons (.refl _) (upT_cons (.refl _) (upT_cons (.refl _) (upT_cons (.refl _) (upT_cons (.refl _) (upT_cons (.refl _) upT_nil)))))), (upOb_cons rfl (.refl _) (upOb_cons rfl (.refl _) (upOb_cons rfl (.refl _) upOb_nil))), upOut_nil, rfl⟩)⟩
    · skip
      refine Safe.condN rfl hc1019 ?_
      repeat (first | refine Safe.seq ?_ | refine Safe.skip ?_ | with_reducible refine thenQ.n ?_ | with_reducible refine blockQ.n ?_)
      refine Safe.exit ?_
      repeat (first | with_reducible refine thenQ.e ?_ | with_reducible refine blockQ.x rfl ?_ | with_reducible refine blockQ.y rfl ?_)
      replace h := inr_out h hr1017
      repeat (first | refine Safe.seq ?_ | refine Safe.skip ?_ | with_reducible refine thenQ.n ?_ | with_reducible refine blockQ.n ?_)
      refine Safe.regionD (n := 7) [(3, [6]), (4, [7])] [] E_good mixed rfl ?_
      refine DAny.take (i := 0) rfl (by kernel_rfl) [[6], [7]] (by kernel_rfl) (by kernel_rfl) (by kernel_rfl) rfl rfl rfl (v := V.agg [V.int .i64 v30_1003, V.int .i64 v31_1004, V.int .i64 v32_1005, V.int .i64 v33_1006, V.int .i64 v34_1007, V.int .i64 v35_1008, V.int .i64 v36_1009, V.int .i64 v37_1010, V.int .i64 v38_1011, V.int .i64 v39_1012, V.int .i64 v310_1013]) (fun _ hz => (.load rfl rfl (.box (hz _ _ rfl rfl) rfl) rfl)) ?_
      refine DAny.take (i := 1) rfl (by kernel_rfl) [[6]] (by kernel_rfl) (by kernel_rfl) (by kernel_rfl) rfl rfl rfl (v := V.agg [V.int .i64 v70_1014, V.int .i64 v71_1015, V.int .i64 v72_1016]) (fun _ hz => (.load rfl rfl (.box (hz _ _ rfl rfl) rfl) rfl)) ?_
      refine DAny.take (i := 2) rfl (by kernel_rfl) [[6], [7]] (by kernel_rfl) (by kernel_rfl) (by kernel_rfl) rfl rfl rfl (v := V.int .i64 v8_1002) (fun _ hz => (.fn rfl)) ?_
      refine DAny.only (i := 3) rfl (by kernel_rfl) (.store (z := Obj.box [V.int .i64 v30_1003, V.int .i64 v31_1004, V.int .i64 v32_1005, V.int .i64 v33_1006, V.int .i64 v34_1007, V.int .i64 v35_1008, V.int .i64 v36_1009, V.int .i64 v37_1010, V.int .i64 v38_1011, V.int .i64 v39_1012, V.int .i64 v310_1013]) rfl rfl rfl rfl rfl rfl rfl (.boxM (c := 11) rfl rfl (Nat.le_of_ble_eq_true rfl) rfl) rfl ?_)
      refine DAny.only (i := 4) rfl (by kernel_rfl) (.store (z := Obj.box [V.int .i64 v70_1014, V.int .i64 v71_1015, V.int .i64 v72_1016]) rfl rfl rfl rfl rfl rfl rfl (.boxM (c := 3) rfl rfl (Nat.le_of_ble_eq_true rfl) rfl) rfl ?_)
      refine DAny.take (i := 5) rfl (by kernel_rfl) [[6], [7]] (by kernel_rfl) (by kernel_rfl) (by kernel_rfl) rfl rfl rfl (v := V.int .i64 v8_1002) (fun _ hz => (.fn rfl)) ?_
      refine DAny.take (i := 6) rfl (by kernel_rfl) [[6], [7]] (by kernel_rfl) (by kernel_rfl) (by kernel_rfl) rfl rfl rfl (v := V.int .i64 0) (fun _ hz => (.fn rfl)) ?_
      refine DAny.nil (by kernel_rfl) ?_
      repeat (first | refine Safe.seq ?_ | refine Safe.skip ?_ | with_reducible refine thenQ.n ?_ | with_reducible refine blockQ.n ?_)
      refine Safe.ret ?_
      repeat (first | with_reducible refine thenQ.r ?_ | with_reducible refine blockQ.r ?_)
      obtain rfl := Option.some.inj h
      exact retQ.gen (vs := [V.agg [V.int .i64 v30_1003, V.int .i64 v31_1004, V.int .i64 v32_1005, V.int .i64 v33_1006, V.int .i64 v34_1007, V.int .i64 v35_1008, V.int .i64 v36_1009, V.int .i64 v37_1010, V.int .i64 v38_1011, V.int .i64 v39_1012, V.int .i64 v310_1013], V.agg [V.int .i64 v70_1014, V.int .i64 v71_1015, V.int .i64 v72_1016], V.int .i64 v8_1002, V.int .i64 0]) rfl (.cell (v := V.agg [V.int .i64 v30_1003, V.int .i64 v31_1004, V.int .i64 v32_1005, V.int .i64 v33_1006, V.int .i64 v34_1007, V.int .i64 v35_1008, V.int .i64 v36_1009, V.int .i64 v37_1010, V.int .i64 v38_1011, V.int .i64 v39_1012, V.int .i64 v310_1013]) rfl rfl (.box rfl rfl) rfl (.cell (v := V.agg [V.int .i64 v70_1014, V.int .i64 v71_1015, V.int .i64 v72_1016]) rfl rfl (.box rfl rfl) rfl (.tmp (v := V.int .i64 v8_1002) rfl (.tmp (v := V.int .i64 0) rfl .nil)))) (.free rfl) (by simp) (.inr rfl)

noncomputable def go_ravellaw13_live  : Option Bool :=
  (go_life_New 1 0 0).bind fun (x_1043, x_1044) =>
  (go_life_Move x_1043 2).bind fun (x_1046, x_1047) =>
  (go_step_Slice x_1046 [(api_Instr.mk 1 3 0), (api_Instr.mk 3 0 0)] 2).bind fun (x_1049, x_1050, x_1051, x_1052) =>
  (go_step_Slice x_1049 [(api_Instr.mk 1 3 0), (api_Instr.mk 3 0 0)] 2).bind fun (x_1054, x_1055, x_1056, x_1057) =>
  some (((((((((x_1044 == 0) && (x_1047 == 0)) && (x_1052 == 0)) && (x_1057 == 0)) && (x_1051 == 2)) && (x_1056 == 2)) && (x_1055.Kind == 3)) && (x_1054.Pc == 2)) && (x_1054.Ran == 4))

theorem go_ravellaw13_live_sc  (r : Bool) (h : go_ravellaw13_live  = some r) : SC Tryd.prog gl 9 [] (V.bool r) := by
  rw [go_ravellaw13_live] at h
  refine SC.of E_good Tryd.func9 rfl (fun _ _ => Tryd.call9 _ _) rfl ?_
  repeat (first | refine Safe.seq ?_ | refine Safe.skip ?_ | with_reducible refine thenQ.n ?_ | with_reducible refine blockQ.n ?_)
  refine Safe.region ?_
  refine SafeOps.quiet0 E_good rfl rfl rfl (v := V.bool false) (.fn rfl) ?_
  refine SafeOps.nil ?_
  repeat (first | refine Safe.seq ?_ | refine Safe.skip ?_ | with_reducible refine thenQ.n ?_ | with_reducible refine blockQ.n ?_)
  refine Safe.region ?_
  refine SafeOps.quiet0 E_good rfl rfl rfl (v := V.agg [V.int .i64 1, V.int .i64 3, V.int .i64 0]) (.fn rfl) ?_
  refine SafeOps.quiet0 E_good rfl rfl rfl (v := V.agg [V.int .i64 3, V.int .i64 0, V.int .i64 0]) (.fn rfl) ?_
  refine SafeOps.quiet1 E_good rfl rfl rfl (.litM (f := api_Instr.cells) (xs := [(api_Instr.mk 1 3 0), (api_Instr.mk 3 0 0)]) rfl rfl (by decide) rfl rfl rfl rfl rfl) rfl ?_
  refine SafeOps.quiet0 E_good rfl rfl rfl (v := V.ref [13] 0 (rws api_Instr.cells [(api_Instr.mk 1 3 0), (api_Instr.mk 3 0 0)]).length) (.fn rfl) ?_
  refine SafeOps.nil ?_
  repeat (first | refine Safe.seq ?_ | refine Safe.skip ?_ | with_reducible refine thenQ.n ?_ | with_reducible refine blockQ.n ?_)
  refine Safe.region ?_
  refine bindG h ?_
  rintro ⟨x_1043, x_1044⟩ he1045 h
  refine SafeOps.quiet0 E_good rfl rfl rfl (v := V.tup [V.agg [V.int .i64 x_1043.Id, V.int .i64 x_1043.Tenant, V.int .i64 x_1043.Prog, V.int .i64 x_1043.Pc, V.int .i64 x_1043.Unit, V.int .i64 x_1043.Keeps.a0, V.int .i64 x_1043.Keeps.a1, V.int .i64 x_1043.Keeps.a2, V.int .i64 x_1043.Keeps.a3, V.int .i64 x_1043.State, V.int .i64 x_1043.Ran], V.int .i64 x_1044]) (.callP rfl rfl (go_life_New_sc 1 0 0 _ he1045) rfl) ?_
  refine SafeOps.quiet0 E_good rfl rfl rfl (v := V.tup [V.agg [V.int .i64 x_1043.Id, V.int .i64 x_1043.Tenant, V.int .i64 x_1043.Prog, V.int .i64 x_1043.Pc, V.int .i64 x_1043.Unit, V.int .i64 x_1043.Keeps.a0, V.int .i64 x_1043.Keeps.a1, V.int .i64 x_1043.Keeps.a2, V.int .i64 x_1043.Keeps.a3, V.int .i64 x_1043.State, V.int .i64 x_1043.Ran], V.int .i64 x_1044]) (.fn rfl) ?_
  refine SafeOps.quiet0 E_good rfl rfl rfl (v := V.agg [V.int .i64 x_1043.Id, V.int .i64 x_1043.Tenant, V.int .i64 x_1043.Prog, V.int .i64 x_1043.Pc, V.int .i64 x_1043.Unit, V.int .i64 x_1043.Keeps.a0, V.int .i64 x_1043.Keeps.a1, V.int .i64 x_1043.Keeps.a2, V.int .i64 x_1043.Keeps.a3, V.int .i64 x_1043.State, V.int .i64 x_1043.Ran]) (.fn rfl) ?_
  refine SafeOps.quiet0 E_good rfl rfl rfl (v := V.int .i64 x_1044) (.fn rfl) ?_
  refine SafeOps.quiet1 E_good rfl rfl rfl (.alloc rfl rfl) rfl ?_
  refine SafeOps.store (z := Obj.box [V.int .i64 x_1043.Id, V.int .i64 x_1043.Tenant, V.int .i64 x_1043.Prog, V.int .i64 x_1043.Pc, V.int .i64 x_1043.Unit, V.int .i64 x_1043.Keeps.a0, V.int .i64 x_1043.Keeps.a1, V.int .i64 x_1043.Keeps.a2, V.int .i64 x_1043.Keeps.a3, V.int .i64 x_1043.State, V.int .i64 x_1043.Ran]) E_good rfl rfl rfl rfl rfl rfl rfl (.boxM (c := 11) rfl rfl (Nat.le_of_ble_eq_true rfl) rfl) ?_
  refine SafeOps.quiet0 E_good rfl rfl rfl (v := V.int .i64 x_1044) (.fn rfl) ?_
  refine SafeOps.nil ?_
  repeat (first | refine Safe.seq ?_ | refine Safe.skip ?_ | with_reducible refine thenQ.n ?_ | with_reducible refine blockQ.n ?_)
  refine Safe.region ?_
  refine SafeOps.quiet0 E_good rfl rfl rfl (v := V.agg [V.int .i64 x_1043.Id, V.int .i64 x_1043.Tenant, V.int .i64 x_1043.Prog, V.int .i64 x_1043.Pc, V.int .i64 x_1043.Unit, V.int .i64 x_1043.Keeps.a0, V.int .i64 x_1043.Keeps.a1, V.int .i64 x_1043.Keeps.a2, V.int .i64 x_1043.Keeps.a3, V.int .i64 x_1043.State, V.int .i64 x_1043.Ran]) (.load rfl rfl (.box rfl rfl) rfl) ?_
  refine bindG h ?_
  rintro ⟨x_1046, x_1047⟩ he1048 h
  refine SafeOps.quiet0 E_good rfl rfl rfl (v := V.tup [V.agg [V.int .i64 x_1046.Id, V.int .i64 x_1046.Tenant, V.int .i64 x_1046.Prog, V.int .i64 x_1046.Pc, V.int .i64 x_1046.Unit, V.int .i64 x_1046.Keeps.a0, V.int .i64 x_1046.Keeps.a1, V.int .i64 x_1046.Keeps.a2, V.int .i64 x_1046.Keeps.a3, V.int .i64 x_1046.State, V.int .i64 x_1046.Ran], V.int .i64 x_1047]) (.callP rfl rfl (go_life_Move_sc x_1043 2 _ he1048) rfl) ?_
  refine SafeOps.quiet0 E_good rfl rfl rfl (v := V.tup [V.agg [V.int .i64 x_1046.Id, V.int .i64 x_1046.Tenant, V.int .i64 x_1046.Prog, V.int .i64 x_1046.Pc, V.int .i64 x_1046.Unit, V.int .i64 x_1046.Keeps.a0, V.int .i64 x_1046.Keeps.a1, V.int .i64 x_1046.Keeps.a2, V.int .i64 x_1046.Keeps.a3, V.int .i64 x_1046.State, V.int .i64 x_1046.Ran], V.int .i64 x_1047]) (.fn rfl) ?_
  refine SafeOps.quiet0 E_good rfl rfl rfl (v := V.agg [V.int .i64 x_1046.Id, V.int .i64 x_1046.Tenant, V.int .i64 x_1046.Prog, V.int .i64 x_1046.Pc, V.int .i64 x_1046.Unit, V.int .i64 x_1046.Keeps.a0, V.int .i64 x_1046.Keeps.a1, V.int .i64 x_1046.Keeps.a2, V.int .i64 x_1046.Keeps.a3, V.int .i64 x_1046.State, V.int .i64 x_1046.Ran]) (.fn rfl) ?_
  refine SafeOps.quiet0 E_good rfl rfl rfl (v := V.int .i64 x_1047) (.fn rfl) ?_
  refine SafeOps.store (z := Obj.box [V.int .i64 x_1046.Id, V.int .i64 x_1046.Tenant, V.int .i64 x_1046.Prog, V.int .i64 x_1046.Pc, V.int .i64 x_1046.Unit, V.int .i64 x_1046.Keeps.a0, V.int .i64 x_1046.Keeps.a1, V.int .i64 x_1046.Keeps.a2, V.int .i64 x_1046.Keeps.a3, V.int .i64 x_1046.State, V.int .i64 x_1046.Ran]) E_good rfl rfl rfl rfl rfl rfl rfl (.boxM (c := 11) rfl rfl (Nat.le_of_ble_eq_true rfl) rfl) ?_
  refine SafeOps.quiet0 E_good rfl rfl rfl (v := V.int .i64 x_1047) (.fn rfl) ?_
  refine SafeOps.nil ?_
  repeat (first | refine Safe.seq ?_ | refine Safe.skip ?_ | with_reducible refine thenQ.n ?_ | with_reducible refine blockQ.n ?_)
  refine Safe.region ?_
  refine SafeOps.quiet0 E_good rfl rfl rfl (v := V.agg [V.int .i64 x_1046.Id, V.int .i64 x_1046.Tenant, V.int .i64 x_1046.Prog, V.int .i64 x_1046.Pc, V.int .i64 x_1046.Unit, V.int .i64 x_1046.Keeps.a0, V.int .i64 x_1046.Keeps.a1, V.int .i64 x_1046.Keeps.a2, V.int .i64 x_1046.Keeps.a3, V.int .i64 x_1046.State, V.int .i64 x_1046.Ran]) (.load rfl rfl (.box rfl rfl) rfl) ?_
  refine SafeOps.quiet0 E_good rfl rfl rfl (v := V.ref [13] 0 (rws api_Instr.cells [(api_Instr.mk 1 3 0), (api_Instr.mk 3 0 0)]).length) (.fn rfl) ?_
  refine bindG h ?_
  rintro ⟨x_1049, x_1050, x_1051, x_1052⟩ he1053 h
  refine SafeOps.quiet0 E_good rfl rfl rfl (v := V.tup [V.agg [V.int .i64 x_1049.Id, V.int .i64 x_1049.Tenant, V.int .i64 x_1049.Prog, V.int .i64 x_1049.Pc, V.int .i64 x_1049.Unit, V.int .i64 x_1049.Keeps.a0, V.int .i64 x_1049.Keeps.a1, V.int .i64 x_1049.Keeps.a2, V.int .i64 x_1049.Keeps.a3, V.int .i64 x_1049.State, V.int .i64 x_1049.Ran], V.agg [V.int .i64 x_1050.Kind, V.int .i64 x_1050.A, V.int .i64 x_1050.B], V.int .i64 x_1051, V.int .i64 x_1052]) (.callS rfl (.cons (.free rfl) (.cons (.full rfl rfl) (.cons (.free rfl) .nil))) (go_step_Slice_sc x_1046 [(api_Instr.mk 1 3 0), (api_Instr.mk 3 0 0)] 2 _ he1053) (.tupL (.cons (.aggL (.cons (.plain rfl) (.cons (.plain rfl) (.cons (.plain rfl) (.cons (.plain rfl) (.cons (.plain rfl) (.cons (.plain rfl) (.cons (.plain rfl) (.cons (.plain rfl) (.cons (.plain rfl) (.cons (.plain rfl) (.cons (.plain rfl) .nil)))))))))))) (.cons (.aggL (.cons (.plain rfl) (.cons (.plain rfl) (.cons (.plain rfl) .nil)))) (.cons (.plain rfl) (.cons (.plain rfl) .nil))))) rfl) ?_
  refine SafeOps.quiet0 E_good rfl rfl rfl (v := V.tup [V.agg [V.int .i64 x_1049.Id, V.int .i64 x_1049.Tenant, V.int .i64 x_1049.Prog, V.int .i64 x_1049.Pc, V.int .i64 x_1049.Unit, V.int .i64 x_1049.Keeps.a0, V.int .i64 x_1049.Keeps.a1, V.int .i64 x_1049.Keeps.a2, V.int .i64 x_1049.Keeps.a3, V.int .i64 x_1049.State, V.int .i64 x_1049.Ran], V.agg [V.int .i64 x_1050.Kind, V.int .i64 x_1050.A, V.int .i64 x_1050.B], V.int .i64 x_1051, V.int .i64 x_1052]) (.fn rfl) ?_
  refine SafeOps.quiet0 E_good rfl rfl rfl (v := V.agg [V.int .i64 x_1049.Id, V.int .i64 x_1049.Tenant, V.int .i64 x_1049.Prog, V.int .i64 x_1049.Pc, V.int .i64 x_1049.Unit, V.int .i64 x_1049.Keeps.a0, V.int .i64 x_1049.Keeps.a1, V.int .i64 x_1049.Keeps.a2, V.int .i64 x_1049.Keeps.a3, V.int .i64 x_1049.State, V.int .i64 x_1049.Ran]) (.fn rfl) ?_
  refine SafeOps.quiet0 E_good rfl rfl rfl (v := V.agg [V.int .i64 x_1050.Kind, V.int .i64 x_1050.A, V.int .i64 x_1050.B]) (.fn rfl) ?_
  refine SafeOps.quiet0 E_good rfl rfl rfl (v := V.int .i64 x_1051) (.fn rfl) ?_
  refine SafeOps.quiet0 E_good rfl rfl rfl (v := V.int .i64 x_1052) (.fn rfl) ?_
  refine SafeOps.quiet1 E_good rfl rfl rfl (.alloc rfl rfl) rfl ?_
  refine SafeOps.store (z := Obj.box [V.int .i64 x_1049.Id, V.int .i64 x_1049.Tenant, V.int .i64 x_1049.Prog, V.int .i64 x_1049.Pc, V.int .i64 x_1049.Unit, V.int .i64 x_1049.Keeps.a0, V.int .i64 x_1049.Keeps.a1, V.int .i64 x_1049.Keeps.a2, V.int .i64 x_1049.Keeps.a3, V.int .i64 x_1049.State, V.int .i64 x_1049.Ran]) E_good rfl rfl rfl rfl rfl rfl rfl (.boxM (c := 11) rfl rfl (Nat.le_of_ble_eq_true rfl) rfl) ?_
  refine SafeOps.store (z := Obj.box [V.int .i64 x_1050.Kind, V.int .i64 x_1050.A, V.int .i64 x_1050.B]) E_good rfl rfl rfl rfl rfl rfl rfl (.boxM (c := 3) rfl rfl (Nat.le_of_ble_eq_true rfl) rfl) ?_
  refine SafeOps.quiet0 E_good rfl rfl rfl (v := V.int .i64 x_1051) (.fn rfl) ?_
  refine SafeOps.quiet0 E_good rfl rfl rfl (v := V.int .i64 x_1052) (.fn rfl) ?_
  refine SafeOps.nil ?_
  repeat (first | refine Safe.seq ?_ | refine Safe.skip ?_ | with_reducible refine thenQ.n ?_ | with_reducible refine blockQ.n ?_)
  refine Safe.region ?_
  refine SafeOps.quiet0 E_good rfl rfl rfl (v := V.agg [V.int .i64 x_1049.Id, V.int .i64 x_1049.Tenant, V.int .i64 x_1049.Prog, V.int .i64 x_1049.Pc, V.int .i64 x_1049.Unit, V.int .i64 x_1049.Keeps.a0, V.int .i64 x_1049.Keeps.a1, V.int .i64 x_1049.Keeps.a2, V.int .i64 x_1049.Keeps.a3, V.int .i64 x_1049.State, V.int .i64 x_1049.Ran]) (.load rfl rfl (.box rfl rfl) rfl) ?_
  refine SafeOps.quiet0 E_good rfl rfl rfl (v := V.ref [13] 0 (rws api_Instr.cells [(api_Instr.mk 1 3 0), (api_Instr.mk 3 0 0)]).length) (.fn rfl) ?_
  refine bindG h ?_
  rintro ⟨x_1054, x_1055, x_1056, x_1057⟩ he1058 h
  refine SafeOps.quiet0 E_good rfl rfl rfl (v := V.tup [V.agg [V.int .i64 x_1054.Id, V.int .i64 x_1054.Tenant, V.int .i64 x_1054.Prog, V.int .i64 x_1054.Pc, V.int .i64 x_1054.Unit, V.int .i64 x_1054.Keeps.a0, V.int .i64 x_1054.Keeps.a1, V.int .i64 x_1054.Keeps.a2, V.int .i64 x_1054.Keeps.a3, V.int .i64 x_1054.State, V.int .i64 x_1054.Ran], V.agg [V.int .i64 x_1055.Kind, V.int .i64 x_1055.A, V.int .i64 x_1055.B], V.int .i64 x_1056, V.int .i64 x_1057]) (.callS rfl (.cons (.free rfl) (.cons (.full rfl rfl) (.cons (.free rfl) .nil))) (go_step_Slice_sc x_1049 [(api_Instr.mk 1 3 0), (api_Instr.mk 3 0 0)] 2 _ he1058) (.tupL (.cons (.aggL (.cons (.plain rfl) (.cons (.plain rfl) (.cons (.plain rfl) (.cons (.plain rfl) (.cons (.plain rfl) (.cons (.plain rfl) (.cons (.plain rfl) (.cons (.plain rfl) (.cons (.plain rfl) (.cons (.plain rfl) (.cons (.plain rfl) .nil)))))))))))) (.cons (.aggL (.cons (.plain rfl) (.cons (.plain rfl) (.cons (.plain rfl) .nil)))) (.cons (.plain rfl) (.cons (.plain rfl) .nil))))) rfl) ?_
  refine SafeOps.quiet0 E_good rfl rfl rfl (v := V.tup [V.agg [V.int .i64 x_1054.Id, V.int .i64 x_1054.Tenant, V.int .i64 x_1054.Prog, V.int .i64 x_1054.Pc, V.int .i64 x_1054.Unit, V.int .i64 x_1054.Keeps.a0, V.int .i64 x_1054.Keeps.a1, V.int .i64 x_1054.Keeps.a2, V.int .i64 x_1054.Keeps.a3, V.int .i64 x_1054.State, V.int .i64 x_1054.Ran], V.agg [V.int .i64 x_1055.Kind, V.int .i64 x_1055.A, V.int .i64 x_1055.B], V.int .i64 x_1056, V.int .i64 x_1057]) (.fn rfl) ?_
  refine SafeOps.quiet0 E_good rfl rfl rfl (v := V.agg [V.int .i64 x_1054.Id, V.int .i64 x_1054.Tenant, V.int .i64 x_1054.Prog, V.int .i64 x_1054.Pc, V.int .i64 x_1054.Unit, V.int .i64 x_1054.Keeps.a0, V.int .i64 x_1054.Keeps.a1, V.int .i64 x_1054.Keeps.a2, V.int .i64 x_1054.Keeps.a3, V.int .i64 x_1054.State, V.int .i64 x_1054.Ran]) (.fn rfl) ?_
  refine SafeOps.quiet0 E_good rfl rfl rfl (v := V.agg [V.int .i64 x_1055.Kind, V.int .i64 x_1055.A, V.int .i64 x_1055.B]) (.fn rfl) ?_
  refine SafeOps.quiet0 E_good rfl rfl rfl (v := V.int .i64 x_1056) (.fn rfl) ?_
  refine SafeOps.quiet0 E_good rfl rfl rfl (v := V.int .i64 x_1057) (.fn rfl) ?_
  refine SafeOps.quiet1 E_good rfl rfl rfl (.alloc rfl rfl) rfl ?_
  refine SafeOps.store (z := Obj.box [V.int .i64 x_1054.Id, V.int .i64 x_1054.Tenant, V.int .i64 x_1054.Prog, V.int .i64 x_1054.Pc, V.int .i64 x_1054.Unit, V.int .i64 x_1054.Keeps.a0, V.int .i64 x_1054.Keeps.a1, V.int .i64 x_1054.Keeps.a2, V.int .i64 x_1054.Keeps.a3, V.int .i64 x_1054.State, V.int .i64 x_1054.Ran]) E_good rfl rfl rfl rfl rfl rfl rfl (.boxM (c := 11) rfl rfl (Nat.le_of_ble_eq_true rfl) rfl) ?_
  refine SafeOps.store (z := Obj.box [V.int .i64 x_1055.Kind, V.int .i64 x_1055.A, V.int .i64 x_1055.B]) E_good rfl rfl rfl rfl rfl rfl rfl (.boxM (c := 3) rfl rfl (Nat.le_of_ble_eq_true rfl) rfl) ?_
  refine SafeOps.quiet0 E_good rfl rfl rfl (v := V.int .i64 x_1056) (.fn rfl) ?_
  refine SafeOps.quiet0 E_good rfl rfl rfl (v := V.int .i64 x_1057) (.fn rfl) ?_
  refine SafeOps.nil ?_
  repeat (first | refine Safe.seq ?_ | refine Safe.skip ?_ | with_reducible refine thenQ.n ?_ | with_reducible refine blockQ.n ?_)
  refine Safe.region ?_
  refine SafeOps.quiet0 E_good rfl rfl rfl (v := V.int .i64 x_1044) (.fn rfl) ?_
  refine SafeOps.quiet0 E_good rfl rfl rfl (v := V.bool (x_1044 == 0)) (.fn rfl) ?_
  refine SafeOps.quiet0 E_good rfl rfl rfl (v := V.bool (x_1044 == 0)) (.fn rfl) ?_
  refine SafeOps.bjoin 3 44 (b := ((x_1044 == 0) && (x_1047 == 0))) (b1 := (x_1047 == 0)) (b0 := false) (fun hc1059 K => ?_) (fun hc1059 K => ?_) bj_and ?_
  · skip
    refine SafeOps.quiet0 E_good (congrArg some hc1059) rfl rfl (v := V.int .i64 x_1047) (.fn rfl) ?_
    refine SafeOps.quiet0 E_good (congrArg some hc1059) rfl rfl (v := V.bool (x_1047 == 0)) (.fn rfl) ?_
    refine SafeOps.quiet0 E_good rfl rfl rfl (v := V.bool (x_1047 == 0)) (.pickK rfl hc1059 rfl) ?_
    exact SafeOps.drop' 3 rfl rfl rfl K
  · skip
    refine SafeOps.skip (congrArg some hc1059) rfl rfl ?_
    refine SafeOps.skip (congrArg some hc1059) rfl rfl ?_
    refine SafeOps.quiet0 E_good rfl rfl rfl (v := V.bool false) (.pickK rfl hc1059 rfl) ?_
    exact SafeOps.drop' 3 rfl rfl rfl K
  refine SafeOps.quiet0 E_good rfl rfl rfl (v := V.bool ((x_1044 == 0) && (x_1047 == 0))) (.fn rfl) ?_
  refine SafeOps.bjoin 3 48 (b := (((x_1044 == 0) && (x_1047 == 0)) && (x_1052 == 0))) (b1 := (x_1052 == 0)) (b0 := false) (fun hc1060 K => ?_) (fun hc1060 K => ?_) bj_and ?_
  · skip
    refine SafeOps.quiet0 E_good (congrArg some hc1060) rfl rfl (v := V.int .i64 x_1052) (.fn rfl) ?_
    refine SafeOps.quiet0 E_good (congrArg some hc1060) rfl rfl (v := V.bool (x_1052 == 0)) (.fn rfl) ?_
    refine SafeOps.quiet0 E_good rfl rfl rfl (v := V.bool (x_1052 == 0)) (.pickK rfl hc1060 rfl) ?_
    exact SafeOps.drop' 3 rfl rfl rfl K
  · skip
    refine SafeOps.skip (congrArg some hc1060) rfl rfl ?_
    refine SafeOps.skip (congrArg some hc1060) rfl rfl ?_
    refine SafeOps.quiet0 E_good rfl rfl rfl (v := V.bool false) (.pickK rfl hc1060 rfl) ?_
    exact SafeOps.drop' 3 rfl rfl rfl K
  refine SafeOps.quiet0 E_good rfl rfl rfl (v := V.bool (((x_1044 == 0) && (x_1047 == 0)) && (x_1052 == 0))) (.fn rfl) ?_
  refine SafeOps.bjoin 3 52 (b := ((((x_1044 == 0) && (x_1047 == 0)) && (x_1052 == 0)) && (x_1057 == 0))) (b1 := (x_1057 == 0)) (b0 := false) (fun hc1061 K => ?_) (fun hc1061 K => ?_) bj_and ?_
  · skip
    refine SafeOps.quiet0 E_good (congrArg some hc1061) rfl rfl (v := V.int .i64 x_1057) (.fn rfl) ?_
    refine SafeOps.quiet0 E_good (congrArg some hc1061) rfl rfl (v := V.bool (x_1057 == 0)) (.fn rfl) ?_
    refine SafeOps.quiet0 E_good rfl rfl rfl (v := V.bool (x_1057 == 0)) (.pickK rfl hc1061 rfl) ?_
    exact SafeOps.drop' 3 rfl rfl rfl K
  · skip
    refine SafeOps.skip (congrArg some hc1061) rfl rfl ?_
    refine SafeOps.skip (congrArg some hc1061) rfl rfl ?_
    refine SafeOps.quiet0 E_good rfl rfl rfl (v := V.bool false) (.pickK rfl hc1061 rfl) ?_
    exact SafeOps.drop' 3 rfl rfl rfl K
  refine SafeOps.quiet0 E_good rfl rfl rfl (v := V.bool ((((x_1044 == 0) && (x_1047 == 0)) && (x_1052 == 0)) && (x_1057 == 0))) (.fn rfl) ?_
  refine SafeOps.bjoin 3 56 (b := (((((x_1044 == 0) && (x_1047 == 0)) && (x_1052 == 0)) && (x_1057 == 0)) && (x_1051 == 2))) (b1 := (x_1051 == 2)) (b0 := false) (fun hc1062 K => ?_) (fun hc1062 K => ?_) bj_and ?_
  · skip
    refine SafeOps.quiet0 E_good (congrArg some hc1062) rfl rfl (v := V.int .i64 x_1051) (.fn rfl) ?_
    refine SafeOps.quiet0 E_good (congrArg some hc1062) rfl rfl (v := V.bool (x_1051 == 2)) (.fn rfl) ?_
    refine SafeOps.quiet0 E_good rfl rfl rfl (v := V.bool (x_1051 == 2)) (.pickK rfl hc1062 rfl) ?_
    exact SafeOps.drop' 3 rfl rfl rfl K
  · skip
    refine SafeOps.skip (congrArg some hc1062) rfl rfl ?_
    refine SafeOps.skip (congrArg some hc1062) rfl rfl ?_
    refine SafeOps.quiet0 E_good rfl rfl rfl (v := V.bool false) (.pickK rfl hc1062 rfl) ?_
    exact SafeOps.drop' 3 rfl rfl rfl K
  refine SafeOps.quiet0 E_good rfl rfl rfl (v := V.bool (((((x_1044 == 0) && (x_1047 == 0)) && (x_1052 == 0)) && (x_1057 == 0)) && (x_1051 == 2))) (.fn rfl) ?_
  refine SafeOps.bjoin 3 60 (b := ((((((x_1044 == 0) && (x_1047 == 0)) && (x_1052 == 0)) && (x_1057 == 0)) && (x_1051 == 2)) && (x_1056 == 2))) (b1 := (x_1056 == 2)) (b0 := false) (fun hc1063 K => ?_) (fun hc1063 K => ?_) bj_and ?_
  · skip
    refine SafeOps.quiet0 E_good (congrArg some hc1063) rfl rfl (v := V.int .i64 x_1056) (.fn rfl) ?_
    refine SafeOps.quiet0 E_good (congrArg some hc1063) rfl rfl (v := V.bool (x_1056 == 2)) (.fn rfl) ?_
    refine SafeOps.quiet0 E_good rfl rfl rfl (v := V.bool (x_1056 == 2)) (.pickK rfl hc1063 rfl) ?_
    exact SafeOps.drop' 3 rfl rfl rfl K
  · skip
    refine SafeOps.skip (congrArg some hc1063) rfl rfl ?_
    refine SafeOps.skip (congrArg some hc1063) rfl rfl ?_
    refine SafeOps.quiet0 E_good rfl rfl rfl (v := V.bool false) (.pickK rfl hc1063 rfl) ?_
    exact SafeOps.drop' 3 rfl rfl rfl K
  refine SafeOps.quiet0 E_good rfl rfl rfl (v := V.bool ((((((x_1044 == 0) && (x_1047 == 0)) && (x_1052 == 0)) && (x_1057 == 0)) && (x_1051 == 2)) && (x_1056 == 2))) (.fn rfl) ?_
  refine SafeOps.bjoin 4 65 (b := (((((((x_1044 == 0) && (x_1047 == 0)) && (x_1052 == 0)) && (x_1057 == 0)) && (x_1051 == 2)) && (x_1056 == 2)) && (x_1055.Kind == 3))) (b1 := (x_1055.Kind == 3)) (b0 := false) (fun hc1064 K => ?_) (fun hc1064 K => ?_) bj_and ?_
  · skip
    refine SafeOps.quiet0 E_good (congrArg some hc1064) rfl rfl (v := V.ptr [8] 0 0) (.fn rfl) ?_
    refine SafeOps.quiet0 E_good (congrArg some hc1064) rfl rfl (v := V.int .i64 x_1055.Kind) (.load rfl rfl (.box rfl rfl) rfl) ?_
    refine SafeOps.quiet0 E_good (congrArg some hc1064) rfl rfl (v := V.bool (x_1055.Kind == 3)) (.fn rfl) ?_
    refine SafeOps.quiet0 E_good rfl rfl rfl (v := V.bool (x_1055.Kind == 3)) (.pickK rfl hc1064 rfl) ?_
    exact SafeOps.drop' 4 rfl rfl rfl K
  · skip
    refine SafeOps.skip (congrArg some hc1064) rfl rfl ?_
    refine SafeOps.skip (congrArg some hc1064) rfl rfl ?_
    refine SafeOps.skip (congrArg some hc1064) rfl rfl ?_
    refine SafeOps.quiet0 E_good rfl rfl rfl (v := V.bool false) (.pickK rfl hc1064 rfl) ?_
    exact SafeOps.drop' 4 rfl rfl rfl K
  refine SafeOps.quiet0 E_good rfl rfl rfl (v := V.bool (((((((x_1044 == 0) && (x_1047 == 0)) && (x_1052 == 0)) && (x_1057 == 0)) && (x_1051 == 2)) && (x_1056 == 2)) && (x_1055.Kind == 3))) (.fn rfl) ?_
  refine SafeOps.bjoin 4 70 (b := ((((((((x_1044 == 0) && (x_1047 == 0)) && (x_1052 == 0)) && (x_1057 == 0)) && (x_1051 == 2)) && (x_1056 == 2)) && (x_1055.Kind == 3)) && (x_1054.Pc == 2))) (b1 := (x_1054.Pc == 2)) (b0 := false) (fun hc1065 K => ?_) (fun hc1065 K => ?_) bj_and ?_
  · skip
    refine SafeOps.quiet0 E_good (congrArg some hc1065) rfl rfl (v := V.ptr [2] 0 3) (.fn rfl) ?_
    refine SafeOps.quiet0 E_good (congrArg some hc1065) rfl rfl (v := V.int .i64 x_1054.Pc) (.load rfl rfl (.box rfl rfl) rfl) ?_
    refine SafeOps.quiet0 E_good (congrArg some hc1065) rfl rfl (v := V.bool (x_1054.Pc == 2)) (.fn rfl) ?_
    refine SafeOps.quiet0 E_good rfl rfl rfl (v := V.bool (x_1054.Pc == 2)) (.pickK rfl hc1065 rfl) ?_
    exact SafeOps.drop' 4 rfl rfl rfl K
  · skip
    refine SafeOps.skip (congrArg some hc1065) rfl rfl ?_
    refine SafeOps.skip (congrArg some hc1065) rfl rfl ?_
    refine SafeOps.skip (congrArg some hc1065) rfl rfl ?_
    refine SafeOps.quiet0 E_good rfl rfl rfl (v := V.bool false) (.pickK rfl hc1065 rfl) ?_
    exact SafeOps.drop' 4 rfl rfl rfl K
  refine SafeOps.quiet0 E_good rfl rfl rfl (v := V.bool ((((((((x_1044 == 0) && (x_1047 == 0)) && (x_1052 == 0)) && (x_1057 == 0)) && (x_1051 == 2)) && (x_1056 == 2)) && (x_1055.Kind == 3)) && (x_1054.Pc == 2))) (.fn rfl) ?_
  refine SafeOps.bjoin 4 75 (b := (((((((((x_1044 == 0) && (x_1047 == 0)) && (x_1052 == 0)) && (x_1057 == 0)) && (x_1051 == 2)) && (x_1056 == 2)) && (x_1055.Kind == 3)) && (x_1054.Pc == 2)) && (x_1054.Ran == 4))) (b1 := (x_1054.Ran == 4)) (b0 := false) (fun hc1066 K => ?_) (fun hc1066 K => ?_) bj_and ?_
  · skip
    refine SafeOps.quiet0 E_good (congrArg some hc1066) rfl rfl (v := V.ptr [2] 0 10) (.fn rfl) ?_
    refine SafeOps.quiet0 E_good (congrArg some hc1066) rfl rfl (v := V.int .i64 x_1054.Ran) (.load rfl rfl (.box rfl rfl) rfl) ?_
    refine SafeOps.quiet0 E_good (congrArg some hc1066) rfl rfl (v := V.bool (x_1054.Ran == 4)) (.fn rfl) ?_
    refine SafeOps.quiet0 E_good rfl rfl rfl (v := V.bool (x_1054.Ran == 4)) (.pickK rfl hc1066 rfl) ?_
    exact SafeOps.drop' 4 rfl rfl rfl K
  · skip
    refine SafeOps.skip (congrArg some hc1066) rfl rfl ?_
    refine SafeOps.skip (congrArg some hc1066) rfl rfl ?_
    refine SafeOps.skip (congrArg some hc1066) rfl rfl ?_
    refine SafeOps.quiet0 E_good rfl rfl rfl (v := V.bool false) (.pickK rfl hc1066 rfl) ?_
    exact SafeOps.drop' 4 rfl rfl rfl K
  refine SafeOps.quiet0 E_good rfl rfl rfl (v := V.bool (((((((((x_1044 == 0) && (x_1047 == 0)) && (x_1052 == 0)) && (x_1057 == 0)) && (x_1051 == 2)) && (x_1056 == 2)) && (x_1055.Kind == 3)) && (x_1054.Pc == 2)) && (x_1054.Ran == 4))) (.fn rfl) ?_
  refine SafeOps.nil ?_
  repeat (first | refine Safe.seq ?_ | refine Safe.skip ?_ | with_reducible refine thenQ.n ?_ | with_reducible refine blockQ.n ?_)
  refine Safe.ret ?_
  repeat (first | with_reducible refine thenQ.r ?_ | with_reducible refine blockQ.r ?_)
  obtain rfl := Option.some.inj h
  exact retQ.gen (vs := [V.bool (((((((((x_1044 == 0) && (x_1047 == 0)) && (x_1052 == 0)) && (x_1057 == 0)) && (x_1051 == 2)) && (x_1056 == 2)) && (x_1055.Kind == 3)) && (x_1054.Pc == 2)) && (x_1054.Ran == 4))]) rfl (.tmp (v := V.bool (((((((((x_1044 == 0) && (x_1047 == 0)) && (x_1052 == 0)) && (x_1057 == 0)) && (x_1051 == 2)) && (x_1056 == 2)) && (x_1055.Kind == 3)) && (x_1054.Pc == 2)) && (x_1054.Ran == 4))) rfl .nil) (.free rfl) (by simp) (.inr rfl)

noncomputable def go_ravellaw13_fresh (a0_1078 : Int) : Option (api_Task × Bool) :=
  (go_life_New a0_1078 0 0).bind fun (x_1086, x_1087) =>
  (go_life_Move x_1086 2).bind fun (x_1089, x_1090) =>
  some (x_1089, ((x_1087 == 0) && (x_1090 == 0)))

theorem go_ravellaw13_fresh_sc (a0_1078 : Int) (r : api_Task × Bool) (h : go_ravellaw13_fresh a0_1078 = some r) : SC Tryd.prog gl 11 [V.int .i64 a0_1078] (V.tup [V.agg [V.int .i64 r.1.Id, V.int .i64 r.1.Tenant, V.int .i64 r.1.Prog, V.int .i64 r.1.Pc, V.int .i64 r.1.Unit, V.int .i64 r.1.Keeps.a0, V.int .i64 r.1.Keeps.a1, V.int .i64 r.1.Keeps.a2, V.int .i64 r.1.Keeps.a3, V.int .i64 r.1.State, V.int .i64 r.1.Ran], V.bool r.2]) := by
  rw [go_ravellaw13_fresh] at h
  refine SC.of E_good Tryd.func11 rfl (fun _ _ => Tryd.call11 _ _) rfl ?_
  repeat (first | refine Safe.seq ?_ | refine Safe.skip ?_ | with_reducible refine thenQ.n ?_ | with_reducible refine blockQ.n ?_)
  refine Safe.region ?_
  refine SafeOps.quiet1 E_good rfl rfl rfl (.alloc rfl rfl) rfl ?_
  refine SafeOps.quiet0 E_good rfl rfl rfl (v := V.bool false) (.fn rfl) ?_
  refine SafeOps.nil ?_
  repeat (first | refine Safe.seq ?_ | refine Safe.skip ?_ | with_reducible refine thenQ.n ?_ | with_reducible refine blockQ.n ?_)
  refine Safe.region ?_
  refine SafeOps.quiet0 E_good rfl rfl rfl (v := V.int .i64 a0_1078) (.fn rfl) ?_
  refine bindG h ?_
  rintro ⟨x_1086, x_1087⟩ he1088 h
  refine SafeOps.quiet0 E_good rfl rfl rfl (v := V.tup [V.agg [V.int .i64 x_1086.Id, V.int .i64 x_1086.Tenant, V.int .i64 x_1086.Prog, V.int .i64 x_1086.Pc, V.int .i64 x_1086.Unit, V.int .i64 x_1086.Keeps.a0, V.int .i64 x_1086.Keeps.a1, V.int .i64 x_1086.Keeps.a2, V.int .i64 x_1086.Keeps.a3, V.int .i64 x_1086.State, V.int .i64 x_1086.Ran], V.int .i64 x_1087]) (.callP rfl rfl (go_life_New_sc a0_1078 0 0 _ he1088) rfl) ?_
  refine SafeOps.quiet0 E_good rfl rfl rfl (v := V.tup [V.agg [V.int .i64 x_1086.Id, V.int .i64 x_1086.Tenant, V.int .i64 x_1086.Prog, V.int .i64 x_1086.Pc, V.int .i64 x_1086.Unit, V.int .i64 x_1086.Keeps.a0, V.int .i64 x_1086.Keeps.a1, V.int .i64 x_1086.Keeps.a2, V.int .i64 x_1086.Keeps.a3, V.int .i64 x_1086.State, V.int .i64 x_1086.Ran], V.int .i64 x_1087]) (.fn rfl) ?_
  refine SafeOps.quiet0 E_good rfl rfl rfl (v := V.agg [V.int .i64 x_1086.Id, V.int .i64 x_1086.Tenant, V.int .i64 x_1086.Prog, V.int .i64 x_1086.Pc, V.int .i64 x_1086.Unit, V.int .i64 x_1086.Keeps.a0, V.int .i64 x_1086.Keeps.a1, V.int .i64 x_1086.Keeps.a2, V.int .i64 x_1086.Keeps.a3, V.int .i64 x_1086.State, V.int .i64 x_1086.Ran]) (.fn rfl) ?_
  refine SafeOps.quiet0 E_good rfl rfl rfl (v := V.int .i64 x_1087) (.fn rfl) ?_
  refine SafeOps.quiet1 E_good rfl rfl rfl (.alloc rfl rfl) rfl ?_
  refine SafeOps.store (z := Obj.box [V.int .i64 x_1086.Id, V.int .i64 x_1086.Tenant, V.int .i64 x_1086.Prog, V.int .i64 x_1086.Pc, V.int .i64 x_1086.Unit, V.int .i64 x_1086.Keeps.a0, V.int .i64 x_1086.Keeps.a1, V.int .i64 x_1086.Keeps.a2, V.int .i64 x_1086.Keeps.a3, V.int .i64 x_1086.State, V.int .i64 x_1086.Ran]) E_good rfl rfl rfl rfl rfl rfl rfl (.boxM (c := 11) rfl rfl (Nat.le_of_ble_eq_true rfl) rfl) ?_
  refine SafeOps.quiet0 E_good rfl rfl rfl (v := V.int .i64 x_1087) (.fn rfl) ?_
  refine SafeOps.nil ?_
  repeat (first | refine Safe.seq ?_ | refine Safe.skip ?_ | with_reducible refine thenQ.n ?_ | with_reducible refine blockQ.n ?_)
  refine Safe.region ?_
  refine SafeOps.quiet0 E_good rfl rfl rfl (v := V.agg [V.int .i64 x_1086.Id, V.int .i64 x_1086.Tenant, V.int .i64 x_1086.Prog, V.int .i64 x_1086.Pc, V.int .i64 x_1086.Unit, V.int .i64 x_1086.Keeps.a0, V.int .i64 x_1086.Keeps.a1, V.int .i64 x_1086.Keeps.a2, V.int .i64 x_1086.Keeps.a3, V.int .i64 x_1086.State, V.int .i64 x_1086.Ran]) (.load rfl rfl (.box rfl rfl) rfl) ?_
  refine bindG h ?_
  rintro ⟨x_1089, x_1090⟩ he1091 h
  refine SafeOps.quiet0 E_good rfl rfl rfl (v := V.tup [V.agg [V.int .i64 x_1089.Id, V.int .i64 x_1089.Tenant, V.int .i64 x_1089.Prog, V.int .i64 x_1089.Pc, V.int .i64 x_1089.Unit, V.int .i64 x_1089.Keeps.a0, V.int .i64 x_1089.Keeps.a1, V.int .i64 x_1089.Keeps.a2, V.int .i64 x_1089.Keeps.a3, V.int .i64 x_1089.State, V.int .i64 x_1089.Ran], V.int .i64 x_1090]) (.callP rfl rfl (go_life_Move_sc x_1086 2 _ he1091) rfl) ?_
  refine SafeOps.quiet0 E_good rfl rfl rfl (v := V.tup [V.agg [V.int .i64 x_1089.Id, V.int .i64 x_1089.Tenant, V.int .i64 x_1089.Prog, V.int .i64 x_1089.Pc, V.int .i64 x_1089.Unit, V.int .i64 x_1089.Keeps.a0, V.int .i64 x_1089.Keeps.a1, V.int .i64 x_1089.Keeps.a2, V.int .i64 x_1089.Keeps.a3, V.int .i64 x_1089.State, V.int .i64 x_1089.Ran], V.int .i64 x_1090]) (.fn rfl) ?_
  refine SafeOps.quiet0 E_good rfl rfl rfl (v := V.agg [V.int .i64 x_1089.Id, V.int .i64 x_1089.Tenant, V.int .i64 x_1089.Prog, V.int .i64 x_1089.Pc, V.int .i64 x_1089.Unit, V.int .i64 x_1089.Keeps.a0, V.int .i64 x_1089.Keeps.a1, V.int .i64 x_1089.Keeps.a2, V.int .i64 x_1089.Keeps.a3, V.int .i64 x_1089.State, V.int .i64 x_1089.Ran]) (.fn rfl) ?_
  refine SafeOps.quiet0 E_good rfl rfl rfl (v := V.int .i64 x_1090) (.fn rfl) ?_
  refine SafeOps.store (z := Obj.box [V.int .i64 x_1089.Id, V.int .i64 x_1089.Tenant, V.int .i64 x_1089.Prog, V.int .i64 x_1089.Pc, V.int .i64 x_1089.Unit, V.int .i64 x_1089.Keeps.a0, V.int .i64 x_1089.Keeps.a1, V.int .i64 x_1089.Keeps.a2, V.int .i64 x_1089.Keeps.a3, V.int .i64 x_1089.State, V.int .i64 x_1089.Ran]) E_good rfl rfl rfl rfl rfl rfl rfl (.boxM (c := 11) rfl rfl (Nat.le_of_ble_eq_true rfl) rfl) ?_
  refine SafeOps.quiet0 E_good rfl rfl rfl (v := V.int .i64 x_1090) (.fn rfl) ?_
  refine SafeOps.nil ?_
  repeat (first | refine Safe.seq ?_ | refine Safe.skip ?_ | with_reducible refine thenQ.n ?_ | with_reducible refine blockQ.n ?_)
  refine Safe.region ?_
  refine SafeOps.quiet0 E_good rfl rfl rfl (v := V.agg [V.int .i64 x_1089.Id, V.int .i64 x_1089.Tenant, V.int .i64 x_1089.Prog, V.int .i64 x_1089.Pc, V.int .i64 x_1089.Unit, V.int .i64 x_1089.Keeps.a0, V.int .i64 x_1089.Keeps.a1, V.int .i64 x_1089.Keeps.a2, V.int .i64 x_1089.Keeps.a3, V.int .i64 x_1089.State, V.int .i64 x_1089.Ran]) (.load rfl rfl (.box rfl rfl) rfl) ?_
  refine SafeOps.quiet0 E_good rfl rfl rfl (v := V.int .i64 x_1087) (.fn rfl) ?_
  refine SafeOps.quiet0 E_good rfl rfl rfl (v := V.bool (x_1087 == 0)) (.fn rfl) ?_
  refine SafeOps.quiet0 E_good rfl rfl rfl (v := V.bool (x_1087 == 0)) (.fn rfl) ?_
  refine SafeOps.bjoin 3 23 (b := ((x_1087 == 0) && (x_1090 == 0))) (b1 := (x_1090 == 0)) (b0 := false) (fun hc1092 K => ?_) (fun hc1092 K => ?_) bj_and ?_
  · skip
    refine SafeOps.quiet0 E_good (congrArg some hc1092) rfl rfl (v := V.int .i64 x_1090) (.fn rfl) ?_
    refine SafeOps.quiet0 E_good (congrArg some hc1092) rfl rfl (v := V.bool (x_1090 == 0)) (.fn rfl) ?_
    refine SafeOps.quiet0 E_good rfl rfl rfl (v := V.bool (x_1090 == 0)) (.pickK rfl hc1092 rfl) ?_
    exact SafeOps.drop' 3 rfl rfl rfl K
  · skip
    refine SafeOps.skip (congrArg some hc1092) rfl rfl ?_
    refine SafeOps.skip (congrArg some hc1092) rfl rfl ?_
    refine SafeOps.quiet0 E_good rfl rfl rfl (v := V.bool false) (.pickK rfl hc1092 rfl) ?_
    exact SafeOps.drop' 3 rfl rfl rfl K
  refine SafeOps.store (z := Obj.box [V.int .i64 x_1089.Id, V.int .i64 x_1089.Tenant, V.int .i64 x_1089.Prog, V.int .i64 x_1089.Pc, V.int .i64 x_1089.Unit, V.int .i64 x_1089.Keeps.a0, V.int .i64 x_1089.Keeps.a1, V.int .i64 x_1089.Keeps.a2, V.int .i64 x_1089.Keeps.a3, V.int .i64 x_1089.State, V.int .i64 x_1089.Ran]) E_good rfl rfl rfl rfl rfl rfl rfl (.boxM (c := 11) rfl rfl (Nat.le_of_ble_eq_true rfl) rfl) ?_
  refine SafeOps.quiet0 E_good rfl rfl rfl (v := V.bool ((x_1087 == 0) && (x_1090 == 0))) (.fn rfl) ?_
  refine SafeOps.nil ?_
  repeat (first | refine Safe.seq ?_ | refine Safe.skip ?_ | with_reducible refine thenQ.n ?_ | with_reducible refine blockQ.n ?_)
  refine Safe.ret ?_
  repeat (first | with_reducible refine thenQ.r ?_ | with_reducible refine blockQ.r ?_)
  obtain rfl := Option.some.inj h
  exact retQ.gen (vs := [V.agg [V.int .i64 x_1089.Id, V.int .i64 x_1089.Tenant, V.int .i64 x_1089.Prog, V.int .i64 x_1089.Pc, V.int .i64 x_1089.Unit, V.int .i64 x_1089.Keeps.a0, V.int .i64 x_1089.Keeps.a1, V.int .i64 x_1089.Keeps.a2, V.int .i64 x_1089.Keeps.a3, V.int .i64 x_1089.State, V.int .i64 x_1089.Ran], V.bool ((x_1087 == 0) && (x_1090 == 0))]) rfl (.cell (v := V.agg [V.int .i64 x_1089.Id, V.int .i64 x_1089.Tenant, V.int .i64 x_1089.Prog, V.int .i64 x_1089.Pc, V.int .i64 x_1089.Unit, V.int .i64 x_1089.Keeps.a0, V.int .i64 x_1089.Keeps.a1, V.int .i64 x_1089.Keeps.a2, V.int .i64 x_1089.Keeps.a3, V.int .i64 x_1089.State, V.int .i64 x_1089.Ran]) rfl rfl (.box rfl rfl) rfl (.tmp (v := V.bool ((x_1087 == 0) && (x_1090 == 0))) rfl .nil)) (.free rfl) (by simp) (.inr rfl)

theorem okT33 : (eqOk Tryd.prog E 20 33 && !Tryd.prog.eqGuardType Tryd.prog.depth 33) = true := by kernel_rfl

theorem okT29 : (eqOk Tryd.prog E 20 29 && !Tryd.prog.eqGuardType Tryd.prog.depth 29) = true := by kernel_rfl
end Go.Proofs.YtlekpilcgahaoaaDoor
