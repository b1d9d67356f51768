/- Helper lemmas for the claim's theorem: an abstract machine over the model, proved sound; no condition beyond each lemma's own. -/
import Derived.Test.YtgbolkdlghenfaaSEnv
set_option linter.unusedVariables false
set_option linter.unusedSimpArgs false
set_option linter.unnecessarySimpa false
set_option linter.unusedSectionVars false
namespace Go.Proofs.Ytgbolkdlghenfaa
open Go Go.AM
set_option maxRecDepth 100000
set_option maxHeartbeats 1000000
set_option linter.unusedVariables false
set_option linter.unusedSimpArgs false
variable {gl : List (Nat × List V)}
noncomputable def go_cell_New (a0_5 : Int) : Option ((List Int) × Int) :=
  if ((decide (a0_5 < 0)) || (decide (a0_5 > 65536))) = true then
    some ([], 1)
  else
    if 0 ≤ a0_5 ∧ a0_5 ≤ a0_5 ∧ a0_5 ≤ 549755813888 then
      some (List.replicate (Int.toNat a0_5) (0 : Int), 0)
    else none

theorem go_cell_New_sc (a0_5 : Int) (r : (List Int) × Int) (h : go_cell_New a0_5 = some r) : SC Try.prog gl 17 [V.int .i64 a0_5] (V.tup [V.own 1 (rws (fun n => [V.int .i64 n]) r.1), V.int .i64 r.2]) := by
  rw [go_cell_New] at h
  refine SC.of E_good Try.func17 rfl (fun _ _ => Try.call17 _ _) rfl ?_
  repeat (first | refine Safe.seq ?_ | refine Safe.skip ?_ | with_reducible refine thenQ.n ?_ | with_reducible refine blockQ.n ?_)
  refine Safe.region ?_
  refine SafeOps.quiet0 E_good rfl rfl rfl (v := V.nils) (.fn rfl) ?_
  refine SafeOps.quiet0 E_good rfl rfl rfl (v := V.int .i64 0) (.fn rfl) ?_
  refine SafeOps.nil ?_
  repeat (first | refine Safe.seq ?_ | refine Safe.skip ?_ | with_reducible refine thenQ.n ?_ | with_reducible refine blockQ.n ?_)
  refine Safe.region ?_
  refine SafeOps.quiet0 E_good rfl rfl rfl (v := V.int .i64 a0_5) (.fn rfl) ?_
  refine SafeOps.quiet0 E_good rfl rfl rfl (v := V.bool (decide (a0_5 < 0))) (.fn rfl) ?_
  refine SafeOps.quiet0 E_good rfl rfl rfl (v := V.bool (decide (a0_5 < 0))) (.fn rfl) ?_
  refine SafeOps.bjoin 3 9 (b := ((decide (a0_5 < 0)) || (decide (a0_5 > 65536)))) (b1 := true) (b0 := decide (a0_5 > 65536)) (fun hc12 K => ?_) (fun hc12 K => ?_) bj_or ?_
  · skip
    refine SafeOps.skip (congrArg (fun b => some (!b)) hc12) rfl rfl ?_
    refine SafeOps.skip (congrArg (fun b => some (!b)) hc12) rfl rfl ?_
    refine SafeOps.quiet0 E_good rfl rfl rfl (v := V.bool true) (.pickK rfl hc12 rfl) ?_
    exact SafeOps.drop' 3 rfl rfl rfl K
  · skip
    refine SafeOps.quiet0 E_good (congrArg (fun b => some (!b)) hc12) rfl rfl (v := V.int .i64 a0_5) (.fn rfl) ?_
    refine SafeOps.quiet0 E_good (congrArg (fun b => some (!b)) hc12) rfl rfl (v := V.bool (decide (a0_5 > 65536))) (.fn rfl) ?_
    refine SafeOps.quiet0 E_good rfl rfl rfl (v := V.bool (decide (a0_5 > 65536))) (.pickK rfl hc12 rfl) ?_
    exact SafeOps.drop' 3 rfl rfl rfl K
  refine SafeOps.nil ?_
  repeat (first | refine Safe.seq ?_ | refine Safe.skip ?_ | with_reducible refine thenQ.n ?_ | with_reducible refine blockQ.n ?_)
  refine ifG h (fun hc13 h => ?_) (fun hc13 h => ?_)
  · skip
    refine Safe.condK rfl hc13 ?_
    repeat (first | refine Safe.seq ?_ | refine Safe.skip ?_ | with_reducible refine thenQ.n ?_ | with_reducible refine blockQ.n ?_)
    refine Safe.region ?_
    refine SafeOps.quiet0 E_good rfl rfl rfl (v := V.nils) (.fn rfl) ?_
    refine SafeOps.quiet0 E_good rfl rfl rfl (v := V.int .i64 1) (.fn rfl) ?_
    refine SafeOps.nil ?_
    repeat (first | refine Safe.seq ?_ | refine Safe.skip ?_ | with_reducible refine thenQ.n ?_ | with_reducible refine blockQ.n ?_)
    refine Safe.ret ?_
    repeat (first | with_reducible refine thenQ.r ?_ | with_reducible refine blockQ.r ?_)
    obtain rfl := Option.some.inj h
    exact retQ.gen (vs := [V.nils, V.int .i64 1]) rfl (.tmp (v := V.nils) rfl (.tmp (v := V.int .i64 1) rfl .nil)) (by exact (.tup (.cons (.nils _) (.cons (.free rfl) .nil)))) (by simp) (.inr rfl)
  · skip
    refine Safe.condN rfl hc13 ?_
    repeat (first | refine Safe.seq ?_ | refine Safe.skip ?_ | with_reducible refine thenQ.n ?_ | with_reducible refine blockQ.n ?_)
    refine Safe.region ?_
    refine SafeOps.quiet0 E_good rfl rfl rfl (v := V.int .i64 a0_5) (.fn rfl) ?_
    refine okG h (fun hb14 h => ?_)
    refine SafeOps.quiet1 E_good rfl rfl rfl (.makeM (f := (fun n => [V.int .i64 n])) (d := (0 : Int)) rfl rfl rfl rfl hb14 rfl rfl rfl) rfl ?_
    refine SafeOps.quiet0 E_good rfl rfl rfl (v := V.ref [11] 0 (rws (fun n => [V.int .i64 n]) (List.replicate (Int.toNat a0_5) (0 : Int))).length) (.fn rfl) ?_
    refine SafeOps.quiet0 E_good rfl rfl rfl (v := V.int .i64 0) (.fn rfl) ?_
    refine SafeOps.nil ?_
    repeat (first | refine Safe.seq ?_ | refine Safe.skip ?_ | with_reducible refine thenQ.n ?_ | with_reducible refine blockQ.n ?_)
    refine Safe.ret ?_
    repeat (first | with_reducible refine thenQ.r ?_ | with_reducible refine blockQ.r ?_)
    obtain rfl := Option.some.inj h
    exact retQ.gen (vs := [V.ref [11] 0 (rws (fun n => [V.int .i64 n]) (List.replicate (Int.toNat a0_5) (0 : Int))).length, V.int .i64 0]) rfl (.tmp (v := V.ref [11] 0 (rws (fun n => [V.int .i64 n]) (List.replicate (Int.toNat a0_5) (0 : Int))).length) rfl (.tmp (v := V.int .i64 0) rfl .nil)) (by exact (.tup (.cons (.own rfl rfl) (.cons (.free rfl) .nil)))) (by simp) (.inr rfl)

def go_cell_Check (a0_21 : List Int) : Int :=
  if (decide ((a0_21.length : Int) > 65536)) = true then
    1
  else
    0

theorem go_cell_Check_sc (a0_21 : List Int) (r : Int) (h : go_cell_Check a0_21 = r) : SC Try.prog gl 19 [V.sl 1 (rws (fun n => [V.int .i64 n]) a0_21)] (V.int .i64 r) := by
  rw [go_cell_Check] at h
  refine SC.of E_good Try.func19 rfl (fun _ _ => Try.call19 _ _) rfl ?_
  repeat (first | refine Safe.seq ?_ | refine Safe.skip ?_ | with_reducible refine thenQ.n ?_ | with_reducible refine blockQ.n ?_)
  refine Safe.region ?_
  refine SafeOps.quiet0 E_good rfl rfl rfl (v := V.int .i64 0) (.fn rfl) ?_
  refine SafeOps.nil ?_
  repeat (first | refine Safe.seq ?_ | refine Safe.skip ?_ | with_reducible refine thenQ.n ?_ | with_reducible refine blockQ.n ?_)
  refine Safe.region ?_
  refine SafeOps.quiet0 E_good rfl rfl rfl (v := V.sl 1 (rws (fun n => [V.int .i64 n]) a0_21)) (.fn rfl) ?_
  refine SafeOps.quiet0 E_good rfl rfl rfl (v := V.int .i64 (a0_21.length : Int)) (.fnE rfl lenE) ?_
  refine SafeOps.quiet0 E_good rfl rfl rfl (v := V.bool (decide ((a0_21.length : Int) > 65536))) (.fn rfl) ?_
  refine SafeOps.nil ?_
  repeat (first | refine Safe.seq ?_ | refine Safe.skip ?_ | with_reducible refine thenQ.n ?_ | with_reducible refine blockQ.n ?_)
  refine ifG h (fun hc23 h => ?_) (fun hc23 h => ?_)
  · skip
    refine Safe.condK rfl hc23 ?_
    repeat (first | refine Safe.seq ?_ | refine Safe.skip ?_ | with_reducible refine thenQ.n ?_ | with_reducible refine blockQ.n ?_)
    refine Safe.region ?_
    refine SafeOps.quiet0 E_good rfl rfl rfl (v := V.int .i64 1) (.fn rfl) ?_
    refine SafeOps.nil ?_
    repeat (first | refine Safe.seq ?_ | refine Safe.skip ?_ | with_reducible refine thenQ.n ?_ | with_reducible refine blockQ.n ?_)
    refine Safe.ret ?_
    repeat (first | with_reducible refine thenQ.r ?_ | with_reducible refine blockQ.r ?_)
    obtain rfl := h
    exact retQ.gen (vs := [V.int .i64 1]) rfl (.tmp (v := V.int .i64 1) rfl .nil) (.free rfl) (by simp) (.inr rfl)
  · skip
    refine Safe.condN rfl hc23 ?_
    repeat (first | refine Safe.seq ?_ | refine Safe.skip ?_ | with_reducible refine thenQ.n ?_ | with_reducible refine blockQ.n ?_)
    refine Safe.region ?_
    refine SafeOps.quiet0 E_good rfl rfl rfl (v := V.int .i64 0) (.fn rfl) ?_
    refine SafeOps.nil ?_
    repeat (first | refine Safe.seq ?_ | refine Safe.skip ?_ | with_reducible refine thenQ.n ?_ | with_reducible refine blockQ.n ?_)
    refine Safe.ret ?_
    repeat (first | with_reducible refine thenQ.r ?_ | with_reducible refine blockQ.r ?_)
    obtain rfl := h
    exact retQ.gen (vs := [V.int .i64 0]) rfl (.tmp (v := V.int .i64 0) rfl .nil) (.free rfl) (by simp) (.inr rfl)

def go_slices_Clone_api_Mem_int64 (xs : List Int) : Option (List Int) := if few xs.length then some xs else none
theorem go_slices_Clone_api_Mem_int64_sc (xs : List Int) (r : List Int) (h : go_slices_Clone_api_Mem_int64 xs = some r) : SC Try.prog gl 29 [V.sl 1 (rws (fun n => [V.int .i64 n]) xs)] (V.own 1 (rws (fun n => [V.int .i64 n]) r)) := by
  rw [go_slices_Clone_api_Mem_int64] at h
  refine okG h (fun hf h => ?_)
  obtain rfl := Option.some.inj h
  refine SC.of E_good Try.func29 rfl (fun _ _ => Try.call29 _ _) rfl ?_
  repeat (first | refine Safe.seq ?_ | refine Safe.skip ?_ | with_reducible refine thenQ.n ?_ | with_reducible refine blockQ.n ?_)
  refine Safe.region ?_
  refine SafeOps.quiet0 E_good rfl rfl rfl (v := V.nils) (.fn rfl) ?_
  refine SafeOps.nil ?_
  repeat (first | refine Safe.seq ?_ | refine Safe.skip ?_ | with_reducible refine thenQ.n ?_ | with_reducible refine blockQ.n ?_)
  refine Safe.region ?_
  refine SafeOps.quiet0 E_good rfl rfl rfl (v := V.sl 1 (rws (fun n => [V.int .i64 n]) xs)) (.fn rfl) ?_
  refine SafeOps.nilcmp E_good rfl rfl rfl rfl rfl rfl rfl (fun b hb => ?_)
  refine SafeOps.nil ?_
  repeat (first | refine Safe.seq ?_ | refine Safe.skip ?_ | with_reducible refine thenQ.n ?_ | with_reducible refine blockQ.n ?_)
  cases b with
  | true =>
    have hx : xs = [] := List.map_eq_nil_iff.1 (hb rfl)
    subst hx
    refine Safe.condK rfl rfl ?_
    repeat (first | refine Safe.seq ?_ | refine Safe.skip ?_ | with_reducible refine thenQ.n ?_ | with_reducible refine blockQ.n ?_)
    refine Safe.region ?_
    refine SafeOps.quiet0 E_good rfl rfl rfl (v := V.nils) (.fn rfl) ?_
    refine SafeOps.nil ?_
    repeat (first | refine Safe.seq ?_ | refine Safe.skip ?_ | with_reducible refine thenQ.n ?_ | with_reducible refine blockQ.n ?_)
    refine Safe.ret ?_
    repeat (first | with_reducible refine thenQ.r ?_ | with_reducible refine blockQ.r ?_)
    exact retQ.gen (vs := [V.nils]) rfl (.tmp rfl .nil) (.nils _) (by simp) (.inr rfl)
  | false =>
    refine Safe.condN rfl rfl ?_
    repeat (first | refine Safe.seq ?_ | refine Safe.skip ?_ | with_reducible refine thenQ.n ?_ | with_reducible refine blockQ.n ?_)
    refine Safe.region ?_
    refine SafeOps.quiet1 E_good rfl rfl rfl (.litM (f := (fun n => [V.int .i64 n])) (xs := []) rfl rfl (by decide) rfl rfl rfl rfl rfl) rfl ?_
    refine SafeOps.quiet0 E_good rfl rfl rfl (v := V.sl 1 (rws (fun n => [V.int .i64 n]) xs)) (.fn rfl) ?_
    refine SafeOps.appendM (fun n => [V.int .i64 n]) (xs := []) (ys := xs) E_good rfl rfl rfl rfl rfl rfl rfl rfl rfl (.own rfl) (.sl _) (fun _ => rfl) hf ?_
    refine SafeOps.quiet0 E_good rfl rfl rfl (v := V.ref [7] 0 (rws (fun n => [V.int .i64 n]) ([] ++ xs)).length) (.fn rfl) ?_
    refine SafeOps.nil ?_
    repeat (first | refine Safe.seq ?_ | refine Safe.skip ?_ | with_reducible refine thenQ.n ?_ | with_reducible refine blockQ.n ?_)
    refine Safe.ret ?_
    repeat (first | with_reducible refine thenQ.r ?_ | with_reducible refine blockQ.r ?_)
    exact retQ.gen (vs := [V.ref [7] 0 (rws (fun n => [V.int .i64 n]) ([] ++ xs)).length]) rfl (.tmp rfl .nil) (by exact .own rfl rfl) (by simp) (.inr rfl)

noncomputable def go_cell_Add (a0_18 : List Int) (a1_19 : Int) (a2_20 : Int) : Option ((List Int) × Int × Int) :=
  if ((((go_cell_Check a0_18) != 0) || (decide (a1_19 < 0))) || (decide (a1_19 ≥ (a0_18.length : Int)))) = true then
    some ([], 0, 1)
  else
    if 0 ≤ a1_19 ∧ a1_19 < (a0_18.length : Int) then
      (go_slices_Clone_api_Mem_int64 a0_18).bind fun x_45 =>
      if 0 ≤ a1_19 ∧ a1_19 < (x_45.length : Int) then
        if (!((decide ((gt (st x_45 a1_19 (IntKind.i64.wrap ((gt x_45 a1_19) + a2_20))) a1_19) < (gt x_45 a1_19))) == (decide (a2_20 < 0)))) = true then
          some ([], 0, 4)
        else
          some (st x_45 a1_19 (IntKind.i64.wrap ((gt x_45 a1_19) + a2_20)), (gt x_45 a1_19), 0)
      else none
    else none

theorem go_cell_Add_sc (a0_18 : List Int) (a1_19 : Int) (a2_20 : Int) (r : (List Int) × Int × Int) (h : go_cell_Add a0_18 a1_19 a2_20 = some r) : SC Try.prog gl 14 [V.sl 1 (rws (fun n => [V.int .i64 n]) a0_18), V.int .i64 a1_19, V.int .i64 a2_20] (V.tup [V.own 1 (rws (fun n => [V.int .i64 n]) r.1), V.int .i64 r.2.1, V.int .i64 r.2.2]) := by
  rw [go_cell_Add] at h
  refine SC.of E_good Try.func14 rfl (fun _ _ => Try.call14 _ _) rfl ?_
  repeat (first | refine Safe.seq ?_ | refine Safe.skip ?_ | with_reducible refine thenQ.n ?_ | with_reducible refine blockQ.n ?_)
  refine Safe.region ?_
  refine SafeOps.quiet0 E_good rfl rfl rfl (v := V.nils) (.fn rfl) ?_
  refine SafeOps.quiet0 E_good rfl rfl rfl (v := V.int .i64 0) (.fn rfl) ?_
  refine SafeOps.quiet0 E_good rfl rfl rfl (v := V.int .i64 0) (.fn rfl) ?_
  refine SafeOps.nil ?_
  repeat (first | refine Safe.seq ?_ | refine Safe.skip ?_ | with_reducible refine thenQ.n ?_ | with_reducible refine blockQ.n ?_)
  refine Safe.region ?_
  refine SafeOps.quiet0 E_good rfl rfl rfl (v := V.sl 1 (rws (fun n => [V.int .i64 n]) a0_18)) (.fn rfl) ?_
  refine SafeOps.quiet0 E_good rfl rfl rfl (v := V.int .i64 a1_19) (.fn rfl) ?_
  refine SafeOps.inline E_good rfl rfl rfl rfl rfl Try.func27 rfl (fun _ _ => Try.call27 _ _) rfl ?_
  repeat (first | refine Safe.seq ?_ | refine Safe.skip ?_ | with_reducible refine thenQ.n ?_ | with_reducible refine blockQ.n ?_)
  refine Safe.region ?_
  refine SafeOps.quiet0 E_good rfl rfl rfl (v := V.nils) (.fn rfl) ?_
  refine SafeOps.quiet0 E_good rfl rfl rfl (v := V.nilp) (.fn rfl) ?_
  refine SafeOps.quiet0 E_good rfl rfl rfl (v := V.int .i64 0) (.fn rfl) ?_
  refine SafeOps.nil ?_
  repeat (first | refine Safe.seq ?_ | refine Safe.skip ?_ | with_reducible refine thenQ.n ?_ | with_reducible refine blockQ.n ?_)
  refine Safe.region ?_
  refine SafeOps.quiet0 E_good rfl rfl rfl (v := V.sl 1 (rws (fun n => [V.int .i64 n]) a0_18)) (.fn rfl) ?_
  refine SafeOps.quiet0 E_good rfl rfl rfl (v := V.int .i64 a1_19) (.fn rfl) ?_
  refine SafeOps.inline E_good rfl rfl rfl rfl rfl Try.func23 rfl (fun _ _ => Try.call23 _ _) rfl ?_
  repeat (first | refine Safe.seq ?_ | refine Safe.skip ?_ | with_reducible refine thenQ.n ?_ | with_reducible refine blockQ.n ?_)
  refine Safe.region ?_
  refine SafeOps.quiet0 E_good rfl rfl rfl (v := V.nilp) (.fn rfl) ?_
  refine SafeOps.quiet0 E_good rfl rfl rfl (v := V.int .i64 0) (.fn rfl) ?_
  refine SafeOps.nil ?_
  repeat (first | refine Safe.seq ?_ | refine Safe.skip ?_ | with_reducible refine thenQ.n ?_ | with_reducible refine blockQ.n ?_)
  refine Safe.region ?_
  refine SafeOps.quiet0 E_good rfl rfl rfl (v := V.sl 1 (rws (fun n => [V.int .i64 n]) a0_18)) (.fn rfl) ?_
  refine SafeOps.quiet0 E_good rfl rfl rfl (v := V.int .i64 (go_cell_Check a0_18)) (.callP rfl rfl (go_cell_Check_sc a0_18 _ rfl) rfl) ?_
  refine SafeOps.quiet0 E_good rfl rfl rfl (v := V.bool ((go_cell_Check a0_18) != 0)) (.fn rfl) ?_
  refine SafeOps.quiet0 E_good rfl rfl rfl (v := V.bool ((go_cell_Check a0_18) != 0)) (.fn rfl) ?_
  refine SafeOps.bjoin 3 12 (b := (((go_cell_Check a0_18) != 0) || (decide (a1_19 < 0)))) (b1 := true) (b0 := decide (a1_19 < 0)) (fun hc41 K => ?_) (fun hc41 K => ?_) bj_or ?_
  · skip
    refine SafeOps.skip (congrArg (fun b => some (!b)) hc41) rfl rfl ?_
    refine SafeOps.skip (congrArg (fun b => some (!b)) hc41) rfl rfl ?_
    refine SafeOps.quiet0 E_good rfl rfl rfl (v := V.bool true) (.pickK rfl hc41 rfl) ?_
    exact SafeOps.drop' 3 rfl rfl rfl K
  · skip
    refine SafeOps.quiet0 E_good (congrArg (fun b => some (!b)) hc41) rfl rfl (v := V.int .i64 a1_19) (.fn rfl) ?_
    refine SafeOps.quiet0 E_good (congrArg (fun b => some (!b)) hc41) rfl rfl (v := V.bool (decide (a1_19 < 0))) (.fn rfl) ?_
    refine SafeOps.quiet0 E_good rfl rfl rfl (v := V.bool (decide (a1_19 < 0))) (.pickK rfl hc41 rfl) ?_
    exact SafeOps.drop' 3 rfl rfl rfl K
  refine SafeOps.quiet0 E_good rfl rfl rfl (v := V.bool (((go_cell_Check a0_18) != 0) || (decide (a1_19 < 0)))) (.fn rfl) ?_
  refine SafeOps.bjoin 5 18 (b := ((((go_cell_Check a0_18) != 0) || (decide (a1_19 < 0))) || (decide (a1_19 ≥ (a0_18.length : Int))))) (b1 := true) (b0 := decide (a1_19 ≥ (a0_18.length : Int))) (fun hc42 K => ?_) (fun hc42 K => ?_) bj_or ?_
  · skip
    refine SafeOps.skip (congrArg (fun b => some (!b)) hc42) rfl rfl ?_
    refine SafeOps.skip (congrArg (fun b => some (!b)) hc42) rfl rfl ?_
    refine SafeOps.skip (congrArg (fun b => some (!b)) hc42) rfl rfl ?_
    refine SafeOps.skip (congrArg (fun b => some (!b)) hc42) rfl rfl ?_
    refine SafeOps.quiet0 E_good rfl rfl rfl (v := V.bool true) (.pickK rfl hc42 rfl) ?_
    exact SafeOps.drop' 5 rfl rfl rfl K
  · skip
    refine SafeOps.quiet0 E_good (congrArg (fun b => some (!b)) hc42) rfl rfl (v := V.int .i64 a1_19) (.fn rfl) ?_
    refine SafeOps.quiet0 E_good (congrArg (fun b => some (!b)) hc42) rfl rfl (v := V.sl 1 (rws (fun n => [V.int .i64 n]) a0_18)) (.fn rfl) ?_
    refine SafeOps.quiet0 E_good (congrArg (fun b => some (!b)) hc42) rfl rfl (v := V.int .i64 (a0_18.length : Int)) (.fnE rfl lenE) ?_
    refine SafeOps.quiet0 E_good (congrArg (fun b => some (!b)) hc42) rfl rfl (v := V.bool (decide (a1_19 ≥ (a0_18.length : Int)))) (.fn rfl) ?_
    refine SafeOps.quiet0 E_good rfl rfl rfl (v := V.bool (decide (a1_19 ≥ (a0_18.length : Int)))) (.pickK rfl hc42 rfl) ?_
    exact SafeOps.drop' 5 rfl rfl rfl K
  refine SafeOps.nil ?_
  repeat (first | refine Safe.seq ?_ | refine Safe.skip ?_ | with_reducible refine thenQ.n ?_ | with_reducible refine blockQ.n ?_)
  refine ifG h (fun hc43 h => ?_) (fun hc43 h => ?_)
  · skip
    refine Safe.condK rfl hc43 ?_
    repeat (first | refine Safe.seq ?_ | refine Safe.skip ?_ | with_reducible refine thenQ.n ?_ | with_reducible refine blockQ.n ?_)
    refine Safe.region ?_
    refine SafeOps.quiet0 E_good rfl rfl rfl (v := V.nilp) (.fn rfl) ?_
    refine SafeOps.quiet0 E_good rfl rfl rfl (v := V.int .i64 1) (.fn rfl) ?_
    refine SafeOps.nil ?_
    repeat (first | refine Safe.seq ?_ | refine Safe.skip ?_ | with_reducible refine thenQ.n ?_ | with_reducible refine blockQ.n ?_)
    refine Safe.ret ?_
    repeat (first | with_reducible refine thenQ.r ?_ | with_reducible refine blockQ.r ?_)
    refine inQ.gen (vs := [V.nilp, V.int .i64 1]) (v := V.tup [V.nilp, V.int .i64 1]) (.inr rfl) rfl (.tmp (v := V.nilp) rfl (.tmp (v := V.int .i64 1) rfl .nil)) rfl ?_
    refine SafeOps.quiet0 E_good rfl rfl rfl (v := V.tup [V.nilp, V.int .i64 1]) (.fn rfl) ?_
    refine SafeOps.quiet0 E_good rfl rfl rfl (v := V.nilp) (.fn rfl) ?_
    refine SafeOps.quiet0 E_good rfl rfl rfl (v := V.int .i64 1) (.fn rfl) ?_
    refine SafeOps.quiet0 E_good rfl rfl rfl (v := V.nilp) (.fn rfl) ?_
    refine SafeOps.quiet0 E_good rfl rfl rfl (v := V.int .i64 1) (.fn rfl) ?_
    refine SafeOps.nil ?_
    repeat (first | refine Safe.seq ?_ | refine Safe.skip ?_ | with_reducible refine thenQ.n ?_ | with_reducible refine blockQ.n ?_)
    refine Safe.region ?_
    refine SafeOps.quiet0 E_good rfl rfl rfl (v := V.int .i64 1) (.fn rfl) ?_
    refine SafeOps.quiet0 E_good rfl rfl rfl (v := V.bool true) (.fn rfl) ?_
    refine SafeOps.nil ?_
    repeat (first | refine Safe.seq ?_ | refine Safe.skip ?_ | with_reducible refine thenQ.n ?_ | with_reducible refine blockQ.n ?_)
    refine Safe.condK rfl rfl ?_
    repeat (first | refine Safe.seq ?_ | refine Safe.skip ?_ | with_reducible refine thenQ.n ?_ | with_reducible refine blockQ.n ?_)
    refine Safe.region ?_
    refine SafeOps.quiet0 E_good rfl rfl rfl (v := V.int .i64 1) (.fn rfl) ?_
    refine SafeOps.quiet0 E_good rfl rfl rfl (v := V.nils) (.fn rfl) ?_
    refine SafeOps.quiet0 E_good rfl rfl rfl (v := V.nilp) (.fn rfl) ?_
    refine SafeOps.quiet0 E_good rfl rfl rfl (v := V.int .i64 1) (.fn rfl) ?_
    refine SafeOps.nil ?_
    repeat (first | refine Safe.seq ?_ | refine Safe.skip ?_ | with_reducible refine thenQ.n ?_ | with_reducible refine blockQ.n ?_)
    refine Safe.ret ?_
    repeat (first | with_reducible refine thenQ.r ?_ | with_reducible refine blockQ.r ?_)
    refine inQ.gen (vs := [V.nils, V.nilp, V.int .i64 1]) (v := V.tup [V.nils, V.nilp, V.int .i64 1]) (.inr rfl) rfl (.tmp (v := V.nils) rfl (.tmp (v := V.nilp) rfl (.tmp (v := V.int .i64 1) rfl .nil))) rfl ?_
    refine SafeOps.quiet0 E_good rfl rfl rfl (v := V.tup [V.nils, V.nilp, V.int .i64 1]) (.fn rfl) ?_
    refine SafeOps.quiet0 E_good rfl rfl rfl (v := V.nils) (.fn rfl) ?_
    refine SafeOps.quiet0 E_good rfl rfl rfl (v := V.nilp) (.fn rfl) ?_
    refine SafeOps.quiet0 E_good rfl rfl rfl (v := V.int .i64 1) (.fn rfl) ?_
    refine SafeOps.quiet0 E_good rfl rfl rfl (v := V.nils) (.fn rfl) ?_
    refine SafeOps.quiet0 E_good rfl rfl rfl (v := V.nilp) (.fn rfl) ?_
    refine SafeOps.quiet0 E_good rfl rfl rfl (v := V.int .i64 1) (.fn rfl) ?_
    refine SafeOps.nil ?_
    repeat (first | refine Safe.seq ?_ | refine Safe.skip ?_ | with_reducible refine thenQ.n ?_ | with_reducible refine blockQ.n ?_)
    refine Safe.region ?_
    refine SafeOps.quiet0 E_good rfl rfl rfl (v := V.int .i64 1) (.fn rfl) ?_
    refine SafeOps.quiet0 E_good rfl rfl rfl (v := V.bool true) (.fn rfl) ?_
    refine SafeOps.nil ?_
    repeat (first | refine Safe.seq ?_ | refine Safe.skip ?_ | with_reducible refine thenQ.n ?_ | with_reducible refine blockQ.n ?_)
    refine Safe.condK rfl rfl ?_
    repeat (first | refine Safe.seq ?_ | refine Safe.skip ?_ | with_reducible refine thenQ.n ?_ | with_reducible refine blockQ.n ?_)
    refine Safe.region ?_
    refine SafeOps.quiet0 E_good rfl rfl rfl (v := V.int .i64 1) (.fn rfl) ?_
    refine SafeOps.quiet0 E_good rfl rfl rfl (v := V.nils) (.fn rfl) ?_
    refine SafeOps.quiet0 E_good rfl rfl rfl (v := V.int .i64 0) (.fn rfl) ?_
    refine SafeOps.quiet0 E_good rfl rfl rfl (v := V.int .i64 1) (.fn rfl) ?_
    refine SafeOps.nil ?_
    repeat (first | refine Safe.seq ?_ | refine Safe.skip ?_ | with_reducible refine thenQ.n ?_ | with_reducible refine blockQ.n ?_)
    refine Safe.ret ?_
    repeat (first | with_reducible refine thenQ.r ?_ | with_reducible refine blockQ.r ?_)
    obtain rfl := Option.some.inj h
    exact retQ.gen (vs := [V.nils, V.int .i64 0, V.int .i64 1]) rfl (.tmp (v := V.nils) rfl (.tmp (v := V.int .i64 0) rfl (.tmp (v := V.int .i64 1) rfl .nil))) (by exact (.tup (.cons (.nils _) (.cons (.free rfl) (.cons (.free rfl) .nil))))) (by simp) (.inr rfl)
  · skip
    refine Safe.condN rfl hc43 ?_
    repeat (first | refine Safe.seq ?_ | refine Safe.skip ?_ | with_reducible refine thenQ.n ?_ | with_reducible refine blockQ.n ?_)
    refine Safe.region ?_
    refine SafeOps.quiet0 E_good rfl rfl rfl (v := V.sl 1 (rws (fun n => [V.int .i64 n]) a0_18)) (.fn rfl) ?_
    refine SafeOps.quiet0 E_good rfl rfl rfl (v := V.int .i64 a1_19) (.fn rfl) ?_
    refine okG h (fun hb44 h => ?_)
    refine SafeOps.quiet0 E_good rfl rfl rfl (v := V.spt 1 (rws (fun n => [V.int .i64 n]) a0_18) (Int.toNat a1_19) 0) (.idxSlM (f := (fun n => [V.int .i64 n])) rfl rfl rfl rfl rfl hb44) ?_
    refine SafeOps.quiet0 E_good rfl rfl rfl (v := V.spt 1 (rws (fun n => [V.int .i64 n]) a0_18) (Int.toNat a1_19) 0) (.fn rfl) ?_
    refine SafeOps.quiet0 E_good rfl rfl rfl (v := V.int .i64 0) (.fn rfl) ?_
    refine SafeOps.nil ?_
    repeat (first | refine Safe.seq ?_ | refine Safe.skip ?_ | with_reducible refine thenQ.n ?_ | with_reducible refine blockQ.n ?_)
    refine Safe.ret ?_
    repeat (first | with_reducible refine thenQ.r ?_ | with_reducible refine blockQ.r ?_)
    refine inQ.gen (vs := [V.spt 1 (rws (fun n => [V.int .i64 n]) a0_18) (Int.toNat a1_19) 0, V.int .i64 0]) (v := V.tup [V.spt 1 (rws (fun n => [V.int .i64 n]) a0_18) (Int.toNat a1_19) 0, V.int .i64 0]) (.inr rfl) rfl (.tmp (v := V.spt 1 (rws (fun n => [V.int .i64 n]) a0_18) (Int.toNat a1_19) 0) rfl (.tmp (v := V.int .i64 0) rfl .nil)) rfl ?_
    refine SafeOps.quiet0 E_good rfl rfl rfl (v := V.tup [V.spt 1 (rws (fun n => [V.int .i64 n]) a0_18) (Int.toNat a1_19) 0, V.int .i64 0]) (.fn rfl) ?_
    refine SafeOps.quiet0 E_good rfl rfl rfl (v := V.spt 1 (rws (fun n => [V.int .i64 n]) a0_18) (Int.toNat a1_19) 0) (.fn rfl) ?_
    refine SafeOps.quiet0 E_good rfl rfl rfl (v := V.int .i64 0) (.fn rfl) ?_
    refine SafeOps.quiet0 E_good rfl rfl rfl (v := V.spt 1 (rws (fun n => [V.int .i64 n]) a0_18) (Int.toNat a1_19) 0) (.fn rfl) ?_
    refine SafeOps.quiet0 E_good rfl rfl rfl (v := V.int .i64 0) (.fn rfl) ?_
    refine SafeOps.nil ?_
    repeat (first | refine Safe.seq ?_ | refine Safe.skip ?_ | with_reducible refine thenQ.n ?_ | with_reducible refine blockQ.n ?_)
    refine Safe.region ?_
    refine SafeOps.quiet0 E_good rfl rfl rfl (v := V.int .i64 0) (.fn rfl) ?_
    refine SafeOps.quiet0 E_good rfl rfl rfl (v := V.bool false) (.fn rfl) ?_
    refine SafeOps.nil ?_
    repeat (first | refine Safe.seq ?_ | refine Safe.skip ?_ | with_reducible refine thenQ.n ?_ | with_reducible refine blockQ.n ?_)
    refine Safe.condN rfl rfl ?_
    repeat (first | refine Safe.seq ?_ | refine Safe.skip ?_ | with_reducible refine thenQ.n ?_ | with_reducible refine blockQ.n ?_)
    refine Safe.region ?_
    refine SafeOps.quiet0 E_good rfl rfl rfl (v := V.sl 1 (rws (fun n => [V.int .i64 n]) a0_18)) (.fn rfl) ?_
    refine bindG h ?_
    intro x_45 he46 h
    refine SafeOps.quiet E_good rfl rfl rfl (v := V.ref [16, 19, 0] 0 (rws (fun n => [V.int .i64 n]) x_45).length) (.callP rfl rfl (go_slices_Clone_api_Mem_int64_sc a0_18 _ he46) rfl) rfl ?_
    refine SafeOps.quiet0 E_good rfl rfl rfl (v := V.ref [16, 19, 0] 0 (rws (fun n => [V.int .i64 n]) x_45).length) (.fn rfl) ?_
    refine SafeOps.nil ?_
    repeat (first | refine Safe.seq ?_ | refine Safe.skip ?_ | with_reducible refine thenQ.n ?_ | with_reducible refine blockQ.n ?_)
    refine Safe.regionD (n := 7) [] [] E_good mixed rfl ?_
    refine DAny.take (i := 0) rfl (by kernel_rfl) [] (by kernel_rfl) (by kernel_rfl) (by kernel_rfl) rfl rfl rfl (v := V.ref [16, 19, 0] 0 (rws (fun n => [V.int .i64 n]) x_45).length) (fun _ hz => (.fn rfl)) ?_
    refine DAny.take (i := 1) rfl (by kernel_rfl) [] (by kernel_rfl) (by kernel_rfl) (by kernel_rfl) rfl rfl rfl (v := V.ref [16, 19, 0] 0 (rws (fun n => [V.int .i64 n]) x_45).length) (fun _ hz => (.fn rfl)) ?_
    refine DAny.take (i := 2) rfl (by kernel_rfl) [] (by kernel_rfl) (by kernel_rfl) (by kernel_rfl) rfl rfl rfl (v := V.int .i64 a1_19) (fun _ hz => (.fn rfl)) ?_
    refine okG h (fun hb47 h => ?_)
    refine DAny.take (i := 3) rfl (by kernel_rfl) [] (by kernel_rfl) (by kernel_rfl) (by kernel_rfl) rfl rfl rfl (v := V.ptr [16, 19, 0] (0 + Int.toNat a1_19) 0) (fun _ hz => (.idxRefM (f := (fun n => [V.int .i64 n])) (xs := x_45) rfl rfl rfl (hz _ _ rfl rfl) rfl rfl hb47)) ?_
    refine DAny.take (i := 4) rfl (by kernel_rfl) [] (by kernel_rfl) (by kernel_rfl) (by kernel_rfl) rfl rfl rfl (v := V.ref [16, 19, 0] 0 (rws (fun n => [V.int .i64 n]) x_45).length) (fun _ hz => (.fn rfl)) ?_
    refine DAny.take (i := 5) rfl (by kernel_rfl) [] (by kernel_rfl) (by kernel_rfl) (by kernel_rfl) rfl rfl rfl (v := V.ptr [16, 19, 0] (0 + Int.toNat a1_19) 0) (fun _ hz => (.fn rfl)) ?_
    refine DAny.take (i := 6) rfl (by kernel_rfl) [] (by kernel_rfl) (by kernel_rfl) (by kernel_rfl) rfl rfl rfl (v := V.int .i64 0) (fun _ hz => (.fn rfl)) ?_
    refine DAny.nil (by kernel_rfl) ?_
    repeat (first | refine Safe.seq ?_ | refine Safe.skip ?_ | with_reducible refine thenQ.n ?_ | with_reducible refine blockQ.n ?_)
    refine Safe.ret ?_
    repeat (first | with_reducible refine thenQ.r ?_ | with_reducible refine blockQ.r ?_)
    refine inQ.gen (vs := [V.ref [16, 19, 0] 0 (rws (fun n => [V.int .i64 n]) x_45).length, V.ptr [16, 19, 0] (0 + Int.toNat a1_19) 0, V.int .i64 0]) (v := V.tup [V.ref [16, 19, 0] 0 (rws (fun n => [V.int .i64 n]) x_45).length, V.ptr [16, 19, 0] (0 + Int.toNat a1_19) 0, V.int .i64 0]) (.inr rfl) rfl (.tmp (v := V.ref [16, 19, 0] 0 (rws (fun n => [V.int .i64 n]) x_45).length) rfl (.tmp (v := V.ptr [16, 19, 0] (0 + Int.toNat a1_19) 0) rfl (.tmp (v := V.int .i64 0) rfl .nil))) rfl ?_
    refine SafeOps.quiet0 E_good rfl rfl rfl (v := V.tup [V.ref [16, 19, 0] 0 (rws (fun n => [V.int .i64 n]) x_45).length, V.ptr [16, 19, 0] (0 + Int.toNat a1_19) 0, V.int .i64 0]) (.fn rfl) ?_
    refine SafeOps.quiet0 E_good rfl rfl rfl (v := V.ref [16, 19, 0] 0 (rws (fun n => [V.int .i64 n]) x_45).length) (.fn rfl) ?_
    refine SafeOps.quiet0 E_good rfl rfl rfl (v := V.ptr [16, 19, 0] (0 + Int.toNat a1_19) 0) (.fn rfl) ?_
    refine SafeOps.quiet0 E_good rfl rfl rfl (v := V.int .i64 0) (.fn rfl) ?_
    refine SafeOps.quiet0 E_good rfl rfl rfl (v := V.ref [16, 19, 0] 0 (rws (fun n => [V.int .i64 n]) x_45).length) (.fn rfl) ?_
    refine SafeOps.quiet0 E_good rfl rfl rfl (v := V.ptr [16, 19, 0] (0 + Int.toNat a1_19) 0) (.fn rfl) ?_
    refine SafeOps.quiet0 E_good rfl rfl rfl (v := V.int .i64 0) (.fn rfl) ?_
    refine SafeOps.nil ?_
    repeat (first | refine Safe.seq ?_ | refine Safe.skip ?_ | with_reducible refine thenQ.n ?_ | with_reducible refine blockQ.n ?_)
    refine Safe.region ?_
    refine SafeOps.quiet0 E_good rfl rfl rfl (v := V.int .i64 0) (.fn rfl) ?_
    refine SafeOps.quiet0 E_good rfl rfl rfl (v := V.bool false) (.fn rfl) ?_
    refine SafeOps.nil ?_
    repeat (first | refine Safe.seq ?_ | refine Safe.skip ?_ | with_reducible refine thenQ.n ?_ | with_reducible refine blockQ.n ?_)
    refine Safe.condN rfl rfl ?_
    repeat (first | refine Safe.seq ?_ | refine Safe.skip ?_ | with_reducible refine thenQ.n ?_ | with_reducible refine blockQ.n ?_)
    refine Safe.region ?_
    refine SafeOps.quiet0 E_good rfl rfl rfl (v := V.ptr [16, 19, 0] (0 + Int.toNat a1_19) 0) (.fn rfl) ?_
    refine SafeOps.quiet0 E_good rfl rfl rfl (v := V.ptr [16, 19, 0] (0 + Int.toNat a1_19) 0) (.fn rfl) ?_
    refine SafeOps.quiet0 E_good rfl rfl rfl (v := V.int .i64 (gt x_45 a1_19)) (.load rfl rfl (.rowsM (f := (fun n => [V.int .i64 n])) (xs := x_45) hb47 rfl rfl) rfl) ?_
    refine SafeOps.quiet0 E_good rfl rfl rfl (v := V.int .i64 (gt x_45 a1_19)) (.fn rfl) ?_
    refine SafeOps.nil ?_
    repeat (first | refine Safe.seq ?_ | refine Safe.skip ?_ | with_reducible refine thenQ.n ?_ | with_reducible refine blockQ.n ?_)
    refine Safe.region ?_
    refine SafeOps.quiet0 E_good rfl rfl rfl (v := V.ptr [16, 19, 0] (0 + Int.toNat a1_19) 0) (.fn rfl) ?_
    refine SafeOps.quiet0 E_good rfl rfl rfl (v := V.ptr [16, 19, 0] (0 + Int.toNat a1_19) 0) (.fn rfl) ?_
    refine SafeOps.quiet0 E_good rfl rfl rfl (v := V.int .i64 (gt x_45 a1_19)) (.load rfl rfl (.rowsM (f := (fun n => [V.int .i64 n])) (xs := x_45) hb47 rfl rfl) rfl) ?_
    refine SafeOps.quiet0 E_good rfl rfl rfl (v := V.int .i64 a2_20) (.fn rfl) ?_
    refine SafeOps.quiet0 E_good rfl rfl rfl (v := V.int .i64 (IntKind.i64.wrap ((gt x_45 a1_19) + a2_20))) (.fn rfl) ?_
    refine SafeOps.quiet0 E_good rfl rfl rfl (v := V.ptr [16, 19, 0] (0 + Int.toNat a1_19) 0) (.fn rfl) ?_
    refine SafeOps.store (z := Obj.rows 1 (rws (fun n => [V.int .i64 n]) (st x_45 a1_19 (IntKind.i64.wrap ((gt x_45 a1_19) + a2_20)))) false) E_good rfl rfl rfl rfl rfl rfl rfl (.rowsM (f := (fun n => [V.int .i64 n])) (xs := x_45) (y := IntKind.i64.wrap ((gt x_45 a1_19) + a2_20)) hb47 rfl rfl rfl rfl) ?_
    refine SafeOps.see 17 (u := V.ref [16, 19, 0] 0 (rws (fun n => [V.int .i64 n]) (st x_45 a1_19 (IntKind.i64.wrap ((gt x_45 a1_19) + a2_20)))).length) rfl (.len (by simp [rws, st])) ?_
    refine SafeOps.see 9 (u := V.ref [16, 19, 0] 0 (rws (fun n => [V.int .i64 n]) (st x_45 a1_19 (IntKind.i64.wrap ((gt x_45 a1_19) + a2_20)))).length) rfl (.len (by simp [rws, st])) ?_
    refine SafeOps.nil ?_
    repeat (first | refine Safe.seq ?_ | refine Safe.skip ?_ | with_reducible refine thenQ.n ?_ | with_reducible refine blockQ.n ?_)
    refine Safe.region ?_
    refine SafeOps.quiet0 E_good rfl rfl rfl (v := V.ptr [16, 19, 0] (0 + Int.toNat a1_19) 0) (.fn rfl) ?_
    refine SafeOps.quiet0 E_good rfl rfl rfl (v := V.ptr [16, 19, 0] (0 + Int.toNat a1_19) 0) (.fn rfl) ?_
    refine SafeOps.quiet0 E_good rfl rfl rfl (v := V.int .i64 (gt (st x_45 a1_19 (IntKind.i64.wrap ((gt x_45 a1_19) + a2_20))) a1_19)) (.load rfl rfl (.rowsM (f := (fun n => [V.int .i64 n])) (xs := st x_45 a1_19 (IntKind.i64.wrap ((gt x_45 a1_19) + a2_20))) (by simpa [st] using hb47) rfl rfl) rfl) ?_
    refine SafeOps.quiet0 E_good rfl rfl rfl (v := V.int .i64 (gt x_45 a1_19)) (.fn rfl) ?_
    refine SafeOps.quiet0 E_good rfl rfl rfl (v := V.bool (decide ((gt (st x_45 a1_19 (IntKind.i64.wrap ((gt x_45 a1_19) + a2_20))) a1_19) < (gt x_45 a1_19)))) (.fn rfl) ?_
    refine SafeOps.quiet0 E_good rfl rfl rfl (v := V.int .i64 a2_20) (.fn rfl) ?_
    refine SafeOps.quiet0 E_good rfl rfl rfl (v := V.bool (decide (a2_20 < 0))) (.fn rfl) ?_
    refine SafeOps.quiet0 E_good rfl rfl rfl (v := V.bool (!((decide ((gt (st x_45 a1_19 (IntKind.i64.wrap ((gt x_45 a1_19) + a2_20))) a1_19) < (gt x_45 a1_19))) == (decide (a2_20 < 0))))) (.fn rfl) ?_
    refine SafeOps.nil ?_
    repeat (first | refine Safe.seq ?_ | refine Safe.skip ?_ | with_reducible refine thenQ.n ?_ | with_reducible refine blockQ.n ?_)
    refine ifG h (fun hc48 h => ?_) (fun hc48 h => ?_)
    · skip
      refine Safe.condK rfl hc48 ?_
      repeat (first | refine Safe.seq ?_ | refine Safe.skip ?_ | with_reducible refine thenQ.n ?_ | with_reducible refine blockQ.n ?_)
      refine Safe.region ?_
      refine SafeOps.quiet0 E_good rfl rfl rfl (v := V.nils) (.fn rfl) ?_
      refine SafeOps.quiet0 E_good rfl rfl rfl (v := V.int .i64 0) (.fn rfl) ?_
      refine SafeOps.quiet0 E_good rfl rfl rfl (v := V.int .i64 4) (.fn rfl) ?_
      refine SafeOps.nil ?_
      repeat (first | refine Safe.seq ?_ | refine Safe.skip ?_ | with_reducible refine thenQ.n ?_ | with_reducible refine blockQ.n ?_)
      refine Safe.ret ?_
      repeat (first | with_reducible refine thenQ.r ?_ | with_reducible refine blockQ.r ?_)
      obtain rfl := Option.some.inj h
      exact retQ.gen (vs := [V.nils, V.int .i64 0, V.int .i64 4]) rfl (.tmp (v := V.nils) rfl (.tmp (v := V.int .i64 0) rfl (.tmp (v := V.int .i64 4) rfl .nil))) (by exact (.tup (.cons (.nils _) (.cons (.free rfl) (.cons (.free rfl) .nil))))) (by simp) (.inr rfl)
    · skip
      refine Safe.condN rfl hc48 ?_
      repeat (first | refine Safe.seq ?_ | refine Safe.skip ?_ | with_reducible refine thenQ.n ?_ | with_reducible refine blockQ.n ?_)
      refine Safe.region ?_
      refine SafeOps.quiet0 E_good rfl rfl rfl (v := V.ref [16, 19, 0] 0 (rws (fun n => [V.int .i64 n]) (st x_45 a1_19 (IntKind.i64.wrap ((gt x_45 a1_19) + a2_20)))).length) (.fn rfl) ?_
      refine SafeOps.quiet0 E_good rfl rfl rfl (v := V.int .i64 (gt x_45 a1_19)) (.fn rfl) ?_
      refine SafeOps.quiet0 E_good rfl rfl rfl (v := V.ref [16, 19, 0] 0 (rws (fun n => [V.int .i64 n]) (st x_45 a1_19 (IntKind.i64.wrap ((gt x_45 a1_19) + a2_20)))).length) (.fn rfl) ?_
      refine SafeOps.quiet0 E_good rfl rfl rfl (v := V.int .i64 (gt x_45 a1_19)) (.fn rfl) ?_
      refine SafeOps.quiet0 E_good rfl rfl rfl (v := V.int .i64 0) (.fn rfl) ?_
      refine SafeOps.nil ?_
      repeat (first | refine Safe.seq ?_ | refine Safe.skip ?_ | with_reducible refine thenQ.n ?_ | with_reducible refine blockQ.n ?_)
      refine Safe.ret ?_
      repeat (first | with_reducible refine thenQ.r ?_ | with_reducible refine blockQ.r ?_)
      obtain rfl := Option.some.inj h
      exact retQ.gen (vs := [V.ref [16, 19, 0] 0 (rws (fun n => [V.int .i64 n]) (st x_45 a1_19 (IntKind.i64.wrap ((gt x_45 a1_19) + a2_20)))).length, V.int .i64 (gt x_45 a1_19), V.int .i64 0]) rfl (.tmp (v := V.ref [16, 19, 0] 0 (rws (fun n => [V.int .i64 n]) (st x_45 a1_19 (IntKind.i64.wrap ((gt x_45 a1_19) + a2_20)))).length) rfl (.tmp (v := V.int .i64 (gt x_45 a1_19)) rfl (.tmp (v := V.int .i64 0) rfl .nil))) (by exact (.tup (.cons (.own rfl rfl) (.cons (.free rfl) (.cons (.free rfl) .nil))))) (by simp) (.inr rfl)

noncomputable def go_ravellaw01_live_j1 (x_76 : List Int) (b_86 : Bool) : Option Bool :=
  if b_86 = true then
    if 0 ≤ (1 : Int) ∧ (1 : Int) < (x_76.length : Int) then
      some ((gt x_76 1) == 0)
    else none
  else
    some false

noncomputable def go_ravellaw01_live  : Option Bool :=
  (go_cell_New 2).bind fun (x_69, x_70) =>
  (go_cell_Add x_69 0 5).bind fun (x_72, x_73, x_74) =>
  (go_cell_Add x_72 0 5).bind fun (x_76, x_77, x_78) =>
  if (((((x_70 == 0) && (x_74 == 0)) && (x_78 == 0)) && (x_77 == 5)) && ((x_76.length : Int) == 2)) = true then
    if 0 ≤ (0 : Int) ∧ (0 : Int) < (x_76.length : Int) then
      go_ravellaw01_live_j1 x_76 ((gt x_76 0) == 10)
    else none
  else
    go_ravellaw01_live_j1 x_76 false

theorem go_ravellaw01_live_sc  (r : Bool) (h : go_ravellaw01_live  = some r) : SC Try.prog gl 8 [] (V.bool r) := by
  rw [go_ravellaw01_live] at h
  refine SC.of E_good Try.func8 rfl (fun _ _ => Try.call8 _ _) rfl ?_
  repeat (first | refine Safe.seq ?_ | refine Safe.skip ?_ | with_reducible refine thenQ.n ?_ | with_reducible refine blockQ.n ?_)
  refine Safe.region ?_
  refine SafeOps.quiet0 E_good rfl rfl rfl (v := V.bool false) (.fn rfl) ?_
  refine SafeOps.nil ?_
  repeat (first | refine Safe.seq ?_ | refine Safe.skip ?_ | with_reducible refine thenQ.n ?_ | with_reducible refine blockQ.n ?_)
  refine Safe.region ?_
  refine bindG h ?_
  rintro ⟨x_69, x_70⟩ he71 h
  refine SafeOps.quiet E_good rfl rfl rfl (v := V.tup [V.ref [8, 0] 0 (rws (fun n => [V.int .i64 n]) x_69).length, V.int .i64 x_70]) (.callP rfl rfl (go_cell_New_sc 2 _ he71) rfl) rfl ?_
  refine SafeOps.quiet0 E_good rfl rfl rfl (v := V.tup [V.ref [8, 0] 0 (rws (fun n => [V.int .i64 n]) x_69).length, V.int .i64 x_70]) (.fn rfl) ?_
  refine SafeOps.quiet0 E_good rfl rfl rfl (v := V.ref [8, 0] 0 (rws (fun n => [V.int .i64 n]) x_69).length) (.fn rfl) ?_
  refine SafeOps.quiet0 E_good rfl rfl rfl (v := V.int .i64 x_70) (.fn rfl) ?_
  refine SafeOps.quiet0 E_good rfl rfl rfl (v := V.ref [8, 0] 0 (rws (fun n => [V.int .i64 n]) x_69).length) (.fn rfl) ?_
  refine SafeOps.quiet0 E_good rfl rfl rfl (v := V.int .i64 x_70) (.fn rfl) ?_
  refine SafeOps.nil ?_
  repeat (first | refine Safe.seq ?_ | refine Safe.skip ?_ | with_reducible refine thenQ.n ?_ | with_reducible refine blockQ.n ?_)
  refine Safe.region ?_
  refine SafeOps.quiet0 E_good rfl rfl rfl (v := V.ref [8, 0] 0 (rws (fun n => [V.int .i64 n]) x_69).length) (.fn rfl) ?_
  refine bindG h ?_
  rintro ⟨x_72, x_73, x_74⟩ he75 h
  refine SafeOps.quiet E_good rfl rfl rfl (v := V.tup [V.ref [13, 0] 0 (rws (fun n => [V.int .i64 n]) x_72).length, V.int .i64 x_73, V.int .i64 x_74]) (.callS rfl (.cons (.full rfl rfl) (.cons (.free rfl) (.cons (.free rfl) .nil))) (go_cell_Add_sc x_69 0 5 _ he75) (.tupL (.cons (.ownM (fun _ => rfl)) (.cons (.plain rfl) (.cons (.plain rfl) .nil)))) rfl) rfl ?_
  refine SafeOps.quiet0 E_good rfl rfl rfl (v := V.tup [V.ref [13, 0] 0 (rws (fun n => [V.int .i64 n]) x_72).length, V.int .i64 x_73, V.int .i64 x_74]) (.fn rfl) ?_
  refine SafeOps.quiet0 E_good rfl rfl rfl (v := V.ref [13, 0] 0 (rws (fun n => [V.int .i64 n]) x_72).length) (.fn rfl) ?_
  refine SafeOps.quiet0 E_good rfl rfl rfl (v := V.int .i64 x_73) (.fn rfl) ?_
  refine SafeOps.quiet0 E_good rfl rfl rfl (v := V.int .i64 x_74) (.fn rfl) ?_
  refine SafeOps.quiet0 E_good rfl rfl rfl (v := V.ref [13, 0] 0 (rws (fun n => [V.int .i64 n]) x_72).length) (.fn rfl) ?_
  refine SafeOps.quiet0 E_good rfl rfl rfl (v := V.int .i64 x_73) (.fn rfl) ?_
  refine SafeOps.quiet0 E_good rfl rfl rfl (v := V.int .i64 x_74) (.fn rfl) ?_
  refine SafeOps.nil ?_
  repeat (first | refine Safe.seq ?_ | refine Safe.skip ?_ | with_reducible refine thenQ.n ?_ | with_reducible refine blockQ.n ?_)
  refine Safe.region ?_
  refine SafeOps.quiet0 E_good rfl rfl rfl (v := V.ref [13, 0] 0 (rws (fun n => [V.int .i64 n]) x_72).length) (.fn rfl) ?_
  refine bindG h ?_
  rintro ⟨x_76, x_77, x_78⟩ he79 h
  refine SafeOps.quiet E_good rfl rfl rfl (v := V.tup [V.ref [19, 0] 0 (rws (fun n => [V.int .i64 n]) x_76).length, V.int .i64 x_77, V.int .i64 x_78]) (.callS rfl (.cons (.full rfl rfl) (.cons (.free rfl) (.cons (.free rfl) .nil))) (go_cell_Add_sc x_72 0 5 _ he79) (.tupL (.cons (.ownM (fun _ => rfl)) (.cons (.plain rfl) (.cons (.plain rfl) .nil)))) rfl) rfl ?_
  refine SafeOps.quiet0 E_good rfl rfl rfl (v := V.tup [V.ref [19, 0] 0 (rws (fun n => [V.int .i64 n]) x_76).length, V.int .i64 x_77, V.int .i64 x_78]) (.fn rfl) ?_
  refine SafeOps.quiet0 E_good rfl rfl rfl (v := V.ref [19, 0] 0 (rws (fun n => [V.int .i64 n]) x_76).length) (.fn rfl) ?_
  refine SafeOps.quiet0 E_good rfl rfl rfl (v := V.int .i64 x_77) (.fn rfl) ?_
  refine SafeOps.quiet0 E_good rfl rfl rfl (v := V.int .i64 x_78) (.fn rfl) ?_
  refine SafeOps.quiet0 E_good rfl rfl rfl (v := V.ref [19, 0] 0 (rws (fun n => [V.int .i64 n]) x_76).length) (.fn rfl) ?_
  refine SafeOps.quiet0 E_good rfl rfl rfl (v := V.int .i64 x_77) (.fn rfl) ?_
  refine SafeOps.quiet0 E_good rfl rfl rfl (v := V.int .i64 x_78) (.fn rfl) ?_
  refine SafeOps.nil ?_
  repeat (first | refine Safe.seq ?_ | refine Safe.skip ?_ | with_reducible refine thenQ.n ?_ | with_reducible refine blockQ.n ?_)
  refine Safe.region ?_
  refine SafeOps.quiet0 E_good rfl rfl rfl (v := V.int .i64 x_70) (.fn rfl) ?_
  refine SafeOps.quiet0 E_good rfl rfl rfl (v := V.bool (x_70 == 0)) (.fn rfl) ?_
  refine SafeOps.quiet0 E_good rfl rfl rfl (v := V.bool (x_70 == 0)) (.fn rfl) ?_
  refine SafeOps.bjoin 3 28 (b := ((x_70 == 0) && (x_74 == 0))) (b1 := (x_74 == 0)) (b0 := false) (fun hc80 K => ?_) (fun hc80 K => ?_) bj_and ?_
  · skip
    refine SafeOps.quiet0 E_good (congrArg some hc80) rfl rfl (v := V.int .i64 x_74) (.fn rfl) ?_
    refine SafeOps.quiet0 E_good (congrArg some hc80) rfl rfl (v := V.bool (x_74 == 0)) (.fn rfl) ?_
    refine SafeOps.quiet0 E_good rfl rfl rfl (v := V.bool (x_74 == 0)) (.pickK rfl hc80 rfl) ?_
    exact SafeOps.drop' 3 rfl rfl rfl K
  · skip
    refine SafeOps.skip (congrArg some hc80) rfl rfl ?_
    refine SafeOps.skip (congrArg some hc80) rfl rfl ?_
    refine SafeOps.quiet0 E_good rfl rfl rfl (v := V.bool false) (.pickK rfl hc80 rfl) ?_
    exact SafeOps.drop' 3 rfl rfl rfl K
  refine SafeOps.quiet0 E_good rfl rfl rfl (v := V.bool ((x_70 == 0) && (x_74 == 0))) (.fn rfl) ?_
  refine SafeOps.bjoin 3 32 (b := (((x_70 == 0) && (x_74 == 0)) && (x_78 == 0))) (b1 := (x_78 == 0)) (b0 := false) (fun hc81 K => ?_) (fun hc81 K => ?_) bj_and ?_
  · skip
    refine SafeOps.quiet0 E_good (congrArg some hc81) rfl rfl (v := V.int .i64 x_78) (.fn rfl) ?_
    refine SafeOps.quiet0 E_good (congrArg some hc81) rfl rfl (v := V.bool (x_78 == 0)) (.fn rfl) ?_
    refine SafeOps.quiet0 E_good rfl rfl rfl (v := V.bool (x_78 == 0)) (.pickK rfl hc81 rfl) ?_
    exact SafeOps.drop' 3 rfl rfl rfl K
  · skip
    refine SafeOps.skip (congrArg some hc81) rfl rfl ?_
    refine SafeOps.skip (congrArg some hc81) rfl rfl ?_
    refine SafeOps.quiet0 E_good rfl rfl rfl (v := V.bool false) (.pickK rfl hc81 rfl) ?_
    exact SafeOps.drop' 3 rfl rfl rfl K
  refine SafeOps.quiet0 E_good rfl rfl rfl (v := V.bool (((x_70 == 0) && (x_74 == 0)) && (x_78 == 0))) (.fn rfl) ?_
  refine SafeOps.bjoin 3 36 (b := ((((x_70 == 0) && (x_74 == 0)) && (x_78 == 0)) && (x_77 == 5))) (b1 := (x_77 == 5)) (b0 := false) (fun hc82 K => ?_) (fun hc82 K => ?_) bj_and ?_
  · skip
    refine SafeOps.quiet0 E_good (congrArg some hc82) rfl rfl (v := V.int .i64 x_77) (.fn rfl) ?_
    refine SafeOps.quiet0 E_good (congrArg some hc82) rfl rfl (v := V.bool (x_77 == 5)) (.fn rfl) ?_
    refine SafeOps.quiet0 E_good rfl rfl rfl (v := V.bool (x_77 == 5)) (.pickK rfl hc82 rfl) ?_
    exact SafeOps.drop' 3 rfl rfl rfl K
  · skip
    refine SafeOps.skip (congrArg some hc82) rfl rfl ?_
    refine SafeOps.skip (congrArg some hc82) rfl rfl ?_
    refine SafeOps.quiet0 E_good rfl rfl rfl (v := V.bool false) (.pickK rfl hc82 rfl) ?_
    exact SafeOps.drop' 3 rfl rfl rfl K
  refine SafeOps.quiet0 E_good rfl rfl rfl (v := V.bool ((((x_70 == 0) && (x_74 == 0)) && (x_78 == 0)) && (x_77 == 5))) (.fn rfl) ?_
  refine SafeOps.bjoin 4 41 (b := (((((x_70 == 0) && (x_74 == 0)) && (x_78 == 0)) && (x_77 == 5)) && ((x_76.length : Int) == 2))) (b1 := ((x_76.length : Int) == 2)) (b0 := false) (fun hc83 K => ?_) (fun hc83 K => ?_) bj_and ?_
  · skip
    refine SafeOps.quiet0 E_good (congrArg some hc83) rfl rfl (v := V.ref [19, 0] 0 (rws (fun n => [V.int .i64 n]) x_76).length) (.fn rfl) ?_
    refine SafeOps.quiet0 E_good (congrArg some hc83) rfl rfl (v := V.int .i64 (x_76.length : Int)) (.fnE rfl lenE) ?_
    refine SafeOps.quiet0 E_good (congrArg some hc83) rfl rfl (v := V.bool ((x_76.length : Int) == 2)) (.fn rfl) ?_
    refine SafeOps.quiet0 E_good rfl rfl rfl (v := V.bool ((x_76.length : Int) == 2)) (.pickK rfl hc83 rfl) ?_
    exact SafeOps.drop' 4 rfl rfl rfl K
  · skip
    refine SafeOps.skip (congrArg some hc83) rfl rfl ?_
    refine SafeOps.skip (congrArg some hc83) rfl rfl ?_
    refine SafeOps.skip (congrArg some hc83) rfl rfl ?_
    refine SafeOps.quiet0 E_good rfl rfl rfl (v := V.bool false) (.pickK rfl hc83 rfl) ?_
    exact SafeOps.drop' 4 rfl rfl rfl K
  refine SafeOps.quiet0 E_good rfl rfl rfl (v := V.bool (((((x_70 == 0) && (x_74 == 0)) && (x_78 == 0)) && (x_77 == 5)) && ((x_76.length : Int) == 2))) (.fn rfl) ?_
  refine SafeOps.bsplit 5 47 (fun b_86 => go_ravellaw01_live_j1 x_76 b_86 = some r) (fun HJ87 => ?_) (fun b_86 h => ?_)
  · refine ifG h (fun hc84 h => ?_) (fun hc84 h => ?_)
    · skip
      refine SafeOps.quiet0 E_good (congrArg some hc84) rfl rfl (v := V.ref [19, 0] 0 (rws (fun n => [V.int .i64 n]) x_76).length) (.fn rfl) ?_
      refine okG h (fun hb91 h => ?_)
      refine SafeOps.quiet0 E_good (congrArg some hc84) rfl rfl (v := V.ptr [19, 0] (0 + Int.toNat 0) 0) (.idxRefM (f := (fun n => [V.int .i64 n])) (xs := x_76) rfl rfl rfl rfl rfl rfl hb91) ?_
      refine SafeOps.quiet0 E_good (congrArg some hc84) rfl rfl (v := V.int .i64 (gt x_76 0)) (.load rfl rfl (.rowsM (f := (fun n => [V.int .i64 n])) (xs := x_76) hb91 rfl rfl) rfl) ?_
      refine SafeOps.quiet0 E_good (congrArg some hc84) rfl rfl (v := V.bool ((gt x_76 0) == 10)) (.fn rfl) ?_
      refine SafeOps.quiet0 E_good rfl rfl rfl (v := V.bool ((gt x_76 0) == 10)) (.pickK rfl hc84 rfl) ?_
      exact SafeOps.drop' 5 rfl rfl rfl (HJ87 _ h)
    · skip
      refine SafeOps.skip (congrArg some hc84) rfl rfl ?_
      refine SafeOps.skip (congrArg some hc84) rfl rfl ?_
      refine SafeOps.skip (congrArg some hc84) rfl rfl ?_
      refine SafeOps.skip (congrArg some hc84) rfl rfl ?_
      refine SafeOps.quiet0 E_good rfl rfl rfl (v := V.bool false) (.pickK rfl hc84 rfl) ?_
      exact SafeOps.drop' 5 rfl rfl rfl (HJ87 _ h)
  · replace h : go_ravellaw01_live_j1 x_76 b_86 = some r := h
    rw [go_ravellaw01_live_j1] at h
    refine SafeOps.quiet0 E_good rfl rfl rfl (v := V.bool b_86) (.fn rfl) ?_
    refine ifG h (fun hc88 h => ?_) (fun hc88 h => ?_)
    · skip
      refine SafeOps.quiet0 E_good (congrArg some hc88) rfl rfl (v := V.ref [19, 0] 0 (rws (fun n => [V.int .i64 n]) x_76).length) (.fn rfl) ?_
      refine okG h (fun hb90 h => ?_)
      refine SafeOps.quiet0 E_good (congrArg some hc88) rfl rfl (v := V.ptr [19, 0] (0 + Int.toNat 1) 0) (.idxRefM (f := (fun n => [V.int .i64 n])) (xs := x_76) rfl rfl rfl rfl rfl rfl hb90) ?_
      refine SafeOps.quiet0 E_good (congrArg some hc88) rfl rfl (v := V.int .i64 (gt x_76 1)) (.load rfl rfl (.rowsM (f := (fun n => [V.int .i64 n])) (xs := x_76) hb90 rfl rfl) rfl) ?_
      refine SafeOps.quiet0 E_good (congrArg some hc88) rfl rfl (v := V.bool ((gt x_76 1) == 0)) (.fn rfl) ?_
      refine SafeOps.quiet0 E_good rfl rfl rfl (v := V.bool ((gt x_76 1) == 0)) (.pickK rfl hc88 rfl) ?_
      refine SafeOps.quiet0 E_good rfl rfl rfl (v := V.bool ((gt x_76 1) == 0)) (.fn rfl) ?_
      refine SafeOps.nil ?_
      repeat (first | refine Safe.seq ?_ | refine Safe.skip ?_ | with_reducible refine thenQ.n ?_ | with_reducible refine blockQ.n ?_)
      refine Safe.ret ?_
      repeat (first | with_reducible refine thenQ.r ?_ | with_reducible refine blockQ.r ?_)
      obtain rfl := Option.some.inj h
      exact retQ.gen (vs := [V.bool ((gt x_76 1) == 0)]) rfl (.tmp (v := V.bool ((gt x_76 1) == 0)) rfl .nil) (.free rfl) (by simp) (.inr rfl)
    · skip
      refine SafeOps.skip (congrArg some hc88) rfl rfl ?_
      refine SafeOps.skip (congrArg some hc88) rfl rfl ?_
      refine SafeOps.skip (congrArg some hc88) rfl rfl ?_
      refine SafeOps.skip (congrArg some hc88) rfl rfl ?_
      refine SafeOps.quiet0 E_good rfl rfl rfl (v := V.bool false) (.pickK rfl hc88 rfl) ?_
      refine SafeOps.quiet0 E_good rfl rfl rfl (v := V.bool false) (.fn rfl) ?_
      refine SafeOps.nil ?_
      repeat (first | refine Safe.seq ?_ | refine Safe.skip ?_ | with_reducible refine thenQ.n ?_ | with_reducible refine blockQ.n ?_)
      refine Safe.ret ?_
      repeat (first | with_reducible refine thenQ.r ?_ | with_reducible refine blockQ.r ?_)
      obtain rfl := Option.some.inj h
      exact retQ.gen (vs := [V.bool false]) rfl (.tmp (v := V.bool false) rfl .nil) (.free rfl) (by simp) (.inr rfl)

noncomputable def go_cell_Load (a0_97 : List Int) (a1_98 : Int) : Option (Int × Int) :=
  if ((((go_cell_Check a0_97) != 0) || (decide (a1_98 < 0))) || (decide (a1_98 ≥ (a0_97.length : Int)))) = true then
    some (0, 1)
  else
    if 0 ≤ a1_98 ∧ a1_98 < (a0_97.length : Int) then
      some ((gt a0_97 a1_98), 0)
    else none

theorem go_cell_Load_sc (a0_97 : List Int) (a1_98 : Int) (r : Int × Int) (h : go_cell_Load a0_97 a1_98 = some r) : SC Try.prog gl 9 [V.sl 1 (rws (fun n => [V.int .i64 n]) a0_97), V.int .i64 a1_98] (V.tup [V.int .i64 r.1, V.int .i64 r.2]) := by
  rw [go_cell_Load] at h
  refine SC.of E_good Try.func9 rfl (fun _ _ => Try.call9 _ _) rfl ?_
  repeat (first | refine Safe.seq ?_ | refine Safe.skip ?_ | with_reducible refine thenQ.n ?_ | with_reducible refine blockQ.n ?_)
  refine Safe.region ?_
  refine SafeOps.quiet0 E_good rfl rfl rfl (v := V.int .i64 0) (.fn rfl) ?_
  refine SafeOps.quiet0 E_good rfl rfl rfl (v := V.int .i64 0) (.fn rfl) ?_
  refine SafeOps.nil ?_
  repeat (first | refine Safe.seq ?_ | refine Safe.skip ?_ | with_reducible refine thenQ.n ?_ | with_reducible refine blockQ.n ?_)
  refine Safe.region ?_
  refine SafeOps.quiet0 E_good rfl rfl rfl (v := V.sl 1 (rws (fun n => [V.int .i64 n]) a0_97)) (.fn rfl) ?_
  refine SafeOps.quiet0 E_good rfl rfl rfl (v := V.int .i64 a1_98) (.fn rfl) ?_
  refine SafeOps.inline E_good rfl rfl rfl rfl rfl Try.func23 rfl (fun _ _ => Try.call23 _ _) rfl ?_
  repeat (first | refine Safe.seq ?_ | refine Safe.skip ?_ | with_reducible refine thenQ.n ?_ | with_reducible refine blockQ.n ?_)
  refine Safe.region ?_
  refine SafeOps.quiet0 E_good rfl rfl rfl (v := V.nilp) (.fn rfl) ?_
  refine SafeOps.quiet0 E_good rfl rfl rfl (v := V.int .i64 0) (.fn rfl) ?_
  refine SafeOps.nil ?_
  repeat (first | refine Safe.seq ?_ | refine Safe.skip ?_ | with_reducible refine thenQ.n ?_ | with_reducible refine blockQ.n ?_)
  refine Safe.region ?_
  refine SafeOps.quiet0 E_good rfl rfl rfl (v := V.sl 1 (rws (fun n => [V.int .i64 n]) a0_97)) (.fn rfl) ?_
  refine SafeOps.quiet0 E_good rfl rfl rfl (v := V.int .i64 (go_cell_Check a0_97)) (.callP rfl rfl (go_cell_Check_sc a0_97 _ rfl) rfl) ?_
  refine SafeOps.quiet0 E_good rfl rfl rfl (v := V.bool ((go_cell_Check a0_97) != 0)) (.fn rfl) ?_
  refine SafeOps.quiet0 E_good rfl rfl rfl (v := V.bool ((go_cell_Check a0_97) != 0)) (.fn rfl) ?_
  refine SafeOps.bjoin 3 12 (b := (((go_cell_Check a0_97) != 0) || (decide (a1_98 < 0)))) (b1 := true) (b0 := decide (a1_98 < 0)) (fun hc112 K => ?_) (fun hc112 K => ?_) bj_or ?_
  · skip
    refine SafeOps.skip (congrArg (fun b => some (!b)) hc112) rfl rfl ?_
    refine SafeOps.skip (congrArg (fun b => some (!b)) hc112) rfl rfl ?_
    refine SafeOps.quiet0 E_good rfl rfl rfl (v := V.bool true) (.pickK rfl hc112 rfl) ?_
    exact SafeOps.drop' 3 rfl rfl rfl K
  · skip
    refine SafeOps.quiet0 E_good (congrArg (fun b => some (!b)) hc112) rfl rfl (v := V.int .i64 a1_98) (.fn rfl) ?_
    refine SafeOps.quiet0 E_good (congrArg (fun b => some (!b)) hc112) rfl rfl (v := V.bool (decide (a1_98 < 0))) (.fn rfl) ?_
    refine SafeOps.quiet0 E_good rfl rfl rfl (v := V.bool (decide (a1_98 < 0))) (.pickK rfl hc112 rfl) ?_
    exact SafeOps.drop' 3 rfl rfl rfl K
  refine SafeOps.quiet0 E_good rfl rfl rfl (v := V.bool (((go_cell_Check a0_97) != 0) || (decide (a1_98 < 0)))) (.fn rfl) ?_
  refine SafeOps.bjoin 5 18 (b := ((((go_cell_Check a0_97) != 0) || (decide (a1_98 < 0))) || (decide (a1_98 ≥ (a0_97.length : Int))))) (b1 := true) (b0 := decide (a1_98 ≥ (a0_97.length : Int))) (fun hc113 K => ?_) (fun hc113 K => ?_) bj_or ?_
  · skip
    refine SafeOps.skip (congrArg (fun b => some (!b)) hc113) rfl rfl ?_
    refine SafeOps.skip (congrArg (fun b => some (!b)) hc113) rfl rfl ?_
    refine SafeOps.skip (congrArg (fun b => some (!b)) hc113) rfl rfl ?_
    refine SafeOps.skip (congrArg (fun b => some (!b)) hc113) rfl rfl ?_
    refine SafeOps.quiet0 E_good rfl rfl rfl (v := V.bool true) (.pickK rfl hc113 rfl) ?_
    exact SafeOps.drop' 5 rfl rfl rfl K
  · skip
    refine SafeOps.quiet0 E_good (congrArg (fun b => some (!b)) hc113) rfl rfl (v := V.int .i64 a1_98) (.fn rfl) ?_
    refine SafeOps.quiet0 E_good (congrArg (fun b => some (!b)) hc113) rfl rfl (v := V.sl 1 (rws (fun n => [V.int .i64 n]) a0_97)) (.fn rfl) ?_
    refine SafeOps.quiet0 E_good (congrArg (fun b => some (!b)) hc113) rfl rfl (v := V.int .i64 (a0_97.length : Int)) (.fnE rfl lenE) ?_
    refine SafeOps.quiet0 E_good (congrArg (fun b => some (!b)) hc113) rfl rfl (v := V.bool (decide (a1_98 ≥ (a0_97.length : Int)))) (.fn rfl) ?_
    refine SafeOps.quiet0 E_good rfl rfl rfl (v := V.bool (decide (a1_98 ≥ (a0_97.length : Int)))) (.pickK rfl hc113 rfl) ?_
    exact SafeOps.drop' 5 rfl rfl rfl K
  refine SafeOps.nil ?_
  repeat (first | refine Safe.seq ?_ | refine Safe.skip ?_ | with_reducible refine thenQ.n ?_ | with_reducible refine blockQ.n ?_)
  refine ifG h (fun hc114 h => ?_) (fun hc114 h => ?_)
  · skip
    refine Safe.condK rfl hc114 ?_
    repeat (first | refine Safe.seq ?_ | refine Safe.skip ?_ | with_reducible refine thenQ.n ?_ | with_reducible refine blockQ.n ?_)
    refine Safe.region ?_
    refine SafeOps.quiet0 E_good rfl rfl rfl (v := V.nilp) (.fn rfl) ?_
    refine SafeOps.quiet0 E_good rfl rfl rfl (v := V.int .i64 1) (.fn rfl) ?_
    refine SafeOps.nil ?_
    repeat (first | refine Safe.seq ?_ | refine Safe.skip ?_ | with_reducible refine thenQ.n ?_ | with_reducible refine blockQ.n ?_)
    refine Safe.ret ?_
    repeat (first | with_reducible refine thenQ.r ?_ | with_reducible refine blockQ.r ?_)
    refine inQ.gen (vs := [V.nilp, V.int .i64 1]) (v := V.tup [V.nilp, V.int .i64 1]) (.inr rfl) rfl (.tmp (v := V.nilp) rfl (.tmp (v := V.int .i64 1) rfl .nil)) rfl ?_
    refine SafeOps.quiet0 E_good rfl rfl rfl (v := V.tup [V.nilp, V.int .i64 1]) (.fn rfl) ?_
    refine SafeOps.quiet0 E_good rfl rfl rfl (v := V.nilp) (.fn rfl) ?_
    refine SafeOps.quiet0 E_good rfl rfl rfl (v := V.int .i64 1) (.fn rfl) ?_
    refine SafeOps.quiet0 E_good rfl rfl rfl (v := V.nilp) (.fn rfl) ?_
    refine SafeOps.quiet0 E_good rfl rfl rfl (v := V.int .i64 1) (.fn rfl) ?_
    refine SafeOps.nil ?_
    repeat (first | refine Safe.seq ?_ | refine Safe.skip ?_ | with_reducible refine thenQ.n ?_ | with_reducible refine blockQ.n ?_)
    refine Safe.region ?_
    refine SafeOps.quiet0 E_good rfl rfl rfl (v := V.int .i64 1) (.fn rfl) ?_
    refine SafeOps.quiet0 E_good rfl rfl rfl (v := V.bool true) (.fn rfl) ?_
    refine SafeOps.nil ?_
    repeat (first | refine Safe.seq ?_ | refine Safe.skip ?_ | with_reducible refine thenQ.n ?_ | with_reducible refine blockQ.n ?_)
    refine Safe.condK rfl rfl ?_
    repeat (first | refine Safe.seq ?_ | refine Safe.skip ?_ | with_reducible refine thenQ.n ?_ | with_reducible refine blockQ.n ?_)
    refine Safe.region ?_
    refine SafeOps.quiet0 E_good rfl rfl rfl (v := V.int .i64 1) (.fn rfl) ?_
    refine SafeOps.quiet0 E_good rfl rfl rfl (v := V.int .i64 0) (.fn rfl) ?_
    refine SafeOps.quiet0 E_good rfl rfl rfl (v := V.int .i64 1) (.fn rfl) ?_
    refine SafeOps.nil ?_
    repeat (first | refine Safe.seq ?_ | refine Safe.skip ?_ | with_reducible refine thenQ.n ?_ | with_reducible refine blockQ.n ?_)
    refine Safe.ret ?_
    repeat (first | with_reducible refine thenQ.r ?_ | with_reducible refine blockQ.r ?_)
    obtain rfl := Option.some.inj h
    exact retQ.gen (vs := [V.int .i64 0, V.int .i64 1]) rfl (.tmp (v := V.int .i64 0) rfl (.tmp (v := V.int .i64 1) rfl .nil)) (.free rfl) (by simp) (.inr rfl)
  · skip
    refine Safe.condN rfl hc114 ?_
    repeat (first | refine Safe.seq ?_ | refine Safe.skip ?_ | with_reducible refine thenQ.n ?_ | with_reducible refine blockQ.n ?_)
    refine Safe.region ?_
    refine SafeOps.quiet0 E_good rfl rfl rfl (v := V.sl 1 (rws (fun n => [V.int .i64 n]) a0_97)) (.fn rfl) ?_
    refine SafeOps.quiet0 E_good rfl rfl rfl (v := V.int .i64 a1_98) (.fn rfl) ?_
    refine okG h (fun hb115 h => ?_)
    refine SafeOps.quiet0 E_good rfl rfl rfl (v := V.spt 1 (rws (fun n => [V.int .i64 n]) a0_97) (Int.toNat a1_98) 0) (.idxSlM (f := (fun n => [V.int .i64 n])) rfl rfl rfl rfl rfl hb115) ?_
    refine SafeOps.quiet0 E_good rfl rfl rfl (v := V.spt 1 (rws (fun n => [V.int .i64 n]) a0_97) (Int.toNat a1_98) 0) (.fn rfl) ?_
    refine SafeOps.quiet0 E_good rfl rfl rfl (v := V.int .i64 0) (.fn rfl) ?_
    refine SafeOps.nil ?_
    repeat (first | refine Safe.seq ?_ | refine Safe.skip ?_ | with_reducible refine thenQ.n ?_ | with_reducible refine blockQ.n ?_)
    refine Safe.ret ?_
    repeat (first | with_reducible refine thenQ.r ?_ | with_reducible refine blockQ.r ?_)
    refine inQ.gen (vs := [V.spt 1 (rws (fun n => [V.int .i64 n]) a0_97) (Int.toNat a1_98) 0, V.int .i64 0]) (v := V.tup [V.spt 1 (rws (fun n => [V.int .i64 n]) a0_97) (Int.toNat a1_98) 0, V.int .i64 0]) (.inr rfl) rfl (.tmp (v := V.spt 1 (rws (fun n => [V.int .i64 n]) a0_97) (Int.toNat a1_98) 0) rfl (.tmp (v := V.int .i64 0) rfl .nil)) rfl ?_
    refine SafeOps.quiet0 E_good rfl rfl rfl (v := V.tup [V.spt 1 (rws (fun n => [V.int .i64 n]) a0_97) (Int.toNat a1_98) 0, V.int .i64 0]) (.fn rfl) ?_
    refine SafeOps.quiet0 E_good rfl rfl rfl (v := V.spt 1 (rws (fun n => [V.int .i64 n]) a0_97) (Int.toNat a1_98) 0) (.fn rfl) ?_
    refine SafeOps.quiet0 E_good rfl rfl rfl (v := V.int .i64 0) (.fn rfl) ?_
    refine SafeOps.quiet0 E_good rfl rfl rfl (v := V.spt 1 (rws (fun n => [V.int .i64 n]) a0_97) (Int.toNat a1_98) 0) (.fn rfl) ?_
    refine SafeOps.quiet0 E_good rfl rfl rfl (v := V.int .i64 0) (.fn rfl) ?_
    refine SafeOps.nil ?_
    repeat (first | refine Safe.seq ?_ | refine Safe.skip ?_ | with_reducible refine thenQ.n ?_ | with_reducible refine blockQ.n ?_)
    refine Safe.region ?_
    refine SafeOps.quiet0 E_good rfl rfl rfl (v := V.int .i64 0) (.fn rfl) ?_
    refine SafeOps.quiet0 E_good rfl rfl rfl (v := V.bool false) (.fn rfl) ?_
    refine SafeOps.nil ?_
    repeat (first | refine Safe.seq ?_ | refine Safe.skip ?_ | with_reducible refine thenQ.n ?_ | with_reducible refine blockQ.n ?_)
    refine Safe.condN rfl rfl ?_
    repeat (first | refine Safe.seq ?_ | refine Safe.skip ?_ | with_reducible refine thenQ.n ?_ | with_reducible refine blockQ.n ?_)
    refine Safe.region ?_
    refine SafeOps.quiet0 E_good rfl rfl rfl (v := V.spt 1 (rws (fun n => [V.int .i64 n]) a0_97) (Int.toNat a1_98) 0) (.fn rfl) ?_
    refine SafeOps.quiet0 E_good rfl rfl rfl (v := V.spt 1 (rws (fun n => [V.int .i64 n]) a0_97) (Int.toNat a1_98) 0) (.fn rfl) ?_
    refine SafeOps.quiet0 E_good rfl rfl rfl (v := V.int .i64 (gt a0_97 a1_98)) (.load rfl rfl (.sptM (f := (fun n => [V.int .i64 n])) hb115 rfl) rfl) ?_
    refine SafeOps.quiet0 E_good rfl rfl rfl (v := V.int .i64 (gt a0_97 a1_98)) (.fn rfl) ?_
    refine SafeOps.quiet0 E_good rfl rfl rfl (v := V.int .i64 0) (.fn rfl) ?_
    refine SafeOps.nil ?_
    repeat (first | refine Safe.seq ?_ | refine Safe.skip ?_ | with_reducible refine thenQ.n ?_ | with_reducible refine blockQ.n ?_)
    refine Safe.ret ?_
    repeat (first | with_reducible refine thenQ.r ?_ | with_reducible refine blockQ.r ?_)
    obtain rfl := Option.some.inj h
    exact retQ.gen (vs := [V.int .i64 (gt a0_97 a1_98), V.int .i64 0]) rfl (.tmp (v := V.int .i64 (gt a0_97 a1_98)) rfl (.tmp (v := V.int .i64 0) rfl .nil)) (.free rfl) (by simp) (.inr rfl)

@[ext] structure api_Mic where
  Kind : Int
  At : Int
  A : Int
  B : Int
  deriving Inhabited
def api_Mic.cells (x : api_Mic) : List V := [V.int .i64 x.Kind, V.int .i64 x.At, V.int .i64 x.A, V.int .i64 x.B]
def api_Mic.zero : api_Mic := ⟨0, 0, 0, 0⟩
def api_Mic.beq (x y : api_Mic) : Bool := ((x.Kind == y.Kind) && ((x.At == y.At) && ((x.A == y.A) && ((x.B == y.B) && true))))

def go_ravelref01_Check (a0_123 : List Int) : Int :=
  if (decide ((a0_123.length : Int) > 65536)) = true then
    1
  else
    0

theorem go_ravelref01_Check_sc (a0_123 : List Int) (r : Int) (h : go_ravelref01_Check a0_123 = r) : SC Try.prog gl 20 [V.sl 1 (rws (fun n => [V.int .i64 n]) a0_123)] (V.int .i64 r) := by
  rw [go_ravelref01_Check] at h
  refine SC.of E_good Try.func20 rfl (fun _ _ => Try.call20 _ _) rfl ?_
  repeat (first | refine Safe.seq ?_ | refine Safe.skip ?_ | with_reducible refine thenQ.n ?_ | with_reducible refine blockQ.n ?_)
  refine Safe.region ?_
  refine SafeOps.quiet0 E_good rfl rfl rfl (v := V.int .i64 0) (.fn rfl) ?_
  refine SafeOps.nil ?_
  repeat (first | refine Safe.seq ?_ | refine Safe.skip ?_ | with_reducible refine thenQ.n ?_ | with_reducible refine blockQ.n ?_)
  refine Safe.region ?_
  refine SafeOps.quiet0 E_good rfl rfl rfl (v := V.sl 1 (rws (fun n => [V.int .i64 n]) a0_123)) (.fn rfl) ?_
  refine SafeOps.quiet0 E_good rfl rfl rfl (v := V.int .i64 (a0_123.length : Int)) (.fnE rfl lenE) ?_
  refine SafeOps.quiet0 E_good rfl rfl rfl (v := V.bool (decide ((a0_123.length : Int) > 65536))) (.fn rfl) ?_
  refine SafeOps.nil ?_
  repeat (first | refine Safe.seq ?_ | refine Safe.skip ?_ | with_reducible refine thenQ.n ?_ | with_reducible refine blockQ.n ?_)
  refine ifG h (fun hc125 h => ?_) (fun hc125 h => ?_)
  · skip
    refine Safe.condK rfl hc125 ?_
    repeat (first | refine Safe.seq ?_ | refine Safe.skip ?_ | with_reducible refine thenQ.n ?_ | with_reducible refine blockQ.n ?_)
    refine Safe.region ?_
    refine SafeOps.quiet0 E_good rfl rfl rfl (v := V.int .i64 1) (.fn rfl) ?_
    refine SafeOps.nil ?_
    repeat (first | refine Safe.seq ?_ | refine Safe.skip ?_ | with_reducible refine thenQ.n ?_ | with_reducible refine blockQ.n ?_)
    refine Safe.ret ?_
    repeat (first | with_reducible refine thenQ.r ?_ | with_reducible refine blockQ.r ?_)
    obtain rfl := h
    exact retQ.gen (vs := [V.int .i64 1]) rfl (.tmp (v := V.int .i64 1) rfl .nil) (.free rfl) (by simp) (.inr rfl)
  · skip
    refine Safe.condN rfl hc125 ?_
    repeat (first | refine Safe.seq ?_ | refine Safe.skip ?_ | with_reducible refine thenQ.n ?_ | with_reducible refine blockQ.n ?_)
    refine Safe.region ?_
    refine SafeOps.quiet0 E_good rfl rfl rfl (v := V.int .i64 0) (.fn rfl) ?_
    refine SafeOps.nil ?_
    repeat (first | refine Safe.seq ?_ | refine Safe.skip ?_ | with_reducible refine thenQ.n ?_ | with_reducible refine blockQ.n ?_)
    refine Safe.ret ?_
    repeat (first | with_reducible refine thenQ.r ?_ | with_reducible refine blockQ.r ?_)
    obtain rfl := h
    exact retQ.gen (vs := [V.int .i64 0]) rfl (.tmp (v := V.int .i64 0) rfl .nil) (.free rfl) (by simp) (.inr rfl)

def go_ravelref01_place (a0_121 : List Int) (a1_122 : Int) : Bool :=
  ((((go_ravelref01_Check a0_121) == 0) && (decide (a1_122 ≥ 0))) && (decide (a1_122 < (a0_121.length : Int))))

theorem go_ravelref01_place_sc (a0_121 : List Int) (a1_122 : Int) (r : Bool) (h : go_ravelref01_place a0_121 a1_122 = r) : SC Try.prog gl 24 [V.sl 1 (rws (fun n => [V.int .i64 n]) a0_121), V.int .i64 a1_122] (V.bool r) := by
  rw [go_ravelref01_place] at h
  refine SC.of E_good Try.func24 rfl (fun _ _ => Try.call24 _ _) rfl ?_
  repeat (first | refine Safe.seq ?_ | refine Safe.skip ?_ | with_reducible refine thenQ.n ?_ | with_reducible refine blockQ.n ?_)
  refine Safe.region ?_
  refine SafeOps.quiet0 E_good rfl rfl rfl (v := V.bool false) (.fn rfl) ?_
  refine SafeOps.nil ?_
  repeat (first | refine Safe.seq ?_ | refine Safe.skip ?_ | with_reducible refine thenQ.n ?_ | with_reducible refine blockQ.n ?_)
  refine Safe.region ?_
  refine SafeOps.quiet0 E_good rfl rfl rfl (v := V.sl 1 (rws (fun n => [V.int .i64 n]) a0_121)) (.fn rfl) ?_
  refine SafeOps.quiet0 E_good rfl rfl rfl (v := V.int .i64 (go_ravelref01_Check a0_121)) (.callP rfl rfl (go_ravelref01_Check_sc a0_121 _ rfl) rfl) ?_
  refine SafeOps.quiet0 E_good rfl rfl rfl (v := V.bool ((go_ravelref01_Check a0_121) == 0)) (.fn rfl) ?_
  refine SafeOps.quiet0 E_good rfl rfl rfl (v := V.bool ((go_ravelref01_Check a0_121) == 0)) (.fn rfl) ?_
  refine SafeOps.bjoin 3 11 (b := (((go_ravelref01_Check a0_121) == 0) && (decide (a1_122 ≥ 0)))) (b1 := decide (a1_122 ≥ 0)) (b0 := false) (fun hc128 K => ?_) (fun hc128 K => ?_) bj_and ?_
  · skip
    refine SafeOps.quiet0 E_good (congrArg some hc128) rfl rfl (v := V.int .i64 a1_122) (.fn rfl) ?_
    refine SafeOps.quiet0 E_good (congrArg some hc128) rfl rfl (v := V.bool (decide (a1_122 ≥ 0))) (.fn rfl) ?_
    refine SafeOps.quiet0 E_good rfl rfl rfl (v := V.bool (decide (a1_122 ≥ 0))) (.pickK rfl hc128 rfl) ?_
    exact SafeOps.drop' 3 rfl rfl rfl K
  · skip
    refine SafeOps.skip (congrArg some hc128) rfl rfl ?_
    refine SafeOps.skip (congrArg some hc128) rfl rfl ?_
    refine SafeOps.quiet0 E_good rfl rfl rfl (v := V.bool false) (.pickK rfl hc128 rfl) ?_
    exact SafeOps.drop' 3 rfl rfl rfl K
  refine SafeOps.quiet0 E_good rfl rfl rfl (v := V.bool (((go_ravelref01_Check a0_121) == 0) && (decide (a1_122 ≥ 0)))) (.fn rfl) ?_
  refine SafeOps.bjoin 5 17 (b := ((((go_ravelref01_Check a0_121) == 0) && (decide (a1_122 ≥ 0))) && (decide (a1_122 < (a0_121.length : Int))))) (b1 := decide (a1_122 < (a0_121.length : Int))) (b0 := false) (fun hc129 K => ?_) (fun hc129 K => ?_) bj_and ?_
  · skip
    refine SafeOps.quiet0 E_good (congrArg some hc129) rfl rfl (v := V.int .i64 a1_122) (.fn rfl) ?_
    refine SafeOps.quiet0 E_good (congrArg some hc129) rfl rfl (v := V.sl 1 (rws (fun n => [V.int .i64 n]) a0_121)) (.fn rfl) ?_
    refine SafeOps.quiet0 E_good (congrArg some hc129) rfl rfl (v := V.int .i64 (a0_121.length : Int)) (.fnE rfl lenE) ?_
    refine SafeOps.quiet0 E_good (congrArg some hc129) rfl rfl (v := V.bool (decide (a1_122 < (a0_121.length : Int)))) (.fn rfl) ?_
    refine SafeOps.quiet0 E_good rfl rfl rfl (v := V.bool (decide (a1_122 < (a0_121.length : Int)))) (.pickK rfl hc129 rfl) ?_
    exact SafeOps.drop' 5 rfl rfl rfl K
  · skip
    refine SafeOps.skip (congrArg some hc129) rfl rfl ?_
    refine SafeOps.skip (congrArg some hc129) rfl rfl ?_
    refine SafeOps.skip (congrArg some hc129) rfl rfl ?_
    refine SafeOps.skip (congrArg some hc129) rfl rfl ?_
    refine SafeOps.quiet0 E_good rfl rfl rfl (v := V.bool false) (.pickK rfl hc129 rfl) ?_
    exact SafeOps.drop' 5 rfl rfl rfl K
  refine SafeOps.quiet0 E_good rfl rfl rfl (v := V.bool ((((go_ravelref01_Check a0_121) == 0) && (decide (a1_122 ≥ 0))) && (decide (a1_122 < (a0_121.length : Int))))) (.fn rfl) ?_
  refine SafeOps.nil ?_
  repeat (first | refine Safe.seq ?_ | refine Safe.skip ?_ | with_reducible refine thenQ.n ?_ | with_reducible refine blockQ.n ?_)
  refine Safe.ret ?_
  repeat (first | with_reducible refine thenQ.r ?_ | with_reducible refine blockQ.r ?_)
  obtain rfl := h
  exact retQ.gen (vs := [V.bool ((((go_ravelref01_Check a0_121) == 0) && (decide (a1_122 ≥ 0))) && (decide (a1_122 < (a0_121.length : Int))))]) rfl (.tmp (v := V.bool ((((go_ravelref01_Check a0_121) == 0) && (decide (a1_122 ≥ 0))) && (decide (a1_122 < (a0_121.length : Int))))) rfl .nil) (.free rfl) (by simp) (.inr rfl)

noncomputable def go_ravelref01_With (a0_143 : List Int) (a1_144 : Int) (a2_145 : Int) : Option (List Int) :=
  if few ([] ++ a0_143).length then
    if 0 ≤ a1_144 ∧ a1_144 < (([] ++ a0_143).length : Int) then
      some (st ([] ++ a0_143) a1_144 a2_145)
    else none
  else none

theorem go_ravelref01_With_sc (a0_143 : List Int) (a1_144 : Int) (a2_145 : Int) (r : List Int) (h : go_ravelref01_With a0_143 a1_144 a2_145 = some r) : SC Try.prog gl 25 [V.sl 1 (rws (fun n => [V.int .i64 n]) a0_143), V.int .i64 a1_144, V.int .i64 a2_145] (V.own 1 (rws (fun n => [V.int .i64 n]) r)) := by
  rw [go_ravelref01_With] at h
  refine SC.of E_good Try.func25 rfl (fun _ _ => Try.call25 _ _) rfl ?_
  repeat (first | refine Safe.seq ?_ | refine Safe.skip ?_ | with_reducible refine thenQ.n ?_ | with_reducible refine blockQ.n ?_)
  refine Safe.region ?_
  refine SafeOps.quiet0 E_good rfl rfl rfl (v := V.nils) (.fn rfl) ?_
  refine SafeOps.nil ?_
  repeat (first | refine Safe.seq ?_ | refine Safe.skip ?_ | with_reducible refine thenQ.n ?_ | with_reducible refine blockQ.n ?_)
  refine Safe.region ?_
  refine SafeOps.quiet0 E_good rfl rfl rfl (v := V.sl 1 (rws (fun n => [V.int .i64 n]) a0_143)) (.fn rfl) ?_
  refine okG h (fun hb149 h => ?_)
  refine SafeOps.appendM (fun n => [V.int .i64 n]) (xs := []) (ys := a0_143) E_good rfl rfl rfl rfl rfl rfl rfl rfl rfl .nils (.sl _) (fun _ => rfl) hb149 ?_
  refine SafeOps.quiet0 E_good rfl rfl rfl (v := V.ref [9] 0 (rws (fun n => [V.int .i64 n]) ([] ++ a0_143)).length) (.fn rfl) ?_
  refine SafeOps.nil ?_
  repeat (first | refine Safe.seq ?_ | refine Safe.skip ?_ | with_reducible refine thenQ.n ?_ | with_reducible refine blockQ.n ?_)
  refine Safe.region ?_
  refine SafeOps.quiet0 E_good rfl rfl rfl (v := V.ref [9] 0 (rws (fun n => [V.int .i64 n]) ([] ++ a0_143)).length) (.fn rfl) ?_
  refine SafeOps.quiet0 E_good rfl rfl rfl (v := V.int .i64 a1_144) (.fn rfl) ?_
  refine SafeOps.quiet0 E_good rfl rfl rfl (v := V.int .i64 a2_145) (.fn rfl) ?_
  refine okG h (fun hb150 h => ?_)
  refine SafeOps.quiet0 E_good rfl rfl rfl (v := V.ptr [9] (0 + Int.toNat a1_144) 0) (.idxRefM (f := (fun n => [V.int .i64 n])) (xs := [] ++ a0_143) rfl rfl rfl rfl rfl rfl hb150) ?_
  refine SafeOps.store (z := Obj.rows 1 (rws (fun n => [V.int .i64 n]) (st ([] ++ a0_143) a1_144 a2_145)) false) E_good rfl rfl rfl rfl rfl rfl rfl (.rowsM (f := (fun n => [V.int .i64 n])) (xs := [] ++ a0_143) (y := a2_145) hb150 rfl rfl rfl rfl) ?_
  refine SafeOps.see 9 (u := V.ref [9] 0 (rws (fun n => [V.int .i64 n]) (st ([] ++ a0_143) a1_144 a2_145)).length) rfl (.len (by simp [rws, st])) ?_
  refine SafeOps.see 7 (u := V.ref [9] 0 (rws (fun n => [V.int .i64 n]) (st ([] ++ a0_143) a1_144 a2_145)).length) rfl (.len (by simp [rws, st])) ?_
  refine SafeOps.see 10 (u := V.ref [9] 0 (rws (fun n => [V.int .i64 n]) (st ([] ++ a0_143) a1_144 a2_145)).length) rfl (.len (by simp [rws, st])) ?_
  refine SafeOps.nil ?_
  repeat (first | refine Safe.seq ?_ | refine Safe.skip ?_ | with_reducible refine thenQ.n ?_ | with_reducible refine blockQ.n ?_)
  refine Safe.region ?_
  refine SafeOps.quiet0 E_good rfl rfl rfl (v := V.ref [9] 0 (rws (fun n => [V.int .i64 n]) (st ([] ++ a0_143) a1_144 a2_145)).length) (.fn rfl) ?_
  refine SafeOps.quiet0 E_good rfl rfl rfl (v := V.ref [9] 0 (rws (fun n => [V.int .i64 n]) (st ([] ++ a0_143) a1_144 a2_145)).length) (.fn rfl) ?_
  refine SafeOps.nil ?_
  repeat (first | refine Safe.seq ?_ | refine Safe.skip ?_ | with_reducible refine thenQ.n ?_ | with_reducible refine blockQ.n ?_)
  refine Safe.ret ?_
  repeat (first | with_reducible refine thenQ.r ?_ | with_reducible refine blockQ.r ?_)
  obtain rfl := Option.some.inj h
  exact retQ.gen (vs := [V.ref [9] 0 (rws (fun n => [V.int .i64 n]) (st ([] ++ a0_143) a1_144 a2_145)).length]) rfl (.tmp (v := V.ref [9] 0 (rws (fun n => [V.int .i64 n]) (st ([] ++ a0_143) a1_144 a2_145)).length) rfl .nil) (by exact (.own rfl rfl)) (by simp) (.inr rfl)

def go_ravelref01_Sum (a0_176 : Int) (a1_177 : Int) : Int × Bool :=
  if ((((decide (a0_176 > 0)) && (decide (a1_177 > 0))) && (decide ((IntKind.i64.wrap (a0_176 + a1_177)) < 0))) || (((decide (a0_176 < 0)) && (decide (a1_177 < 0))) && (decide ((IntKind.i64.wrap (a0_176 + a1_177)) ≥ 0)))) = true then
    (0, false)
  else
    (IntKind.i64.wrap (a0_176 + a1_177), true)

theorem go_ravelref01_Sum_sc (a0_176 : Int) (a1_177 : Int) (r : Int × Bool) (h : go_ravelref01_Sum a0_176 a1_177 = r) : SC Try.prog gl 26 [V.int .i64 a0_176, V.int .i64 a1_177] (V.tup [V.int .i64 r.1, V.bool r.2]) := by
  rw [go_ravelref01_Sum] at h
  refine SC.of E_good Try.func26 rfl (fun _ _ => Try.call26 _ _) rfl ?_
  repeat (first | refine Safe.seq ?_ | refine Safe.skip ?_ | with_reducible refine thenQ.n ?_ | with_reducible refine blockQ.n ?_)
  refine Safe.region ?_
  refine SafeOps.quiet0 E_good rfl rfl rfl (v := V.int .i64 0) (.fn rfl) ?_
  refine SafeOps.quiet0 E_good rfl rfl rfl (v := V.bool false) (.fn rfl) ?_
  refine SafeOps.nil ?_
  repeat (first | refine Safe.seq ?_ | refine Safe.skip ?_ | with_reducible refine thenQ.n ?_ | with_reducible refine blockQ.n ?_)
  refine Safe.region ?_
  refine SafeOps.quiet0 E_good rfl rfl rfl (v := V.int .i64 a0_176) (.fn rfl) ?_
  refine SafeOps.quiet0 E_good rfl rfl rfl (v := V.int .i64 a1_177) (.fn rfl) ?_
  refine SafeOps.quiet0 E_good rfl rfl rfl (v := V.int .i64 (IntKind.i64.wrap (a0_176 + a1_177))) (.fn rfl) ?_
  refine SafeOps.quiet0 E_good rfl rfl rfl (v := V.int .i64 (IntKind.i64.wrap (a0_176 + a1_177))) (.fn rfl) ?_
  refine SafeOps.nil ?_
  repeat (first | refine Safe.seq ?_ | refine Safe.skip ?_ | with_reducible refine thenQ.n ?_ | with_reducible refine blockQ.n ?_)
  refine Safe.region ?_
  refine SafeOps.quiet0 E_good rfl rfl rfl (v := V.int .i64 a0_176) (.fn rfl) ?_
  refine SafeOps.quiet0 E_good rfl rfl rfl (v := V.bool (decide (a0_176 > 0))) (.fn rfl) ?_
  refine SafeOps.quiet0 E_good rfl rfl rfl (v := V.bool (decide (a0_176 > 0))) (.fn rfl) ?_
  refine SafeOps.bjoin 3 15 (b := ((decide (a0_176 > 0)) && (decide (a1_177 > 0)))) (b1 := decide (a1_177 > 0)) (b0 := false) (fun hc184 K => ?_) (fun hc184 K => ?_) bj_and ?_
  · skip
    refine SafeOps.quiet0 E_good (congrArg some hc184) rfl rfl (v := V.int .i64 a1_177) (.fn rfl) ?_
    refine SafeOps.quiet0 E_good (congrArg some hc184) rfl rfl (v := V.bool (decide (a1_177 > 0))) (.fn rfl) ?_
    refine SafeOps.quiet0 E_good rfl rfl rfl (v := V.bool (decide (a1_177 > 0))) (.pickK rfl hc184 rfl) ?_
    exact SafeOps.drop' 3 rfl rfl rfl K
  · skip
    refine SafeOps.skip (congrArg some hc184) rfl rfl ?_
    refine SafeOps.skip (congrArg some hc184) rfl rfl ?_
    refine SafeOps.quiet0 E_good rfl rfl rfl (v := V.bool false) (.pickK rfl hc184 rfl) ?_
    exact SafeOps.drop' 3 rfl rfl rfl K
  refine SafeOps.quiet0 E_good rfl rfl rfl (v := V.bool ((decide (a0_176 > 0)) && (decide (a1_177 > 0)))) (.fn rfl) ?_
  refine SafeOps.bjoin 3 19 (b := (((decide (a0_176 > 0)) && (decide (a1_177 > 0))) && (decide ((IntKind.i64.wrap (a0_176 + a1_177)) < 0)))) (b1 := decide ((IntKind.i64.wrap (a0_176 + a1_177)) < 0)) (b0 := false) (fun hc185 K => ?_) (fun hc185 K => ?_) bj_and ?_
  · skip
    refine SafeOps.quiet0 E_good (congrArg some hc185) rfl rfl (v := V.int .i64 (IntKind.i64.wrap (a0_176 + a1_177))) (.fn rfl) ?_
    refine SafeOps.quiet0 E_good (congrArg some hc185) rfl rfl (v := V.bool (decide ((IntKind.i64.wrap (a0_176 + a1_177)) < 0))) (.fn rfl) ?_
    refine SafeOps.quiet0 E_good rfl rfl rfl (v := V.bool (decide ((IntKind.i64.wrap (a0_176 + a1_177)) < 0))) (.pickK rfl hc185 rfl) ?_
    exact SafeOps.drop' 3 rfl rfl rfl K
  · skip
    refine SafeOps.skip (congrArg some hc185) rfl rfl ?_
    refine SafeOps.skip (congrArg some hc185) rfl rfl ?_
    refine SafeOps.quiet0 E_good rfl rfl rfl (v := V.bool false) (.pickK rfl hc185 rfl) ?_
    exact SafeOps.drop' 3 rfl rfl rfl K
  refine SafeOps.quiet0 E_good rfl rfl rfl (v := V.bool (((decide (a0_176 > 0)) && (decide (a1_177 > 0))) && (decide ((IntKind.i64.wrap (a0_176 + a1_177)) < 0)))) (.fn rfl) ?_
  refine SafeOps.bjoin 11 31 (b := ((((decide (a0_176 > 0)) && (decide (a1_177 > 0))) && (decide ((IntKind.i64.wrap (a0_176 + a1_177)) < 0))) || (((decide (a0_176 < 0)) && (decide (a1_177 < 0))) && (decide ((IntKind.i64.wrap (a0_176 + a1_177)) ≥ 0))))) (b1 := true) (b0 := (((decide (a0_176 < 0)) && (decide (a1_177 < 0))) && (decide ((IntKind.i64.wrap (a0_176 + a1_177)) ≥ 0)))) (fun hc186 K => ?_) (fun hc186 K => ?_) bj_or ?_
  · skip
    refine SafeOps.skip (congrArg (fun b => some (!b)) hc186) rfl rfl ?_
    refine SafeOps.skip (congrArg (fun b => some (!b)) hc186) rfl rfl ?_
    refine SafeOps.skip (congrArg (fun b => some (!b)) hc186) rfl rfl ?_
    refine SafeOps.skip rfl rfl rfl ?_
    refine SafeOps.skip rfl rfl rfl ?_
    refine SafeOps.skip (congrArg (fun b => some (!b)) hc186) rfl rfl ?_
    refine SafeOps.skip (congrArg (fun b => some (!b)) hc186) rfl rfl ?_
    refine SafeOps.skip rfl rfl rfl ?_
    refine SafeOps.skip rfl rfl rfl ?_
    refine SafeOps.skip (congrArg (fun b => some (!b)) hc186) rfl rfl ?_
    refine SafeOps.quiet0 E_good rfl rfl rfl (v := V.bool true) (.pickK rfl hc186 rfl) ?_
    exact SafeOps.drop' 11 rfl rfl rfl K
  · skip
    refine SafeOps.quiet0 E_good (congrArg (fun b => some (!b)) hc186) rfl rfl (v := V.int .i64 a0_176) (.fn rfl) ?_
    refine SafeOps.quiet0 E_good (congrArg (fun b => some (!b)) hc186) rfl rfl (v := V.bool (decide (a0_176 < 0))) (.fn rfl) ?_
    refine SafeOps.quiet0 E_good (congrArg (fun b => some (!b)) hc186) rfl rfl (v := V.bool (decide (a0_176 < 0))) (.fn rfl) ?_
    refine SafeOps.bjoin 3 26 (b := ((decide (a0_176 < 0)) && (decide (a1_177 < 0)))) (b1 := decide (a1_177 < 0)) (b0 := false) (fun hc187 K => ?_) (fun hc187 K => ?_) bj_and ?_
    · skip
      refine SafeOps.quiet0 E_good (congrArg some hc187) rfl rfl (v := V.int .i64 a1_177) (.fn rfl) ?_
      refine SafeOps.quiet0 E_good (congrArg some hc187) rfl rfl (v := V.bool (decide (a1_177 < 0))) (.fn rfl) ?_
      refine SafeOps.quiet0 E_good (congrArg (fun b => some (!b)) hc186) rfl rfl (v := V.bool (decide (a1_177 < 0))) (.pickK rfl hc187 rfl) ?_
      exact SafeOps.drop' 3 rfl rfl rfl K
    · skip
      refine SafeOps.skip (congrArg some hc187) rfl rfl ?_
      refine SafeOps.skip (congrArg some hc187) rfl rfl ?_
      refine SafeOps.quiet0 E_good (congrArg (fun b => some (!b)) hc186) rfl rfl (v := V.bool false) (.pickK rfl hc187 rfl) ?_
      exact SafeOps.drop' 3 rfl rfl rfl K
    refine SafeOps.quiet0 E_good (congrArg (fun b => some (!b)) hc186) rfl rfl (v := V.bool ((decide (a0_176 < 0)) && (decide (a1_177 < 0)))) (.fn rfl) ?_
    refine SafeOps.bjoin 3 30 (b := (((decide (a0_176 < 0)) && (decide (a1_177 < 0))) && (decide ((IntKind.i64.wrap (a0_176 + a1_177)) ≥ 0)))) (b1 := decide ((IntKind.i64.wrap (a0_176 + a1_177)) ≥ 0)) (b0 := false) (fun hc188 K => ?_) (fun hc188 K => ?_) bj_and ?_
    · skip
      refine SafeOps.quiet0 E_good (congrArg some hc188) rfl rfl (v := V.int .i64 (IntKind.i64.wrap (a0_176 + a1_177))) (.fn rfl) ?_
      refine SafeOps.quiet0 E_good (congrArg some hc188) rfl rfl (v := V.bool (decide ((IntKind.i64.wrap (a0_176 + a1_177)) ≥ 0))) (.fn rfl) ?_
      refine SafeOps.quiet0 E_good (congrArg (fun b => some (!b)) hc186) rfl rfl (v := V.bool (decide ((IntKind.i64.wrap (a0_176 + a1_177)) ≥ 0))) (.pickK rfl hc188 rfl) ?_
      exact SafeOps.drop' 3 rfl rfl rfl K
    · skip
      refine SafeOps.skip (congrArg some hc188) rfl rfl ?_
      refine SafeOps.skip (congrArg some hc188) rfl rfl ?_
      refine SafeOps.quiet0 E_good (congrArg (fun b => some (!b)) hc186) rfl rfl (v := V.bool false) (.pickK rfl hc188 rfl) ?_
      exact SafeOps.drop' 3 rfl rfl rfl K
    refine SafeOps.quiet0 E_good rfl rfl rfl (v := V.bool (((decide (a0_176 < 0)) && (decide (a1_177 < 0))) && (decide ((IntKind.i64.wrap (a0_176 + a1_177)) ≥ 0)))) (.pickK rfl hc186 rfl) ?_
    exact SafeOps.drop' 7 rfl rfl rfl K
  refine SafeOps.nil ?_
  repeat (first | refine Safe.seq ?_ | refine Safe.skip ?_ | with_reducible refine thenQ.n ?_ | with_reducible refine blockQ.n ?_)
  refine ifG h (fun hc189 h => ?_) (fun hc189 h => ?_)
  · skip
    refine Safe.condK rfl hc189 ?_
    repeat (first | refine Safe.seq ?_ | refine Safe.skip ?_ | with_reducible refine thenQ.n ?_ | with_reducible refine blockQ.n ?_)
    refine Safe.region ?_
    refine SafeOps.quiet0 E_good rfl rfl rfl (v := V.int .i64 0) (.fn rfl) ?_
    refine SafeOps.quiet0 E_good rfl rfl rfl (v := V.bool false) (.fn rfl) ?_
    refine SafeOps.nil ?_
    repeat (first | refine Safe.seq ?_ | refine Safe.skip ?_ | with_reducible refine thenQ.n ?_ | with_reducible refine blockQ.n ?_)
    refine Safe.ret ?_
    repeat (first | with_reducible refine thenQ.r ?_ | with_reducible refine blockQ.r ?_)
    obtain rfl := h
    exact retQ.gen (vs := [V.int .i64 0, V.bool false]) rfl (.tmp (v := V.int .i64 0) rfl (.tmp (v := V.bool false) rfl .nil)) (.free rfl) (by simp) (.inr rfl)
  · skip
    refine Safe.condN rfl hc189 ?_
    repeat (first | refine Safe.seq ?_ | refine Safe.skip ?_ | with_reducible refine thenQ.n ?_ | with_reducible refine blockQ.n ?_)
    refine Safe.region ?_
    refine SafeOps.quiet0 E_good rfl rfl rfl (v := V.int .i64 (IntKind.i64.wrap (a0_176 + a1_177))) (.fn rfl) ?_
    refine SafeOps.quiet0 E_good rfl rfl rfl (v := V.int .i64 (IntKind.i64.wrap (a0_176 + a1_177))) (.fn rfl) ?_
    refine SafeOps.quiet0 E_good rfl rfl rfl (v := V.bool true) (.fn rfl) ?_
    refine SafeOps.nil ?_
    repeat (first | refine Safe.seq ?_ | refine Safe.skip ?_ | with_reducible refine thenQ.n ?_ | with_reducible refine blockQ.n ?_)
    refine Safe.ret ?_
    repeat (first | with_reducible refine thenQ.r ?_ | with_reducible refine blockQ.r ?_)
    obtain rfl := h
    exact retQ.gen (vs := [V.int .i64 (IntKind.i64.wrap (a0_176 + a1_177)), V.bool true]) rfl (.tmp (v := V.int .i64 (IntKind.i64.wrap (a0_176 + a1_177))) rfl (.tmp (v := V.bool true) rfl .nil)) (.free rfl) (by simp) (.inr rfl)

noncomputable def go_ravelref01_Do (a0_119 : List Int) (a1_120 : api_Mic) : Option ((List Int) × Int × Int) :=
  if (((!(go_ravelref01_place a0_119 a1_120.At)) || (decide (a1_120.Kind < 0))) || (decide (a1_120.Kind > 3))) = true then
    some ([], 0, 1)
  else
    if 0 ≤ a1_120.At ∧ a1_120.At < (a0_119.length : Int) then
      if (a1_120.Kind == 0) = true then
        (go_ravelref01_With a0_119 a1_120.At (gt a0_119 a1_120.At)).bind fun x_203 =>
        some (x_203, (gt a0_119 a1_120.At), 0)
      else
        if (a1_120.Kind == 1) = true then
          (go_ravelref01_With a0_119 a1_120.At a1_120.A).bind fun x_208 =>
          some (x_208, 0, 0)
        else
          if (a1_120.Kind == 2) = true then
            if ((gt a0_119 a1_120.At) != a1_120.A) = true then
              (go_ravelref01_With a0_119 a1_120.At (gt a0_119 a1_120.At)).bind fun x_221 =>
              some (x_221, 0, 0)
            else
              (go_ravelref01_With a0_119 a1_120.At a1_120.B).bind fun x_223 =>
              some (x_223, 1, 0)
          else
            letO (go_ravelref01_Sum (gt a0_119 a1_120.At) a1_120.A) fun (x_225, x_226) =>
            if (!x_226) = true then
              some ([], 0, 4)
            else
              (go_ravelref01_With a0_119 a1_120.At x_225).bind fun x_229 =>
              some (x_229, (gt a0_119 a1_120.At), 0)
    else none

theorem go_ravelref01_Do_sc (a0_119 : List Int) (a1_120 : api_Mic) (r : (List Int) × Int × Int) (h : go_ravelref01_Do a0_119 a1_120 = some r) : SC Try.prog gl 10 [V.sl 1 (rws (fun n => [V.int .i64 n]) a0_119), V.agg [V.int .i64 a1_120.Kind, V.int .i64 a1_120.At, V.int .i64 a1_120.A, V.int .i64 a1_120.B]] (V.tup [V.own 1 (rws (fun n => [V.int .i64 n]) r.1), V.int .i64 r.2.1, V.int .i64 r.2.2]) := by
  rw [go_ravelref01_Do] at h
  refine SC.of E_good Try.func10 rfl (fun _ _ => Try.call10 _ _) rfl ?_
  repeat (first | refine Safe.seq ?_ | refine Safe.skip ?_ | with_reducible refine thenQ.n ?_ | with_reducible refine blockQ.n ?_)
  refine Safe.region ?_
  refine SafeOps.quiet1 E_good rfl rfl rfl (.box rfl rfl) rfl ?_
  refine SafeOps.quiet0 E_good rfl rfl rfl (v := V.nils) (.fn rfl) ?_
  refine SafeOps.quiet0 E_good rfl rfl rfl (v := V.int .i64 0) (.fn rfl) ?_
  refine SafeOps.quiet0 E_good rfl rfl rfl (v := V.int .i64 0) (.fn rfl) ?_
  refine SafeOps.nil ?_
  repeat (first | refine Safe.seq ?_ | refine Safe.skip ?_ | with_reducible refine thenQ.n ?_ | with_reducible refine blockQ.n ?_)
  refine Safe.region ?_
  refine SafeOps.quiet0 E_good rfl rfl rfl (v := V.sl 1 (rws (fun n => [V.int .i64 n]) a0_119)) (.fn rfl) ?_
  refine SafeOps.quiet0 E_good rfl rfl rfl (v := V.ptr [3] 0 1) (.fn rfl) ?_
  refine SafeOps.quiet0 E_good rfl rfl rfl (v := V.int .i64 a1_120.At) (.load rfl rfl (.box rfl rfl) rfl) ?_
  refine SafeOps.quiet0 E_good rfl rfl rfl (v := V.bool (go_ravelref01_place a0_119 a1_120.At)) (.callP rfl rfl (go_ravelref01_place_sc a0_119 a1_120.At _ rfl) rfl) ?_
  refine SafeOps.quiet0 E_good rfl rfl rfl (v := V.bool (!(go_ravelref01_place a0_119 a1_120.At))) (.fn rfl) ?_
  refine SafeOps.quiet0 E_good rfl rfl rfl (v := V.bool (!(go_ravelref01_place a0_119 a1_120.At))) (.fn rfl) ?_
  refine SafeOps.bjoin 4 19 (b := ((!(go_ravelref01_place a0_119 a1_120.At)) || (decide (a1_120.Kind < 0)))) (b1 := true) (b0 := decide (a1_120.Kind < 0)) (fun hc196 K => ?_) (fun hc196 K => ?_) bj_or ?_
  · skip
    refine SafeOps.skip (congrArg (fun b => some (!b)) hc196) rfl rfl ?_
    refine SafeOps.skip (congrArg (fun b => some (!b)) hc196) rfl rfl ?_
    refine SafeOps.skip (congrArg (fun b => some (!b)) hc196) rfl rfl ?_
    refine SafeOps.quiet0 E_good rfl rfl rfl (v := V.bool true) (.pickK rfl hc196 rfl) ?_
    exact SafeOps.drop' 4 rfl rfl rfl K
  · skip
    refine SafeOps.quiet0 E_good (congrArg (fun b => some (!b)) hc196) rfl rfl (v := V.ptr [3] 0 0) (.fn rfl) ?_
    refine SafeOps.quiet0 E_good (congrArg (fun b => some (!b)) hc196) rfl rfl (v := V.int .i64 a1_120.Kind) (.load rfl rfl (.box rfl rfl) rfl) ?_
    refine SafeOps.quiet0 E_good (congrArg (fun b => some (!b)) hc196) rfl rfl (v := V.bool (decide (a1_120.Kind < 0))) (.fn rfl) ?_
    refine SafeOps.quiet0 E_good rfl rfl rfl (v := V.bool (decide (a1_120.Kind < 0))) (.pickK rfl hc196 rfl) ?_
    exact SafeOps.drop' 4 rfl rfl rfl K
  refine SafeOps.quiet0 E_good rfl rfl rfl (v := V.bool ((!(go_ravelref01_place a0_119 a1_120.At)) || (decide (a1_120.Kind < 0)))) (.fn rfl) ?_
  refine SafeOps.bjoin 4 24 (b := (((!(go_ravelref01_place a0_119 a1_120.At)) || (decide (a1_120.Kind < 0))) || (decide (a1_120.Kind > 3)))) (b1 := true) (b0 := decide (a1_120.Kind > 3)) (fun hc197 K => ?_) (fun hc197 K => ?_) bj_or ?_
  · skip
    refine SafeOps.skip (congrArg (fun b => some (!b)) hc197) rfl rfl ?_
    refine SafeOps.skip (congrArg (fun b => some (!b)) hc197) rfl rfl ?_
    refine SafeOps.skip (congrArg (fun b => some (!b)) hc197) rfl rfl ?_
    refine SafeOps.quiet0 E_good rfl rfl rfl (v := V.bool true) (.pickK rfl hc197 rfl) ?_
    exact SafeOps.drop' 4 rfl rfl rfl K
  · skip
    refine SafeOps.quiet0 E_good (congrArg (fun b => some (!b)) hc197) rfl rfl (v := V.ptr [3] 0 0) (.fn rfl) ?_
    refine SafeOps.quiet0 E_good (congrArg (fun b => some (!b)) hc197) rfl rfl (v := V.int .i64 a1_120.Kind) (.load rfl rfl (.box rfl rfl) rfl) ?_
    refine SafeOps.quiet0 E_good (congrArg (fun b => some (!b)) hc197) rfl rfl (v := V.bool (decide (a1_120.Kind > 3))) (.fn rfl) ?_
    refine SafeOps.quiet0 E_good rfl rfl rfl (v := V.bool (decide (a1_120.Kind > 3))) (.pickK rfl hc197 rfl) ?_
    exact SafeOps.drop' 4 rfl rfl rfl K
  refine SafeOps.nil ?_
  repeat (first | refine Safe.seq ?_ | refine Safe.skip ?_ | with_reducible refine thenQ.n ?_ | with_reducible refine blockQ.n ?_)
  refine ifG h (fun hc198 h => ?_) (fun hc198 h => ?_)
  · skip
    refine Safe.condK rfl hc198 ?_
    repeat (first | refine Safe.seq ?_ | refine Safe.skip ?_ | with_reducible refine thenQ.n ?_ | with_reducible refine blockQ.n ?_)
    refine Safe.region ?_
    refine SafeOps.quiet0 E_good rfl rfl rfl (v := V.nils) (.fn rfl) ?_
    refine SafeOps.quiet0 E_good rfl rfl rfl (v := V.int .i64 0) (.fn rfl) ?_
    refine SafeOps.quiet0 E_good rfl rfl rfl (v := V.int .i64 1) (.fn rfl) ?_
    refine SafeOps.nil ?_
    repeat (first | refine Safe.seq ?_ | refine Safe.skip ?_ | with_reducible refine thenQ.n ?_ | with_reducible refine blockQ.n ?_)
    refine Safe.ret ?_
    repeat (first | with_reducible refine thenQ.r ?_ | with_reducible refine blockQ.r ?_)
    obtain rfl := Option.some.inj h
    exact retQ.gen (vs := [V.nils, V.int .i64 0, V.int .i64 1]) rfl (.tmp (v := V.nils) rfl (.tmp (v := V.int .i64 0) rfl (.tmp (v := V.int .i64 1) rfl .nil))) (by exact (.tup (.cons (.nils _) (.cons (.free rfl) (.cons (.free rfl) .nil))))) (by simp) (.inr rfl)
  · skip
    refine Safe.condN rfl hc198 ?_
    repeat (first | refine Safe.seq ?_ | refine Safe.skip ?_ | with_reducible refine thenQ.n ?_ | with_reducible refine blockQ.n ?_)
    refine Safe.region ?_
    refine SafeOps.quiet0 E_good rfl rfl rfl (v := V.sl 1 (rws (fun n => [V.int .i64 n]) a0_119)) (.fn rfl) ?_
    refine SafeOps.quiet0 E_good rfl rfl rfl (v := V.ptr [3] 0 1) (.fn rfl) ?_
    refine SafeOps.quiet0 E_good rfl rfl rfl (v := V.int .i64 a1_120.At) (.load rfl rfl (.box rfl rfl) rfl) ?_
    refine okG h (fun hb199 h => ?_)
    refine SafeOps.quiet0 E_good rfl rfl rfl (v := V.spt 1 (rws (fun n => [V.int .i64 n]) a0_119) (Int.toNat a1_120.At) 0) (.idxSlM (f := (fun n => [V.int .i64 n])) rfl rfl rfl rfl rfl hb199) ?_
    refine SafeOps.quiet0 E_good rfl rfl rfl (v := V.int .i64 (gt a0_119 a1_120.At)) (.load rfl rfl (.sptM (f := (fun n => [V.int .i64 n])) hb199 rfl) rfl) ?_
    refine SafeOps.quiet0 E_good rfl rfl rfl (v := V.int .i64 (gt a0_119 a1_120.At)) (.fn rfl) ?_
    refine SafeOps.nil ?_
    repeat (first | refine Safe.seq ?_ | refine Safe.skip ?_ | with_reducible refine thenQ.n ?_ | with_reducible refine blockQ.n ?_)
    refine Safe.region ?_
    refine SafeOps.quiet0 E_good rfl rfl rfl (v := V.ptr [3] 0 0) (.fn rfl) ?_
    refine SafeOps.quiet0 E_good rfl rfl rfl (v := V.int .i64 a1_120.Kind) (.load rfl rfl (.box rfl rfl) rfl) ?_
    refine SafeOps.quiet0 E_good rfl rfl rfl (v := V.bool (a1_120.Kind == 0)) (.fn rfl) ?_
    refine SafeOps.nil ?_
    repeat (first | refine Safe.seq ?_ | refine Safe.skip ?_ | with_reducible refine thenQ.n ?_ | with_reducible refine blockQ.n ?_)
    refine ifG h (fun hc202 h => ?_) (fun hc202 h => ?_)
    · skip
      refine Safe.condK rfl hc202 ?_
      repeat (first | refine Safe.seq ?_ | refine Safe.skip ?_ | with_reducible refine thenQ.n ?_ | with_reducible refine blockQ.n ?_)
      refine Safe.region ?_
      refine SafeOps.quiet0 E_good rfl rfl rfl (v := V.sl 1 (rws (fun n => [V.int .i64 n]) a0_119)) (.fn rfl) ?_
      refine SafeOps.quiet0 E_good rfl rfl rfl (v := V.ptr [3] 0 1) (.fn rfl) ?_
      refine SafeOps.quiet0 E_good rfl rfl rfl (v := V.int .i64 a1_120.At) (.load rfl rfl (.box rfl rfl) rfl) ?_
      refine SafeOps.quiet0 E_good rfl rfl rfl (v := V.int .i64 (gt a0_119 a1_120.At)) (.fn rfl) ?_
      refine bindG h ?_
      intro x_203 he204 h
      refine SafeOps.quiet E_good rfl rfl rfl (v := V.ref [37, 0] 0 (rws (fun n => [V.int .i64 n]) x_203).length) (.callP rfl rfl (go_ravelref01_With_sc a0_119 a1_120.At (gt a0_119 a1_120.At) _ he204) rfl) rfl ?_
      refine SafeOps.quiet0 E_good rfl rfl rfl (v := V.int .i64 (gt a0_119 a1_120.At)) (.fn rfl) ?_
      refine SafeOps.quiet0 E_good rfl rfl rfl (v := V.ref [37, 0] 0 (rws (fun n => [V.int .i64 n]) x_203).length) (.fn rfl) ?_
      refine SafeOps.quiet0 E_good rfl rfl rfl (v := V.int .i64 (gt a0_119 a1_120.At)) (.fn rfl) ?_
      refine SafeOps.quiet0 E_good rfl rfl rfl (v := V.int .i64 0) (.fn rfl) ?_
      refine SafeOps.nil ?_
      repeat (first | refine Safe.seq ?_ | refine Safe.skip ?_ | with_reducible refine thenQ.n ?_ | with_reducible refine blockQ.n ?_)
      refine Safe.ret ?_
      repeat (first | with_reducible refine thenQ.r ?_ | with_reducible refine blockQ.r ?_)
      obtain rfl := Option.some.inj h
      exact retQ.gen (vs := [V.ref [37, 0] 0 (rws (fun n => [V.int .i64 n]) x_203).length, V.int .i64 (gt a0_119 a1_120.At), V.int .i64 0]) rfl (.tmp (v := V.ref [37, 0] 0 (rws (fun n => [V.int .i64 n]) x_203).length) rfl (.tmp (v := V.int .i64 (gt a0_119 a1_120.At)) rfl (.tmp (v := V.int .i64 0) rfl .nil))) (by exact (.tup (.cons (.own rfl rfl) (.cons (.free rfl) (.cons (.free rfl) .nil))))) (by simp) (.inr rfl)
    · skip
      refine Safe.condN rfl hc202 ?_
      repeat (first | refine Safe.seq ?_ | refine Safe.skip ?_ | with_reducible refine thenQ.n ?_ | with_reducible refine blockQ.n ?_)
      refine Safe.region ?_
      refine SafeOps.quiet0 E_good rfl rfl rfl (v := V.ptr [3] 0 0) (.fn rfl) ?_
      refine SafeOps.quiet0 E_good rfl rfl rfl (v := V.int .i64 a1_120.Kind) (.load rfl rfl (.box rfl rfl) rfl) ?_
      refine SafeOps.quiet0 E_good rfl rfl rfl (v := V.bool (a1_120.Kind == 1)) (.fn rfl) ?_
      refine SafeOps.nil ?_
      repeat (first | refine Safe.seq ?_ | refine Safe.skip ?_ | with_reducible refine thenQ.n ?_ | with_reducible refine blockQ.n ?_)
      refine ifG h (fun hc207 h => ?_) (fun hc207 h => ?_)
      · skip
        refine Safe.condK rfl hc207 ?_
        repeat (first | refine Safe.seq ?_ | refine Safe.skip ?_ | with_reducible refine thenQ.n ?_ | with_reducible refine blockQ.n ?_)
        refine Safe.region ?_
        refine SafeOps.quiet0 E_good rfl rfl rfl (v := V.sl 1 (rws (fun n => [V.int .i64 n]) a0_119)) (.fn rfl) ?_
        refine SafeOps.quiet0 E_good rfl rfl rfl (v := V.ptr [3] 0 1) (.fn rfl) ?_
        refine SafeOps.quiet0 E_good rfl rfl rfl (v := V.int .i64 a1_120.At) (.load rfl rfl (.box rfl rfl) rfl) ?_
        refine SafeOps.quiet0 E_good rfl rfl rfl (v := V.ptr [3] 0 2) (.fn rfl) ?_
        refine SafeOps.quiet0 E_good rfl rfl rfl (v := V.int .i64 a1_120.A) (.load rfl rfl (.box rfl rfl) rfl) ?_
        refine bindG h ?_
        intro x_208 he209 h
        refine SafeOps.quiet E_good rfl rfl rfl (v := V.ref [47, 0] 0 (rws (fun n => [V.int .i64 n]) x_208).length) (.callP rfl rfl (go_ravelref01_With_sc a0_119 a1_120.At a1_120.A _ he209) rfl) rfl ?_
        refine SafeOps.quiet0 E_good rfl rfl rfl (v := V.ref [47, 0] 0 (rws (fun n => [V.int .i64 n]) x_208).length) (.fn rfl) ?_
        refine SafeOps.quiet0 E_good rfl rfl rfl (v := V.int .i64 0) (.fn rfl) ?_
        refine SafeOps.quiet0 E_good rfl rfl rfl (v := V.int .i64 0) (.fn rfl) ?_
        refine SafeOps.nil ?_
        repeat (first | refine Safe.seq ?_ | refine Safe.skip ?_ | with_reducible refine thenQ.n ?_ | with_reducible refine blockQ.n ?_)
        refine Safe.ret ?_
        repeat (first | with_reducible refine thenQ.r ?_ | with_reducible refine blockQ.r ?_)
        obtain rfl := Option.some.inj h
        exact retQ.gen (vs := [V.ref [47, 0] 0 (rws (fun n => [V.int .i64 n]) x_208).length, V.int .i64 0, V.int .i64 0]) rfl (.tmp (v := V.ref [47, 0] 0 (rws (fun n => [V.int .i64 n]) x_208).length) rfl (.tmp (v := V.int .i64 0) rfl (.tmp (v := V.int .i64 0) rfl .nil))) (by exact (.tup (.cons (.own rfl rfl) (.cons (.free rfl) (.cons (.free rfl) .nil))))) (by simp) (.inr rfl)
      · skip
        refine Safe.condN rfl hc207 ?_
        repeat (first | refine Safe.seq ?_ | refine Safe.skip ?_ | with_reducible refine thenQ.n ?_ | with_reducible refine blockQ.n ?_)
        refine Safe.region ?_
        refine SafeOps.quiet0 E_good rfl rfl rfl (v := V.ptr [3] 0 0) (.fn rfl) ?_
        refine SafeOps.quiet0 E_good rfl rfl rfl (v := V.int .i64 a1_120.Kind) (.load rfl rfl (.box rfl rfl) rfl) ?_
        refine SafeOps.quiet0 E_good rfl rfl rfl (v := V.bool (a1_120.Kind == 2)) (.fn rfl) ?_
        refine SafeOps.nil ?_
        repeat (first | refine Safe.seq ?_ | refine Safe.skip ?_ | with_reducible refine thenQ.n ?_ | with_reducible refine blockQ.n ?_)
        refine ifG h (fun hc217 h => ?_) (fun hc217 h => ?_)
        · skip
          refine Safe.condK rfl hc217 ?_
          repeat (first | refine Safe.seq ?_ | refine Safe.skip ?_ | with_reducible refine thenQ.n ?_ | with_reducible refine blockQ.n ?_)
          refine Safe.region ?_
          refine SafeOps.quiet0 E_good rfl rfl rfl (v := V.int .i64 (gt a0_119 a1_120.At)) (.fn rfl) ?_
          refine SafeOps.quiet0 E_good rfl rfl rfl (v := V.ptr [3] 0 2) (.fn rfl) ?_
          refine SafeOps.quiet0 E_good rfl rfl rfl (v := V.int .i64 a1_120.A) (.load rfl rfl (.box rfl rfl) rfl) ?_
          refine SafeOps.quiet0 E_good rfl rfl rfl (v := V.bool ((gt a0_119 a1_120.At) != a1_120.A)) (.fn rfl) ?_
          refine SafeOps.nil ?_
          repeat (first | refine Safe.seq ?_ | refine Safe.skip ?_ | with_reducible refine thenQ.n ?_ | with_reducible refine blockQ.n ?_)
          refine ifG h (fun hc220 h => ?_) (fun hc220 h => ?_)
          · skip
            refine Safe.condK rfl hc220 ?_
            repeat (first | refine Safe.seq ?_ | refine Safe.skip ?_ | with_reducible refine thenQ.n ?_ | with_reducible refine blockQ.n ?_)
            refine Safe.region ?_
            refine SafeOps.quiet0 E_good rfl rfl rfl (v := V.sl 1 (rws (fun n => [V.int .i64 n]) a0_119)) (.fn rfl) ?_
            refine SafeOps.quiet0 E_good rfl rfl rfl (v := V.ptr [3] 0 1) (.fn rfl) ?_
            refine SafeOps.quiet0 E_good rfl rfl rfl (v := V.int .i64 a1_120.At) (.load rfl rfl (.box rfl rfl) rfl) ?_
            refine SafeOps.quiet0 E_good rfl rfl rfl (v := V.int .i64 (gt a0_119 a1_120.At)) (.fn rfl) ?_
            refine bindG h ?_
            intro x_221 he222 h
            refine SafeOps.quiet E_good rfl rfl rfl (v := V.ref [59, 0] 0 (rws (fun n => [V.int .i64 n]) x_221).length) (.callP rfl rfl (go_ravelref01_With_sc a0_119 a1_120.At (gt a0_119 a1_120.At) _ he222) rfl) rfl ?_
            refine SafeOps.quiet0 E_good rfl rfl rfl (v := V.ref [59, 0] 0 (rws (fun n => [V.int .i64 n]) x_221).length) (.fn rfl) ?_
            refine SafeOps.quiet0 E_good rfl rfl rfl (v := V.int .i64 0) (.fn rfl) ?_
            refine SafeOps.quiet0 E_good rfl rfl rfl (v := V.int .i64 0) (.fn rfl) ?_
            refine SafeOps.nil ?_
            repeat (first | refine Safe.seq ?_ | refine Safe.skip ?_ | with_reducible refine thenQ.n ?_ | with_reducible refine blockQ.n ?_)
            refine Safe.ret ?_
            repeat (first | with_reducible refine thenQ.r ?_ | with_reducible refine blockQ.r ?_)
            obtain rfl := Option.some.inj h
            exact retQ.gen (vs := [V.ref [59, 0] 0 (rws (fun n => [V.int .i64 n]) x_221).length, V.int .i64 0, V.int .i64 0]) rfl (.tmp (v := V.ref [59, 0] 0 (rws (fun n => [V.int .i64 n]) x_221).length) rfl (.tmp (v := V.int .i64 0) rfl (.tmp (v := V.int .i64 0) rfl .nil))) (by exact (.tup (.cons (.own rfl rfl) (.cons (.free rfl) (.cons (.free rfl) .nil))))) (by simp) (.inr rfl)
          · skip
            refine Safe.condN rfl hc220 ?_
            repeat (first | refine Safe.seq ?_ | refine Safe.skip ?_ | with_reducible refine thenQ.n ?_ | with_reducible refine blockQ.n ?_)
            refine Safe.region ?_
            refine SafeOps.quiet0 E_good rfl rfl rfl (v := V.sl 1 (rws (fun n => [V.int .i64 n]) a0_119)) (.fn rfl) ?_
            refine SafeOps.quiet0 E_good rfl rfl rfl (v := V.ptr [3] 0 1) (.fn rfl) ?_
            refine SafeOps.quiet0 E_good rfl rfl rfl (v := V.int .i64 a1_120.At) (.load rfl rfl (.box rfl rfl) rfl) ?_
            refine SafeOps.quiet0 E_good rfl rfl rfl (v := V.ptr [3] 0 3) (.fn rfl) ?_
            refine SafeOps.quiet0 E_good rfl rfl rfl (v := V.int .i64 a1_120.B) (.load rfl rfl (.box rfl rfl) rfl) ?_
            refine bindG h ?_
            intro x_223 he224 h
            refine SafeOps.quiet E_good rfl rfl rfl (v := V.ref [65, 0] 0 (rws (fun n => [V.int .i64 n]) x_223).length) (.callP rfl rfl (go_ravelref01_With_sc a0_119 a1_120.At a1_120.B _ he224) rfl) rfl ?_
            refine SafeOps.quiet0 E_good rfl rfl rfl (v := V.ref [65, 0] 0 (rws (fun n => [V.int .i64 n]) x_223).length) (.fn rfl) ?_
            refine SafeOps.quiet0 E_good rfl rfl rfl (v := V.int .i64 1) (.fn rfl) ?_
            refine SafeOps.quiet0 E_good rfl rfl rfl (v := V.int .i64 0) (.fn rfl) ?_
            refine SafeOps.nil ?_
            repeat (first | refine Safe.seq ?_ | refine Safe.skip ?_ | with_reducible refine thenQ.n ?_ | with_reducible refine blockQ.n ?_)
            refine Safe.ret ?_
            repeat (first | with_reducible refine thenQ.r ?_ | with_reducible refine blockQ.r ?_)
            obtain rfl := Option.some.inj h
            exact retQ.gen (vs := [V.ref [65, 0] 0 (rws (fun n => [V.int .i64 n]) x_223).length, V.int .i64 1, V.int .i64 0]) rfl (.tmp (v := V.ref [65, 0] 0 (rws (fun n => [V.int .i64 n]) x_223).length) rfl (.tmp (v := V.int .i64 1) rfl (.tmp (v := V.int .i64 0) rfl .nil))) (by exact (.tup (.cons (.own rfl rfl) (.cons (.free rfl) (.cons (.free rfl) .nil))))) (by simp) (.inr rfl)
        · skip
          refine Safe.condN rfl hc217 ?_
          repeat (first | refine Safe.seq ?_ | refine Safe.skip ?_ | with_reducible refine thenQ.n ?_ | with_reducible refine blockQ.n ?_)
          refine Safe.region ?_
          refine SafeOps.quiet0 E_good rfl rfl rfl (v := V.int .i64 (gt a0_119 a1_120.At)) (.fn rfl) ?_
          refine SafeOps.quiet0 E_good rfl rfl rfl (v := V.ptr [3] 0 2) (.fn rfl) ?_
          refine SafeOps.quiet0 E_good rfl rfl rfl (v := V.int .i64 a1_120.A) (.load rfl rfl (.box rfl rfl) rfl) ?_
          refine letG h ?_
          rintro ⟨x_225, x_226⟩ he227 h
          refine SafeOps.quiet0 E_good rfl rfl rfl (v := V.tup [V.int .i64 x_225, V.bool x_226]) (.callP rfl rfl (go_ravelref01_Sum_sc (gt a0_119 a1_120.At) a1_120.A _ he227) rfl) ?_
          refine SafeOps.quiet0 E_good rfl rfl rfl (v := V.tup [V.int .i64 x_225, V.bool x_226]) (.fn rfl) ?_
          refine SafeOps.quiet0 E_good rfl rfl rfl (v := V.int .i64 x_225) (.fn rfl) ?_
          refine SafeOps.quiet0 E_good rfl rfl rfl (v := V.bool x_226) (.fn rfl) ?_
          refine SafeOps.quiet0 E_good rfl rfl rfl (v := V.int .i64 x_225) (.fn rfl) ?_
          refine SafeOps.quiet0 E_good rfl rfl rfl (v := V.bool x_226) (.fn rfl) ?_
          refine SafeOps.nil ?_
          repeat (first | refine Safe.seq ?_ | refine Safe.skip ?_ | with_reducible refine thenQ.n ?_ | with_reducible refine blockQ.n ?_)
          refine Safe.region ?_
          refine SafeOps.quiet0 E_good rfl rfl rfl (v := V.bool x_226) (.fn rfl) ?_
          refine SafeOps.quiet0 E_good rfl rfl rfl (v := V.bool (!x_226)) (.fn rfl) ?_
          refine SafeOps.nil ?_
          repeat (first | refine Safe.seq ?_ | refine Safe.skip ?_ | with_reducible refine thenQ.n ?_ | with_reducible refine blockQ.n ?_)
          refine ifG h (fun hc228 h => ?_) (fun hc228 h => ?_)
          · skip
            refine Safe.condK rfl hc228 ?_
            repeat (first | refine Safe.seq ?_ | refine Safe.skip ?_ | with_reducible refine thenQ.n ?_ | with_reducible refine blockQ.n ?_)
            refine Safe.region ?_
            refine SafeOps.quiet0 E_good rfl rfl rfl (v := V.nils) (.fn rfl) ?_
            refine SafeOps.quiet0 E_good rfl rfl rfl (v := V.int .i64 0) (.fn rfl) ?_
            refine SafeOps.quiet0 E_good rfl rfl rfl (v := V.int .i64 4) (.fn rfl) ?_
            refine SafeOps.nil ?_
            repeat (first | refine Safe.seq ?_ | refine Safe.skip ?_ | with_reducible refine thenQ.n ?_ | with_reducible refine blockQ.n ?_)
            refine Safe.ret ?_
            repeat (first | with_reducible refine thenQ.r ?_ | with_reducible refine blockQ.r ?_)
            obtain rfl := Option.some.inj h
            exact retQ.gen (vs := [V.nils, V.int .i64 0, V.int .i64 4]) rfl (.tmp (v := V.nils) rfl (.tmp (v := V.int .i64 0) rfl (.tmp (v := V.int .i64 4) rfl .nil))) (by exact (.tup (.cons (.nils _) (.cons (.free rfl) (.cons (.free rfl) .nil))))) (by simp) (.inr rfl)
          · skip
            refine Safe.condN rfl hc228 ?_
            repeat (first | refine Safe.seq ?_ | refine Safe.skip ?_ | with_reducible refine thenQ.n ?_ | with_reducible refine blockQ.n ?_)
            refine Safe.region ?_
            refine SafeOps.quiet0 E_good rfl rfl rfl (v := V.sl 1 (rws (fun n => [V.int .i64 n]) a0_119)) (.fn rfl) ?_
            refine SafeOps.quiet0 E_good rfl rfl rfl (v := V.ptr [3] 0 1) (.fn rfl) ?_
            refine SafeOps.quiet0 E_good rfl rfl rfl (v := V.int .i64 a1_120.At) (.load rfl rfl (.box rfl rfl) rfl) ?_
            refine SafeOps.quiet0 E_good rfl rfl rfl (v := V.int .i64 x_225) (.fn rfl) ?_
            refine bindG h ?_
            intro x_229 he230 h
            refine SafeOps.quiet E_good rfl rfl rfl (v := V.ref [79, 0] 0 (rws (fun n => [V.int .i64 n]) x_229).length) (.callP rfl rfl (go_ravelref01_With_sc a0_119 a1_120.At x_225 _ he230) rfl) rfl ?_
            refine SafeOps.quiet0 E_good rfl rfl rfl (v := V.int .i64 (gt a0_119 a1_120.At)) (.fn rfl) ?_
            refine SafeOps.quiet0 E_good rfl rfl rfl (v := V.ref [79, 0] 0 (rws (fun n => [V.int .i64 n]) x_229).length) (.fn rfl) ?_
            refine SafeOps.quiet0 E_good rfl rfl rfl (v := V.int .i64 (gt a0_119 a1_120.At)) (.fn rfl) ?_
            refine SafeOps.quiet0 E_good rfl rfl rfl (v := V.int .i64 0) (.fn rfl) ?_
            refine SafeOps.nil ?_
            repeat (first | refine Safe.seq ?_ | refine Safe.skip ?_ | with_reducible refine thenQ.n ?_ | with_reducible refine blockQ.n ?_)
            refine Safe.ret ?_
            repeat (first | with_reducible refine thenQ.r ?_ | with_reducible refine blockQ.r ?_)
            obtain rfl := Option.some.inj h
            exact retQ.gen (vs := [V.ref [79, 0] 0 (rws (fun n => [V.int .i64 n]) x_229).length, V.int .i64 (gt a0_119 a1_120.At), V.int .i64 0]) rfl (.tmp (v := V.ref [79, 0] 0 (rws (fun n => [V.int .i64 n]) x_229).length) rfl (.tmp (v := V.int .i64 (gt a0_119 a1_120.At)) rfl (.tmp (v := V.int .i64 0) rfl .nil))) (by exact (.tup (.cons (.own rfl rfl) (.cons (.free rfl) (.cons (.free rfl) .nil))))) (by simp) (.inr rfl)

noncomputable def go_cell_Store (a0_237 : List Int) (a1_238 : Int) (a2_239 : Int) : Option ((List Int) × Int) :=
  if ((((go_cell_Check a0_237) != 0) || (decide (a1_238 < 0))) || (decide (a1_238 ≥ (a0_237.length : Int)))) = true then
    some ([], 1)
  else
    if 0 ≤ a1_238 ∧ a1_238 < (a0_237.length : Int) then
      (go_slices_Clone_api_Mem_int64 a0_237).bind fun x_260 =>
      if 0 ≤ a1_238 ∧ a1_238 < (x_260.length : Int) then
        some (st x_260 a1_238 a2_239, 0)
      else none
    else none

theorem go_cell_Store_sc (a0_237 : List Int) (a1_238 : Int) (a2_239 : Int) (r : (List Int) × Int) (h : go_cell_Store a0_237 a1_238 a2_239 = some r) : SC Try.prog gl 11 [V.sl 1 (rws (fun n => [V.int .i64 n]) a0_237), V.int .i64 a1_238, V.int .i64 a2_239] (V.tup [V.own 1 (rws (fun n => [V.int .i64 n]) r.1), V.int .i64 r.2]) := by
  rw [go_cell_Store] at h
  refine SC.of E_good Try.func11 rfl (fun _ _ => Try.call11 _ _) rfl ?_
  repeat (first | refine Safe.seq ?_ | refine Safe.skip ?_ | with_reducible refine thenQ.n ?_ | with_reducible refine blockQ.n ?_)
  refine Safe.region ?_
  refine SafeOps.quiet0 E_good rfl rfl rfl (v := V.nils) (.fn rfl) ?_
  refine SafeOps.quiet0 E_good rfl rfl rfl (v := V.int .i64 0) (.fn rfl) ?_
  refine SafeOps.nil ?_
  repeat (first | refine Safe.seq ?_ | refine Safe.skip ?_ | with_reducible refine thenQ.n ?_ | with_reducible refine blockQ.n ?_)
  refine Safe.region ?_
  refine SafeOps.quiet0 E_good rfl rfl rfl (v := V.sl 1 (rws (fun n => [V.int .i64 n]) a0_237)) (.fn rfl) ?_
  refine SafeOps.quiet0 E_good rfl rfl rfl (v := V.int .i64 a1_238) (.fn rfl) ?_
  refine SafeOps.inline E_good rfl rfl rfl rfl rfl Try.func27 rfl (fun _ _ => Try.call27 _ _) rfl ?_
  repeat (first | refine Safe.seq ?_ | refine Safe.skip ?_ | with_reducible refine thenQ.n ?_ | with_reducible refine blockQ.n ?_)
  refine Safe.region ?_
  refine SafeOps.quiet0 E_good rfl rfl rfl (v := V.nils) (.fn rfl) ?_
  refine SafeOps.quiet0 E_good rfl rfl rfl (v := V.nilp) (.fn rfl) ?_
  refine SafeOps.quiet0 E_good rfl rfl rfl (v := V.int .i64 0) (.fn rfl) ?_
  refine SafeOps.nil ?_
  repeat (first | refine Safe.seq ?_ | refine Safe.skip ?_ | with_reducible refine thenQ.n ?_ | with_reducible refine blockQ.n ?_)
  refine Safe.region ?_
  refine SafeOps.quiet0 E_good rfl rfl rfl (v := V.sl 1 (rws (fun n => [V.int .i64 n]) a0_237)) (.fn rfl) ?_
  refine SafeOps.quiet0 E_good rfl rfl rfl (v := V.int .i64 a1_238) (.fn rfl) ?_
  refine SafeOps.inline E_good rfl rfl rfl rfl rfl Try.func23 rfl (fun _ _ => Try.call23 _ _) rfl ?_
  repeat (first | refine Safe.seq ?_ | refine Safe.skip ?_ | with_reducible refine thenQ.n ?_ | with_reducible refine blockQ.n ?_)
  refine Safe.region ?_
  refine SafeOps.quiet0 E_good rfl rfl rfl (v := V.nilp) (.fn rfl) ?_
  refine SafeOps.quiet0 E_good rfl rfl rfl (v := V.int .i64 0) (.fn rfl) ?_
  refine SafeOps.nil ?_
  repeat (first | refine Safe.seq ?_ | refine Safe.skip ?_ | with_reducible refine thenQ.n ?_ | with_reducible refine blockQ.n ?_)
  refine Safe.region ?_
  refine SafeOps.quiet0 E_good rfl rfl rfl (v := V.sl 1 (rws (fun n => [V.int .i64 n]) a0_237)) (.fn rfl) ?_
  refine SafeOps.quiet0 E_good rfl rfl rfl (v := V.int .i64 (go_cell_Check a0_237)) (.callP rfl rfl (go_cell_Check_sc a0_237 _ rfl) rfl) ?_
  refine SafeOps.quiet0 E_good rfl rfl rfl (v := V.bool ((go_cell_Check a0_237) != 0)) (.fn rfl) ?_
  refine SafeOps.quiet0 E_good rfl rfl rfl (v := V.bool ((go_cell_Check a0_237) != 0)) (.fn rfl) ?_
  refine SafeOps.bjoin 3 12 (b := (((go_cell_Check a0_237) != 0) || (decide (a1_238 < 0)))) (b1 := true) (b0 := decide (a1_238 < 0)) (fun hc256 K => ?_) (fun hc256 K => ?_) bj_or ?_
  · skip
    refine SafeOps.skip (congrArg (fun b => some (!b)) hc256) rfl rfl ?_
    refine SafeOps.skip (congrArg (fun b => some (!b)) hc256) rfl rfl ?_
    refine SafeOps.quiet0 E_good rfl rfl rfl (v := V.bool true) (.pickK rfl hc256 rfl) ?_
    exact SafeOps.drop' 3 rfl rfl rfl K
  · skip
    refine SafeOps.quiet0 E_good (congrArg (fun b => some (!b)) hc256) rfl rfl (v := V.int .i64 a1_238) (.fn rfl) ?_
    refine SafeOps.quiet0 E_good (congrArg (fun b => some (!b)) hc256) rfl rfl (v := V.bool (decide (a1_238 < 0))) (.fn rfl) ?_
    refine SafeOps.quiet0 E_good rfl rfl rfl (v := V.bool (decide (a1_238 < 0))) (.pickK rfl hc256 rfl) ?_
    exact SafeOps.drop' 3 rfl rfl rfl K
  refine SafeOps.quiet0 E_good rfl rfl rfl (v := V.bool (((go_cell_Check a0_237) != 0) || (decide (a1_238 < 0)))) (.fn rfl) ?_
  refine SafeOps.bjoin 5 18 (b := ((((go_cell_Check a0_237) != 0) || (decide (a1_238 < 0))) || (decide (a1_238 ≥ (a0_237.length : Int))))) (b1 := true) (b0 := decide (a1_238 ≥ (a0_237.length : Int))) (fun hc257 K => ?_) (fun hc257 K => ?_) bj_or ?_
  · skip
    refine SafeOps.skip (congrArg (fun b => some (!b)) hc257) rfl rfl ?_
    refine SafeOps.skip (congrArg (fun b => some (!b)) hc257) rfl rfl ?_
    refine SafeOps.skip (congrArg (fun b => some (!b)) hc257) rfl rfl ?_
    refine SafeOps.skip (congrArg (fun b => some (!b)) hc257) rfl rfl ?_
    refine SafeOps.quiet0 E_good rfl rfl rfl (v := V.bool true) (.pickK rfl hc257 rfl) ?_
    exact SafeOps.drop' 5 rfl rfl rfl K
  · skip
    refine SafeOps.quiet0 E_good (congrArg (fun b => some (!b)) hc257) rfl rfl (v := V.int .i64 a1_238) (.fn rfl) ?_
    refine SafeOps.quiet0 E_good (congrArg (fun b => some (!b)) hc257) rfl rfl (v := V.sl 1 (rws (fun n => [V.int .i64 n]) a0_237)) (.fn rfl) ?_
    refine SafeOps.quiet0 E_good (congrArg (fun b => some (!b)) hc257) rfl rfl (v := V.int .i64 (a0_237.length : Int)) (.fnE rfl lenE) ?_
    refine SafeOps.quiet0 E_good (congrArg (fun b => some (!b)) hc257) rfl rfl (v := V.bool (decide (a1_238 ≥ (a0_237.length : Int)))) (.fn rfl) ?_
    refine SafeOps.quiet0 E_good rfl rfl rfl (v := V.bool (decide (a1_238 ≥ (a0_237.length : Int)))) (.pickK rfl hc257 rfl) ?_
    exact SafeOps.drop' 5 rfl rfl rfl K
  refine SafeOps.nil ?_
  repeat (first | refine Safe.seq ?_ | refine Safe.skip ?_ | with_reducible refine thenQ.n ?_ | with_reducible refine blockQ.n ?_)
  refine ifG h (fun hc258 h => ?_) (fun hc258 h => ?_)
  · skip
    refine Safe.condK rfl hc258 ?_
    repeat (first | refine Safe.seq ?_ | refine Safe.skip ?_ | with_reducible refine thenQ.n ?_ | with_reducible refine blockQ.n ?_)
    refine Safe.region ?_
    refine SafeOps.quiet0 E_good rfl rfl rfl (v := V.nilp) (.fn rfl) ?_
    refine SafeOps.quiet0 E_good rfl rfl rfl (v := V.int .i64 1) (.fn rfl) ?_
    refine SafeOps.nil ?_
    repeat (first | refine Safe.seq ?_ | refine Safe.skip ?_ | with_reducible refine thenQ.n ?_ | with_reducible refine blockQ.n ?_)
    refine Safe.ret ?_
    repeat (first | with_reducible refine thenQ.r ?_ | with_reducible refine blockQ.r ?_)
    refine inQ.gen (vs := [V.nilp, V.int .i64 1]) (v := V.tup [V.nilp, V.int .i64 1]) (.inr rfl) rfl (.tmp (v := V.nilp) rfl (.tmp (v := V.int .i64 1) rfl .nil)) rfl ?_
    refine SafeOps.quiet0 E_good rfl rfl rfl (v := V.tup [V.nilp, V.int .i64 1]) (.fn rfl) ?_
    refine SafeOps.quiet0 E_good rfl rfl rfl (v := V.nilp) (.fn rfl) ?_
    refine SafeOps.quiet0 E_good rfl rfl rfl (v := V.int .i64 1) (.fn rfl) ?_
    refine SafeOps.quiet0 E_good rfl rfl rfl (v := V.nilp) (.fn rfl) ?_
    refine SafeOps.quiet0 E_good rfl rfl rfl (v := V.int .i64 1) (.fn rfl) ?_
    refine SafeOps.nil ?_
    repeat (first | refine Safe.seq ?_ | refine Safe.skip ?_ | with_reducible refine thenQ.n ?_ | with_reducible refine blockQ.n ?_)
    refine Safe.region ?_
    refine SafeOps.quiet0 E_good rfl rfl rfl (v := V.int .i64 1) (.fn rfl) ?_
    refine SafeOps.quiet0 E_good rfl rfl rfl (v := V.bool true) (.fn rfl) ?_
    refine SafeOps.nil ?_
    repeat (first | refine Safe.seq ?_ | refine Safe.skip ?_ | with_reducible refine thenQ.n ?_ | with_reducible refine blockQ.n ?_)
    refine Safe.condK rfl rfl ?_
    repeat (first | refine Safe.seq ?_ | refine Safe.skip ?_ | with_reducible refine thenQ.n ?_ | with_reducible refine blockQ.n ?_)
    refine Safe.region ?_
    refine SafeOps.quiet0 E_good rfl rfl rfl (v := V.int .i64 1) (.fn rfl) ?_
    refine SafeOps.quiet0 E_good rfl rfl rfl (v := V.nils) (.fn rfl) ?_
    refine SafeOps.quiet0 E_good rfl rfl rfl (v := V.nilp) (.fn rfl) ?_
    refine SafeOps.quiet0 E_good rfl rfl rfl (v := V.int .i64 1) (.fn rfl) ?_
    refine SafeOps.nil ?_
    repeat (first | refine Safe.seq ?_ | refine Safe.skip ?_ | with_reducible refine thenQ.n ?_ | with_reducible refine blockQ.n ?_)
    refine Safe.ret ?_
    repeat (first | with_reducible refine thenQ.r ?_ | with_reducible refine blockQ.r ?_)
    refine inQ.gen (vs := [V.nils, V.nilp, V.int .i64 1]) (v := V.tup [V.nils, V.nilp, V.int .i64 1]) (.inr rfl) rfl (.tmp (v := V.nils) rfl (.tmp (v := V.nilp) rfl (.tmp (v := V.int .i64 1) rfl .nil))) rfl ?_
    refine SafeOps.quiet0 E_good rfl rfl rfl (v := V.tup [V.nils, V.nilp, V.int .i64 1]) (.fn rfl) ?_
    refine SafeOps.quiet0 E_good rfl rfl rfl (v := V.nils) (.fn rfl) ?_
    refine SafeOps.quiet0 E_good rfl rfl rfl (v := V.nilp) (.fn rfl) ?_
    refine SafeOps.quiet0 E_good rfl rfl rfl (v := V.int .i64 1) (.fn rfl) ?_
    refine SafeOps.quiet0 E_good rfl rfl rfl (v := V.nils) (.fn rfl) ?_
    refine SafeOps.quiet0 E_good rfl rfl rfl (v := V.nilp) (.fn rfl) ?_
    refine SafeOps.quiet0 E_good rfl rfl rfl (v := V.int .i64 1) (.fn rfl) ?_
    refine SafeOps.nil ?_
    repeat (first | refine Safe.seq ?_ | refine Safe.skip ?_ | with_reducible refine thenQ.n ?_ | with_reducible refine blockQ.n ?_)
    refine Safe.region ?_
    refine SafeOps.quiet0 E_good rfl rfl rfl (v := V.int .i64 1) (.fn rfl) ?_
    refine SafeOps.quiet0 E_good rfl rfl rfl (v := V.bool true) (.fn rfl) ?_
    refine SafeOps.nil ?_
    repeat (first | refine Safe.seq ?_ | refine Safe.skip ?_ | with_reducible refine thenQ.n ?_ | with_reducible refine blockQ.n ?_)
    refine Safe.condK rfl rfl ?_
    repeat (first | refine Safe.seq ?_ | refine Safe.skip ?_ | with_reducible refine thenQ.n ?_ | with_reducible refine blockQ.n ?_)
    refine Safe.region ?_
    refine SafeOps.quiet0 E_good rfl rfl rfl (v := V.int .i64 1) (.fn rfl) ?_
    refine SafeOps.quiet0 E_good rfl rfl rfl (v := V.nils) (.fn rfl) ?_
    refine SafeOps.quiet0 E_good rfl rfl rfl (v := V.int .i64 1) (.fn rfl) ?_
    refine SafeOps.nil ?_
    repeat (first | refine Safe.seq ?_ | refine Safe.skip ?_ | with_reducible refine thenQ.n ?_ | with_reducible refine blockQ.n ?_)
    refine Safe.ret ?_
    repeat (first | with_reducible refine thenQ.r ?_ | with_reducible refine blockQ.r ?_)
    obtain rfl := Option.some.inj h
    exact retQ.gen (vs := [V.nils, V.int .i64 1]) rfl (.tmp (v := V.nils) rfl (.tmp (v := V.int .i64 1) rfl .nil)) (by exact (.tup (.cons (.nils _) (.cons (.free rfl) .nil)))) (by simp) (.inr rfl)
  · skip
    refine Safe.condN rfl hc258 ?_
    repeat (first | refine Safe.seq ?_ | refine Safe.skip ?_ | with_reducible refine thenQ.n ?_ | with_reducible refine blockQ.n ?_)
    refine Safe.region ?_
    refine SafeOps.quiet0 E_good rfl rfl rfl (v := V.sl 1 (rws (fun n => [V.int .i64 n]) a0_237)) (.fn rfl) ?_
    refine SafeOps.quiet0 E_good rfl rfl rfl (v := V.int .i64 a1_238) (.fn rfl) ?_
    refine okG h (fun hb259 h => ?_)
    refine SafeOps.quiet0 E_good rfl rfl rfl (v := V.spt 1 (rws (fun n => [V.int .i64 n]) a0_237) (Int.toNat a1_238) 0) (.idxSlM (f := (fun n => [V.int .i64 n])) rfl rfl rfl rfl rfl hb259) ?_
    refine SafeOps.quiet0 E_good rfl rfl rfl (v := V.spt 1 (rws (fun n => [V.int .i64 n]) a0_237) (Int.toNat a1_238) 0) (.fn rfl) ?_
    refine SafeOps.quiet0 E_good rfl rfl rfl (v := V.int .i64 0) (.fn rfl) ?_
    refine SafeOps.nil ?_
    repeat (first | refine Safe.seq ?_ | refine Safe.skip ?_ | with_reducible refine thenQ.n ?_ | with_reducible refine blockQ.n ?_)
    refine Safe.ret ?_
    repeat (first | with_reducible refine thenQ.r ?_ | with_reducible refine blockQ.r ?_)
    refine inQ.gen (vs := [V.spt 1 (rws (fun n => [V.int .i64 n]) a0_237) (Int.toNat a1_238) 0, V.int .i64 0]) (v := V.tup [V.spt 1 (rws (fun n => [V.int .i64 n]) a0_237) (Int.toNat a1_238) 0, V.int .i64 0]) (.inr rfl) rfl (.tmp (v := V.spt 1 (rws (fun n => [V.int .i64 n]) a0_237) (Int.toNat a1_238) 0) rfl (.tmp (v := V.int .i64 0) rfl .nil)) rfl ?_
    refine SafeOps.quiet0 E_good rfl rfl rfl (v := V.tup [V.spt 1 (rws (fun n => [V.int .i64 n]) a0_237) (Int.toNat a1_238) 0, V.int .i64 0]) (.fn rfl) ?_
    refine SafeOps.quiet0 E_good rfl rfl rfl (v := V.spt 1 (rws (fun n => [V.int .i64 n]) a0_237) (Int.toNat a1_238) 0) (.fn rfl) ?_
    refine SafeOps.quiet0 E_good rfl rfl rfl (v := V.int .i64 0) (.fn rfl) ?_
    refine SafeOps.quiet0 E_good rfl rfl rfl (v := V.spt 1 (rws (fun n => [V.int .i64 n]) a0_237) (Int.toNat a1_238) 0) (.fn rfl) ?_
    refine SafeOps.quiet0 E_good rfl rfl rfl (v := V.int .i64 0) (.fn rfl) ?_
    refine SafeOps.nil ?_
    repeat (first | refine Safe.seq ?_ | refine Safe.skip ?_ | with_reducible refine thenQ.n ?_ | with_reducible refine blockQ.n ?_)
    refine Safe.region ?_
    refine SafeOps.quiet0 E_good rfl rfl rfl (v := V.int .i64 0) (.fn rfl) ?_
    refine SafeOps.quiet0 E_good rfl rfl rfl (v := V.bool false) (.fn rfl) ?_
    refine SafeOps.nil ?_
    repeat (first | refine Safe.seq ?_ | refine Safe.skip ?_ | with_reducible refine thenQ.n ?_ | with_reducible refine blockQ.n ?_)
    refine Safe.condN rfl rfl ?_
    repeat (first | refine Safe.seq ?_ | refine Safe.skip ?_ | with_reducible refine thenQ.n ?_ | with_reducible refine blockQ.n ?_)
    refine Safe.region ?_
    refine SafeOps.quiet0 E_good rfl rfl rfl (v := V.sl 1 (rws (fun n => [V.int .i64 n]) a0_237)) (.fn rfl) ?_
    refine bindG h ?_
    intro x_260 he261 h
    refine SafeOps.quiet E_good rfl rfl rfl (v := V.ref [14, 19, 0] 0 (rws (fun n => [V.int .i64 n]) x_260).length) (.callP rfl rfl (go_slices_Clone_api_Mem_int64_sc a0_237 _ he261) rfl) rfl ?_
    refine SafeOps.quiet0 E_good rfl rfl rfl (v := V.ref [14, 19, 0] 0 (rws (fun n => [V.int .i64 n]) x_260).length) (.fn rfl) ?_
    refine SafeOps.nil ?_
    repeat (first | refine Safe.seq ?_ | refine Safe.skip ?_ | with_reducible refine thenQ.n ?_ | with_reducible refine blockQ.n ?_)
    refine Safe.regionD (n := 7) [] [] E_good mixed rfl ?_
    refine DAny.take (i := 0) rfl (by kernel_rfl) [] (by kernel_rfl) (by kernel_rfl) (by kernel_rfl) rfl rfl rfl (v := V.ref [14, 19, 0] 0 (rws (fun n => [V.int .i64 n]) x_260).length) (fun _ hz => (.fn rfl)) ?_
    refine DAny.take (i := 1) rfl (by kernel_rfl) [] (by kernel_rfl) (by kernel_rfl) (by kernel_rfl) rfl rfl rfl (v := V.ref [14, 19, 0] 0 (rws (fun n => [V.int .i64 n]) x_260).length) (fun _ hz => (.fn rfl)) ?_
    refine DAny.take (i := 2) rfl (by kernel_rfl) [] (by kernel_rfl) (by kernel_rfl) (by kernel_rfl) rfl rfl rfl (v := V.int .i64 a1_238) (fun _ hz => (.fn rfl)) ?_
    refine okG h (fun hb262 h => ?_)
    refine DAny.take (i := 3) rfl (by kernel_rfl) [] (by kernel_rfl) (by kernel_rfl) (by kernel_rfl) rfl rfl rfl (v := V.ptr [14, 19, 0] (0 + Int.toNat a1_238) 0) (fun _ hz => (.idxRefM (f := (fun n => [V.int .i64 n])) (xs := x_260) rfl rfl rfl (hz _ _ rfl rfl) rfl rfl hb262)) ?_
    refine DAny.take (i := 4) rfl (by kernel_rfl) [] (by kernel_rfl) (by kernel_rfl) (by kernel_rfl) rfl rfl rfl (v := V.ref [14, 19, 0] 0 (rws (fun n => [V.int .i64 n]) x_260).length) (fun _ hz => (.fn rfl)) ?_
    refine DAny.take (i := 5) rfl (by kernel_rfl) [] (by kernel_rfl) (by kernel_rfl) (by kernel_rfl) rfl rfl rfl (v := V.ptr [14, 19, 0] (0 + Int.toNat a1_238) 0) (fun _ hz => (.fn rfl)) ?_
    refine DAny.take (i := 6) rfl (by kernel_rfl) [] (by kernel_rfl) (by kernel_rfl) (by kernel_rfl) rfl rfl rfl (v := V.int .i64 0) (fun _ hz => (.fn rfl)) ?_
    refine DAny.nil (by kernel_rfl) ?_
    repeat (first | refine Safe.seq ?_ | refine Safe.skip ?_ | with_reducible refine thenQ.n ?_ | with_reducible refine blockQ.n ?_)
    refine Safe.ret ?_
    repeat (first | with_reducible refine thenQ.r ?_ | with_reducible refine blockQ.r ?_)
    refine inQ.gen (vs := [V.ref [14, 19, 0] 0 (rws (fun n => [V.int .i64 n]) x_260).length, V.ptr [14, 19, 0] (0 + Int.toNat a1_238) 0, V.int .i64 0]) (v := V.tup [V.ref [14, 19, 0] 0 (rws (fun n => [V.int .i64 n]) x_260).length, V.ptr [14, 19, 0] (0 + Int.toNat a1_238) 0, V.int .i64 0]) (.inr rfl) rfl (.tmp (v := V.ref [14, 19, 0] 0 (rws (fun n => [V.int .i64 n]) x_260).length) rfl (.tmp (v := V.ptr [14, 19, 0] (0 + Int.toNat a1_238) 0) rfl (.tmp (v := V.int .i64 0) rfl .nil))) rfl ?_
    refine SafeOps.quiet0 E_good rfl rfl rfl (v := V.tup [V.ref [14, 19, 0] 0 (rws (fun n => [V.int .i64 n]) x_260).length, V.ptr [14, 19, 0] (0 + Int.toNat a1_238) 0, V.int .i64 0]) (.fn rfl) ?_
    refine SafeOps.quiet0 E_good rfl rfl rfl (v := V.ref [14, 19, 0] 0 (rws (fun n => [V.int .i64 n]) x_260).length) (.fn rfl) ?_
    refine SafeOps.quiet0 E_good rfl rfl rfl (v := V.ptr [14, 19, 0] (0 + Int.toNat a1_238) 0) (.fn rfl) ?_
    refine SafeOps.quiet0 E_good rfl rfl rfl (v := V.int .i64 0) (.fn rfl) ?_
    refine SafeOps.quiet0 E_good rfl rfl rfl (v := V.ref [14, 19, 0] 0 (rws (fun n => [V.int .i64 n]) x_260).length) (.fn rfl) ?_
    refine SafeOps.quiet0 E_good rfl rfl rfl (v := V.ptr [14, 19, 0] (0 + Int.toNat a1_238) 0) (.fn rfl) ?_
    refine SafeOps.quiet0 E_good rfl rfl rfl (v := V.int .i64 0) (.fn rfl) ?_
    refine SafeOps.nil ?_
    repeat (first | refine Safe.seq ?_ | refine Safe.skip ?_ | with_reducible refine thenQ.n ?_ | with_reducible refine blockQ.n ?_)
    refine Safe.region ?_
    refine SafeOps.quiet0 E_good rfl rfl rfl (v := V.int .i64 0) (.fn rfl) ?_
    refine SafeOps.quiet0 E_good rfl rfl rfl (v := V.bool false) (.fn rfl) ?_
    refine SafeOps.nil ?_
    repeat (first | refine Safe.seq ?_ | refine Safe.skip ?_ | with_reducible refine thenQ.n ?_ | with_reducible refine blockQ.n ?_)
    refine Safe.condN rfl rfl ?_
    repeat (first | refine Safe.seq ?_ | refine Safe.skip ?_ | with_reducible refine thenQ.n ?_ | with_reducible refine blockQ.n ?_)
    refine Safe.region ?_
    refine SafeOps.quiet0 E_good rfl rfl rfl (v := V.ptr [14, 19, 0] (0 + Int.toNat a1_238) 0) (.fn rfl) ?_
    refine SafeOps.quiet0 E_good rfl rfl rfl (v := V.int .i64 a2_239) (.fn rfl) ?_
    refine SafeOps.quiet0 E_good rfl rfl rfl (v := V.ptr [14, 19, 0] (0 + Int.toNat a1_238) 0) (.fn rfl) ?_
    refine SafeOps.store (z := Obj.rows 1 (rws (fun n => [V.int .i64 n]) (st x_260 a1_238 a2_239)) false) E_good rfl rfl rfl rfl rfl rfl rfl (.rowsM (f := (fun n => [V.int .i64 n])) (xs := x_260) (y := a2_239) hb262 rfl rfl rfl rfl) ?_
    refine SafeOps.see 15 (u := V.ref [14, 19, 0] 0 (rws (fun n => [V.int .i64 n]) (st x_260 a1_238 a2_239)).length) rfl (.len (by simp [rws, st])) ?_
    refine SafeOps.see 8 (u := V.ref [14, 19, 0] 0 (rws (fun n => [V.int .i64 n]) (st x_260 a1_238 a2_239)).length) rfl (.len (by simp [rws, st])) ?_
    refine SafeOps.nil ?_
    repeat (first | refine Safe.seq ?_ | refine Safe.skip ?_ | with_reducible refine thenQ.n ?_ | with_reducible refine blockQ.n ?_)
    refine Safe.region ?_
    refine SafeOps.quiet0 E_good rfl rfl rfl (v := V.ref [14, 19, 0] 0 (rws (fun n => [V.int .i64 n]) (st x_260 a1_238 a2_239)).length) (.fn rfl) ?_
    refine SafeOps.quiet0 E_good rfl rfl rfl (v := V.ref [14, 19, 0] 0 (rws (fun n => [V.int .i64 n]) (st x_260 a1_238 a2_239)).length) (.fn rfl) ?_
    refine SafeOps.quiet0 E_good rfl rfl rfl (v := V.int .i64 0) (.fn rfl) ?_
    refine SafeOps.nil ?_
    repeat (first | refine Safe.seq ?_ | refine Safe.skip ?_ | with_reducible refine thenQ.n ?_ | with_reducible refine blockQ.n ?_)
    refine Safe.ret ?_
    repeat (first | with_reducible refine thenQ.r ?_ | with_reducible refine blockQ.r ?_)
    obtain rfl := Option.some.inj h
    exact retQ.gen (vs := [V.ref [14, 19, 0] 0 (rws (fun n => [V.int .i64 n]) (st x_260 a1_238 a2_239)).length, V.int .i64 0]) rfl (.tmp (v := V.ref [14, 19, 0] 0 (rws (fun n => [V.int .i64 n]) (st x_260 a1_238 a2_239)).length) rfl (.tmp (v := V.int .i64 0) rfl .nil)) (by exact (.tup (.cons (.own rfl rfl) (.cons (.free rfl) .nil)))) (by simp) (.inr rfl)

noncomputable def go_ravelref01_Same_s1 (a0_270 : List Int) (a1_271 : List Int) : (Int) → Option ((Int) ⊕ (Bool))
  | v13_300 =>
    if (decide (v13_300 < (a0_270.length : Int))) = true then
      if 0 ≤ v13_300 ∧ v13_300 < (a0_270.length : Int) then
        if 0 ≤ v13_300 ∧ v13_300 < (a1_271.length : Int) then
          if ((gt a0_270 v13_300) != (gt a1_271 v13_300)) = true then
            inrO (
              some false)
          else
            nextO (IntKind.i64.wrap (v13_300 + 1))
        else none
      else none
    else
      inrO (
        some true)

noncomputable def go_ravelref01_Same (a0_270 : List Int) (a1_271 : List Int) : Option Bool :=
  if ((a0_270.length : Int) != (a1_271.length : Int)) = true then
    some false
  else
    whileO (go_ravelref01_Same_s1 a0_270 a1_271) 0

theorem go_ravelref01_Same_sc (a0_270 : List Int) (a1_271 : List Int) (r : Bool) (h : go_ravelref01_Same a0_270 a1_271 = some r) : SC Try.prog gl 12 [V.sl 1 (rws (fun n => [V.int .i64 n]) a0_270), V.sl 1 (rws (fun n => [V.int .i64 n]) a1_271)] (V.bool r) := by
  rw [go_ravelref01_Same] at h
  refine SC.of E_good Try.func12 rfl (fun _ _ => Try.call12 _ _) rfl ?_
  repeat (first | refine Safe.seq ?_ | refine Safe.skip ?_ | with_reducible refine thenQ.n ?_ | with_reducible refine blockQ.n ?_)
  refine Safe.region ?_
  refine SafeOps.quiet0 E_good rfl rfl rfl (v := V.bool false) (.fn rfl) ?_
  refine SafeOps.nil ?_
  repeat (first | refine Safe.seq ?_ | refine Safe.skip ?_ | with_reducible refine thenQ.n ?_ | with_reducible refine blockQ.n ?_)
  refine Safe.region ?_
  refine SafeOps.quiet0 E_good rfl rfl rfl (v := V.sl 1 (rws (fun n => [V.int .i64 n]) a0_270)) (.fn rfl) ?_
  refine SafeOps.quiet0 E_good rfl rfl rfl (v := V.int .i64 (a0_270.length : Int)) (.fnE rfl lenE) ?_
  refine SafeOps.quiet0 E_good rfl rfl rfl (v := V.sl 1 (rws (fun n => [V.int .i64 n]) a1_271)) (.fn rfl) ?_
  refine SafeOps.quiet0 E_good rfl rfl rfl (v := V.int .i64 (a1_271.length : Int)) (.fnE rfl lenE) ?_
  refine SafeOps.quiet0 E_good rfl rfl rfl (v := V.bool ((a0_270.length : Int) != (a1_271.length : Int))) (.fn rfl) ?_
  refine SafeOps.nil ?_
  repeat (first | refine Safe.seq ?_ | refine Safe.skip ?_ | with_reducible refine thenQ.n ?_ | with_reducible refine blockQ.n ?_)
  refine ifG h (fun hc290 h => ?_) (fun hc290 h => ?_)
  · skip
    refine Safe.condK rfl hc290 ?_
    repeat (first | refine Safe.seq ?_ | refine Safe.skip ?_ | with_reducible refine thenQ.n ?_ | with_reducible refine blockQ.n ?_)
    refine Safe.region ?_
    refine SafeOps.quiet0 E_good rfl rfl rfl (v := V.bool false) (.fn rfl) ?_
    refine SafeOps.nil ?_
    repeat (first | refine Safe.seq ?_ | refine Safe.skip ?_ | with_reducible refine thenQ.n ?_ | with_reducible refine blockQ.n ?_)
    refine Safe.ret ?_
    repeat (first | with_reducible refine thenQ.r ?_ | with_reducible refine blockQ.r ?_)
    obtain rfl := Option.some.inj h
    exact retQ.gen (vs := [V.bool false]) rfl (.tmp (v := V.bool false) rfl .nil) (.free rfl) (by simp) (.inr rfl)
  · skip
    refine Safe.condN rfl hc290 ?_
    repeat (first | refine Safe.seq ?_ | refine Safe.skip ?_ | with_reducible refine thenQ.n ?_ | with_reducible refine blockQ.n ?_)
    refine Safe.region ?_
    refine SafeOps.quiet0 E_good rfl rfl rfl (v := V.sl 1 (rws (fun n => [V.int .i64 n]) a0_270)) (.fn rfl) ?_
    refine SafeOps.quiet0 E_good rfl rfl rfl (v := V.int .i64 (a0_270.length : Int)) (.fnE rfl lenE) ?_
    refine SafeOps.quiet0 E_good rfl rfl rfl (v := V.int .i64 0) (.fn rfl) ?_
    refine SafeOps.nil ?_
    repeat (first | refine Safe.seq ?_ | refine Safe.skip ?_ | with_reducible refine thenQ.n ?_ | with_reducible refine blockQ.n ?_)
    refine Safe.block ?_
    repeat (first | refine Safe.seq ?_ | refine Safe.skip ?_ | with_reducible refine thenQ.n ?_ | with_reducible refine blockQ.n ?_)
    refine Safe.loopW (fun (v13_300 : Int) => ⟨Try.f12.ntmps, [(0, V.sl 1 (rws (fun n => [V.int .i64 n]) a0_270)), (1, V.sl 1 (rws (fun n => [V.int .i64 n]) a1_271)), (12, V.int .i64 (a0_270.length : Int)), (13, V.int .i64 v13_300)], [], [], []⟩) h (.cov ⟨rfl, rfl, (upT_cons (.refl _) (upT_cons (.refl _) (upT_cons (.refl _) (upT_cons (.refl _) upT_nil)))), upOb_nil, upOut_nil, rfl⟩) ?_
    intro v13_300 ohr301 h hr301
    replace h : go_ravelref01_Same_s1 a0_270 a1_271 v13_300 = some ohr301 := h
    rw [go_ravelref01_Same_s1] at h
    repeat (first | refine Safe.seq ?_ | refine Safe.skip ?_ | with_reducible refine thenQ.n ?_ | with_reducible refine blockQ.n ?_)
    refine Safe.region ?_
    refine SafeOps.quiet0 E_good rfl rfl rfl (v := V.bool (decide (v13_300 < (a0_270.length : Int)))) (.fn rfl) ?_
    refine SafeOps.nil ?_
    repeat (first | refine Safe.seq ?_ | refine Safe.skip ?_ | with_reducible refine thenQ.n ?_ | with_reducible refine blockQ.n ?_)
    refine ifG h (fun hc302 h => ?_) (fun hc302 h => ?_)
    · skip
      refine Safe.condK rfl hc302 ?_
      repeat (first | refine Safe.seq ?_ | refine Safe.skip ?_ | with_reducible refine thenQ.n ?_ | with_reducible refine blockQ.n ?_)
      refine Safe.block ?_
      repeat (first | refine Safe.seq ?_ | refine Safe.skip ?_ | with_reducible refine thenQ.n ?_ | with_reducible refine blockQ.n ?_)
      refine Safe.region ?_
      refine SafeOps.quiet0 E_good rfl rfl rfl (v := V.int .i64 v13_300) (.fn rfl) ?_
      refine SafeOps.quiet0 E_good rfl rfl rfl (v := V.int .i64 v13_300) (.fn rfl) ?_
      refine SafeOps.nil ?_
      repeat (first | refine Safe.seq ?_ | refine Safe.skip ?_ | with_reducible refine thenQ.n ?_ | with_reducible refine blockQ.n ?_)
      refine Safe.regionD (n := 9) [] [] E_good mixed rfl ?_
      refine DAny.take (i := 0) rfl (by kernel_rfl) [] (by kernel_rfl) (by kernel_rfl) (by kernel_rfl) rfl rfl rfl (v := V.sl 1 (rws (fun n => [V.int .i64 n]) a0_270)) (fun _ hz => (.fn rfl)) ?_
      refine DAny.take (i := 1) rfl (by kernel_rfl) [] (by kernel_rfl) (by kernel_rfl) (by kernel_rfl) rfl rfl rfl (v := V.int .i64 v13_300) (fun _ hz => (.fn rfl)) ?_
      refine okG h (fun hb303 h => ?_)
      refine DAny.take (i := 2) rfl (by kernel_rfl) [] (by kernel_rfl) (by kernel_rfl) (by kernel_rfl) rfl rfl rfl (v := V.spt 1 (rws (fun n => [V.int .i64 n]) a0_270) (Int.toNat v13_300) 0) (fun _ hz => (.idxSlM (f := (fun n => [V.int .i64 n])) rfl rfl rfl rfl rfl hb303)) ?_
      refine DAny.take (i := 3) rfl (by kernel_rfl) [] (by kernel_rfl) (by kernel_rfl) (by kernel_rfl) rfl rfl rfl (v := V.int .i64 (gt a0_270 v13_300)) (fun _ hz => (.load rfl rfl (.sptM (f := (fun n => [V.int .i64 n])) hb303 rfl) rfl)) ?_
      refine DAny.take (i := 4) rfl (by kernel_rfl) [] (by kernel_rfl) (by kernel_rfl) (by kernel_rfl) rfl rfl rfl (v := V.sl 1 (rws (fun n => [V.int .i64 n]) a1_271)) (fun _ hz => (.fn rfl)) ?_
      refine DAny.take (i := 5) rfl (by kernel_rfl) [] (by kernel_rfl) (by kernel_rfl) (by kernel_rfl) rfl rfl rfl (v := V.int .i64 v13_300) (fun _ hz => (.fn rfl)) ?_
      refine okG h (fun hb304 h => ?_)
      refine DAny.take (i := 6) rfl (by kernel_rfl) [] (by kernel_rfl) (by kernel_rfl) (by kernel_rfl) rfl rfl rfl (v := V.spt 1 (rws (fun n => [V.int .i64 n]) a1_271) (Int.toNat v13_300) 0) (fun _ hz => (.idxSlM (f := (fun n => [V.int .i64 n])) rfl rfl rfl rfl rfl hb304)) ?_
      refine DAny.take (i := 7) rfl (by kernel_rfl) [] (by kernel_rfl) (by kernel_rfl) (by kernel_rfl) rfl rfl rfl (v := V.int .i64 (gt a1_271 v13_300)) (fun _ hz => (.load rfl rfl (.sptM (f := (fun n => [V.int .i64 n])) hb304 rfl) rfl)) ?_
      refine DAny.take (i := 8) rfl (by kernel_rfl) [] (by kernel_rfl) (by kernel_rfl) (by kernel_rfl) rfl rfl rfl (v := V.bool ((gt a0_270 v13_300) != (gt a1_271 v13_300))) (fun _ hz => (.fn rfl)) ?_
      refine DAny.nil (by kernel_rfl) ?_
      repeat (first | refine Safe.seq ?_ | refine Safe.skip ?_ | with_reducible refine thenQ.n ?_ | with_reducible refine blockQ.n ?_)
      refine ifG h (fun hc305 h => ?_) (fun hc305 h => ?_)
      · skip
        refine Safe.condK rfl hc305 ?_
        repeat (first | refine Safe.seq ?_ | refine Safe.skip ?_ | with_reducible refine thenQ.n ?_ | with_reducible refine blockQ.n ?_)
        refine Safe.region ?_
        refine SafeOps.quiet0 E_good rfl rfl rfl (v := V.bool false) (.fn rfl) ?_
        refine SafeOps.nil ?_
        repeat (first | refine Safe.seq ?_ | refine Safe.skip ?_ | with_reducible refine thenQ.n ?_ | with_reducible refine blockQ.n ?_)
        refine Safe.ret ?_
        repeat (first | with_reducible refine thenQ.r ?_ | with_reducible refine blockQ.r ?_)
        replace h := inr_out h hr301
        obtain rfl := Option.some.inj h
        exact retQ.gen (vs := [V.bool false]) rfl (.tmp (v := V.bool false) rfl .nil) (.free rfl) (by simp) (.inr rfl)
      · skip
        refine Safe.condN rfl hc305 ?_
        repeat (first | refine Safe.seq ?_ | refine Safe.skip ?_ | with_reducible refine thenQ.n ?_ | with_reducible refine blockQ.n ?_)
        refine Safe.region ?_
        refine SafeOps.quiet0 E_good rfl rfl rfl (v := V.int .i64 (IntKind.i64.wrap (v13_300 + 1))) (.fn rfl) ?_
        refine SafeOps.quiet0 E_good rfl rfl rfl (v := V.int .i64 (IntKind.i64.wrap (v13_300 + 1))) (.fn rfl) ?_
        refine SafeOps.nil ?_
        repeat (first | refine Safe.seq ?_ | refine Safe.skip ?_ | with_reducible refine thenQ.n ?_ | with_reducible refine blockQ.n ?_)
        exact ⟨_, next_out h, (.cov ⟨rfl, rfl, (upT_cons (.refl _) (upT_cons (.refl _) (upT_cons (.refl _) (upT_cons (.refl _) upT_nil)))), upOb_nil, upOut_nil, rfl⟩)⟩
    · skip
      refine Safe.condN rfl hc302 ?_
      repeat (first | refine Safe.seq ?_ | refine Safe.skip ?_ | with_reducible refine thenQ.n ?_ | with_reducible refine blockQ.n ?_)
      refine Safe.exit ?_
      repeat (first | with_reducible refine thenQ.e ?_ | with_reducible refine blockQ.x rfl ?_ | with_reducible refine blockQ.y rfl ?_)
      replace h := inr_out h hr301
      repeat (first | refine Safe.seq ?_ | refine Safe.skip ?_ | with_reducible refine thenQ.n ?_ | with_reducible refine blockQ.n ?_)
      refine Safe.region ?_
      refine SafeOps.quiet0 E_good rfl rfl rfl (v := V.bool true) (.fn rfl) ?_
      refine SafeOps.nil ?_
      repeat (first | refine Safe.seq ?_ | refine Safe.skip ?_ | with_reducible refine thenQ.n ?_ | with_reducible refine blockQ.n ?_)
      refine Safe.ret ?_
      repeat (first | with_reducible refine thenQ.r ?_ | with_reducible refine blockQ.r ?_)
      obtain rfl := Option.some.inj h
      exact retQ.gen (vs := [V.bool true]) rfl (.tmp (v := V.bool true) rfl .nil) (.free rfl) (by simp) (.inr rfl)

noncomputable def go_cell_Cas_j1 (a1_311 : Int) (a2_312 : Int) (x_337 : List Int) (v11_340 : List Int) : Option ((List Int) × Bool × Int) :=
  some (v11_340, ((gt x_337 a1_311) == a2_312), 0)

noncomputable def go_cell_Cas (a0_310 : List Int) (a1_311 : Int) (a2_312 : Int) (a3_313 : Int) : Option ((List Int) × Bool × Int) :=
  if ((((go_cell_Check a0_310) != 0) || (decide (a1_311 < 0))) || (decide (a1_311 ≥ (a0_310.length : Int)))) = true then
    some ([], false, 1)
  else
    if 0 ≤ a1_311 ∧ a1_311 < (a0_310.length : Int) then
      (go_slices_Clone_api_Mem_int64 a0_310).bind fun x_337 =>
      if 0 ≤ a1_311 ∧ a1_311 < (x_337.length : Int) then
        if ((gt x_337 a1_311) == a2_312) = true then
          go_cell_Cas_j1 a1_311 a2_312 x_337 (st x_337 a1_311 a3_313)
        else
          go_cell_Cas_j1 a1_311 a2_312 x_337 x_337
      else none
    else none

theorem go_cell_Cas_sc (a0_310 : List Int) (a1_311 : Int) (a2_312 : Int) (a3_313 : Int) (r : (List Int) × Bool × Int) (h : go_cell_Cas a0_310 a1_311 a2_312 a3_313 = some r) : SC Try.prog gl 13 [V.sl 1 (rws (fun n => [V.int .i64 n]) a0_310), V.int .i64 a1_311, V.int .i64 a2_312, V.int .i64 a3_313] (V.tup [V.own 1 (rws (fun n => [V.int .i64 n]) r.1), V.bool r.2.1, V.int .i64 r.2.2]) := by
  rw [go_cell_Cas] at h
  refine SC.of E_good Try.func13 rfl (fun _ _ => Try.call13 _ _) rfl ?_
  repeat (first | refine Safe.seq ?_ | refine Safe.skip ?_ | with_reducible refine thenQ.n ?_ | with_reducible refine blockQ.n ?_)
  refine Safe.region ?_
  refine SafeOps.quiet0 E_good rfl rfl rfl (v := V.nils) (.fn rfl) ?_
  refine SafeOps.quiet0 E_good rfl rfl rfl (v := V.bool false) (.fn rfl) ?_
  refine SafeOps.quiet0 E_good rfl rfl rfl (v := V.int .i64 0) (.fn rfl) ?_
  refine SafeOps.nil ?_
  repeat (first | refine Safe.seq ?_ | refine Safe.skip ?_ | with_reducible refine thenQ.n ?_ | with_reducible refine blockQ.n ?_)
  refine Safe.region ?_
  refine SafeOps.quiet0 E_good rfl rfl rfl (v := V.sl 1 (rws (fun n => [V.int .i64 n]) a0_310)) (.fn rfl) ?_
  refine SafeOps.quiet0 E_good rfl rfl rfl (v := V.int .i64 a1_311) (.fn rfl) ?_
  refine SafeOps.inline E_good rfl rfl rfl rfl rfl Try.func27 rfl (fun _ _ => Try.call27 _ _) rfl ?_
  repeat (first | refine Safe.seq ?_ | refine Safe.skip ?_ | with_reducible refine thenQ.n ?_ | with_reducible refine blockQ.n ?_)
  refine Safe.region ?_
  refine SafeOps.quiet0 E_good rfl rfl rfl (v := V.nils) (.fn rfl) ?_
  refine SafeOps.quiet0 E_good rfl rfl rfl (v := V.nilp) (.fn rfl) ?_
  refine SafeOps.quiet0 E_good rfl rfl rfl (v := V.int .i64 0) (.fn rfl) ?_
  refine SafeOps.nil ?_
  repeat (first | refine Safe.seq ?_ | refine Safe.skip ?_ | with_reducible refine thenQ.n ?_ | with_reducible refine blockQ.n ?_)
  refine Safe.region ?_
  refine SafeOps.quiet0 E_good rfl rfl rfl (v := V.sl 1 (rws (fun n => [V.int .i64 n]) a0_310)) (.fn rfl) ?_
  refine SafeOps.quiet0 E_good rfl rfl rfl (v := V.int .i64 a1_311) (.fn rfl) ?_
  refine SafeOps.inline E_good rfl rfl rfl rfl rfl Try.func23 rfl (fun _ _ => Try.call23 _ _) rfl ?_
  repeat (first | refine Safe.seq ?_ | refine Safe.skip ?_ | with_reducible refine thenQ.n ?_ | with_reducible refine blockQ.n ?_)
  refine Safe.region ?_
  refine SafeOps.quiet0 E_good rfl rfl rfl (v := V.nilp) (.fn rfl) ?_
  refine SafeOps.quiet0 E_good rfl rfl rfl (v := V.int .i64 0) (.fn rfl) ?_
  refine SafeOps.nil ?_
  repeat (first | refine Safe.seq ?_ | refine Safe.skip ?_ | with_reducible refine thenQ.n ?_ | with_reducible refine blockQ.n ?_)
  refine Safe.region ?_
  refine SafeOps.quiet0 E_good rfl rfl rfl (v := V.sl 1 (rws (fun n => [V.int .i64 n]) a0_310)) (.fn rfl) ?_
  refine SafeOps.quiet0 E_good rfl rfl rfl (v := V.int .i64 (go_cell_Check a0_310)) (.callP rfl rfl (go_cell_Check_sc a0_310 _ rfl) rfl) ?_
  refine SafeOps.quiet0 E_good rfl rfl rfl (v := V.bool ((go_cell_Check a0_310) != 0)) (.fn rfl) ?_
  refine SafeOps.quiet0 E_good rfl rfl rfl (v := V.bool ((go_cell_Check a0_310) != 0)) (.fn rfl) ?_
  refine SafeOps.bjoin 3 12 (b := (((go_cell_Check a0_310) != 0) || (decide (a1_311 < 0)))) (b1 := true) (b0 := decide (a1_311 < 0)) (fun hc333 K => ?_) (fun hc333 K => ?_) bj_or ?_
  · skip
    refine SafeOps.skip (congrArg (fun b => some (!b)) hc333) rfl rfl ?_
    refine SafeOps.skip (congrArg (fun b => some (!b)) hc333) rfl rfl ?_
    refine SafeOps.quiet0 E_good rfl rfl rfl (v := V.bool true) (.pickK rfl hc333 rfl) ?_
    exact SafeOps.drop' 3 rfl rfl rfl K
  · skip
    refine SafeOps.quiet0 E_good (congrArg (fun b => some (!b)) hc333) rfl rfl (v := V.int .i64 a1_311) (.fn rfl) ?_
    refine SafeOps.quiet0 E_good (congrArg (fun b => some (!b)) hc333) rfl rfl (v := V.bool (decide (a1_311 < 0))) (.fn rfl) ?_
    refine SafeOps.quiet0 E_good rfl rfl rfl (v := V.bool (decide (a1_311 < 0))) (.pickK rfl hc333 rfl) ?_
    exact SafeOps.drop' 3 rfl rfl rfl K
  refine SafeOps.quiet0 E_good rfl rfl rfl (v := V.bool (((go_cell_Check a0_310) != 0) || (decide (a1_311 < 0)))) (.fn rfl) ?_
  refine SafeOps.bjoin 5 18 (b := ((((go_cell_Check a0_310) != 0) || (decide (a1_311 < 0))) || (decide (a1_311 ≥ (a0_310.length : Int))))) (b1 := true) (b0 := decide (a1_311 ≥ (a0_310.length : Int))) (fun hc334 K => ?_) (fun hc334 K => ?_) bj_or ?_
  · skip
    refine SafeOps.skip (congrArg (fun b => some (!b)) hc334) rfl rfl ?_
    refine SafeOps.skip (congrArg (fun b => some (!b)) hc334) rfl rfl ?_
    refine SafeOps.skip (congrArg (fun b => some (!b)) hc334) rfl rfl ?_
    refine SafeOps.skip (congrArg (fun b => some (!b)) hc334) rfl rfl ?_
    refine SafeOps.quiet0 E_good rfl rfl rfl (v := V.bool true) (.pickK rfl hc334 rfl) ?_
    exact SafeOps.drop' 5 rfl rfl rfl K
  · skip
    refine SafeOps.quiet0 E_good (congrArg (fun b => some (!b)) hc334) rfl rfl (v := V.int .i64 a1_311) (.fn rfl) ?_
    refine SafeOps.quiet0 E_good (congrArg (fun b => some (!b)) hc334) rfl rfl (v := V.sl 1 (rws (fun n => [V.int .i64 n]) a0_310)) (.fn rfl) ?_
    refine SafeOps.quiet0 E_good (congrArg (fun b => some (!b)) hc334) rfl rfl (v := V.int .i64 (a0_310.length : Int)) (.fnE rfl lenE) ?_
    refine SafeOps.quiet0 E_good (congrArg (fun b => some (!b)) hc334) rfl rfl (v := V.bool (decide (a1_311 ≥ (a0_310.length : Int)))) (.fn rfl) ?_
    refine SafeOps.quiet0 E_good rfl rfl rfl (v := V.bool (decide (a1_311 ≥ (a0_310.length : Int)))) (.pickK rfl hc334 rfl) ?_
    exact SafeOps.drop' 5 rfl rfl rfl K
  refine SafeOps.nil ?_
  repeat (first | refine Safe.seq ?_ | refine Safe.skip ?_ | with_reducible refine thenQ.n ?_ | with_reducible refine blockQ.n ?_)
  refine ifG h (fun hc335 h => ?_) (fun hc335 h => ?_)
  · skip
    refine Safe.condK rfl hc335 ?_
    repeat (first | refine Safe.seq ?_ | refine Safe.skip ?_ | with_reducible refine thenQ.n ?_ | with_reducible refine blockQ.n ?_)
    refine Safe.region ?_
    refine SafeOps.quiet0 E_good rfl rfl rfl (v := V.nilp) (.fn rfl) ?_
    refine SafeOps.quiet0 E_good rfl rfl rfl (v := V.int .i64 1) (.fn rfl) ?_
    refine SafeOps.nil ?_
    repeat (first | refine Safe.seq ?_ | refine Safe.skip ?_ | with_reducible refine thenQ.n ?_ | with_reducible refine blockQ.n ?_)
    refine Safe.ret ?_
    repeat (first | with_reducible refine thenQ.r ?_ | with_reducible refine blockQ.r ?_)
    refine inQ.gen (vs := [V.nilp, V.int .i64 1]) (v := V.tup [V.nilp, V.int .i64 1]) (.inr rfl) rfl (.tmp (v := V.nilp) rfl (.tmp (v := V.int .i64 1) rfl .nil)) rfl ?_
    refine SafeOps.quiet0 E_good rfl rfl rfl (v := V.tup [V.nilp, V.int .i64 1]) (.fn rfl) ?_
    refine SafeOps.quiet0 E_good rfl rfl rfl (v := V.nilp) (.fn rfl) ?_
    refine SafeOps.quiet0 E_good rfl rfl rfl (v := V.int .i64 1) (.fn rfl) ?_
    refine SafeOps.quiet0 E_good rfl rfl rfl (v := V.nilp) (.fn rfl) ?_
    refine SafeOps.quiet0 E_good rfl rfl rfl (v := V.int .i64 1) (.fn rfl) ?_
    refine SafeOps.nil ?_
    repeat (first | refine Safe.seq ?_ | refine Safe.skip ?_ | with_reducible refine thenQ.n ?_ | with_reducible refine blockQ.n ?_)
    refine Safe.region ?_
    refine SafeOps.quiet0 E_good rfl rfl rfl (v := V.int .i64 1) (.fn rfl) ?_
    refine SafeOps.quiet0 E_good rfl rfl rfl (v := V.bool true) (.fn rfl) ?_
    refine SafeOps.nil ?_
    repeat (first | refine Safe.seq ?_ | refine Safe.skip ?_ | with_reducible refine thenQ.n ?_ | with_reducible refine blockQ.n ?_)
    refine Safe.condK rfl rfl ?_
    repeat (first | refine Safe.seq ?_ | refine Safe.skip ?_ | with_reducible refine thenQ.n ?_ | with_reducible refine blockQ.n ?_)
    refine Safe.region ?_
    refine SafeOps.quiet0 E_good rfl rfl rfl (v := V.int .i64 1) (.fn rfl) ?_
    refine SafeOps.quiet0 E_good rfl rfl rfl (v := V.nils) (.fn rfl) ?_
    refine SafeOps.quiet0 E_good rfl rfl rfl (v := V.nilp) (.fn rfl) ?_
    refine SafeOps.quiet0 E_good rfl rfl rfl (v := V.int .i64 1) (.fn rfl) ?_
    refine SafeOps.nil ?_
    repeat (first | refine Safe.seq ?_ | refine Safe.skip ?_ | with_reducible refine thenQ.n ?_ | with_reducible refine blockQ.n ?_)
    refine Safe.ret ?_
    repeat (first | with_reducible refine thenQ.r ?_ | with_reducible refine blockQ.r ?_)
    refine inQ.gen (vs := [V.nils, V.nilp, V.int .i64 1]) (v := V.tup [V.nils, V.nilp, V.int .i64 1]) (.inr rfl) rfl (.tmp (v := V.nils) rfl (.tmp (v := V.nilp) rfl (.tmp (v := V.int .i64 1) rfl .nil))) rfl ?_
    refine SafeOps.quiet0 E_good rfl rfl rfl (v := V.tup [V.nils, V.nilp, V.int .i64 1]) (.fn rfl) ?_
    refine SafeOps.quiet0 E_good rfl rfl rfl (v := V.nils) (.fn rfl) ?_
    refine SafeOps.quiet0 E_good rfl rfl rfl (v := V.nilp) (.fn rfl) ?_
    refine SafeOps.quiet0 E_good rfl rfl rfl (v := V.int .i64 1) (.fn rfl) ?_
    refine SafeOps.quiet0 E_good rfl rfl rfl (v := V.nils) (.fn rfl) ?_
    refine SafeOps.quiet0 E_good rfl rfl rfl (v := V.nilp) (.fn rfl) ?_
    refine SafeOps.quiet0 E_good rfl rfl rfl (v := V.int .i64 1) (.fn rfl) ?_
    refine SafeOps.nil ?_
    repeat (first | refine Safe.seq ?_ | refine Safe.skip ?_ | with_reducible refine thenQ.n ?_ | with_reducible refine blockQ.n ?_)
    refine Safe.region ?_
    refine SafeOps.quiet0 E_good rfl rfl rfl (v := V.int .i64 1) (.fn rfl) ?_
    refine SafeOps.quiet0 E_good rfl rfl rfl (v := V.bool true) (.fn rfl) ?_
    refine SafeOps.nil ?_
    repeat (first | refine Safe.seq ?_ | refine Safe.skip ?_ | with_reducible refine thenQ.n ?_ | with_reducible refine blockQ.n ?_)
    refine Safe.condK rfl rfl ?_
    repeat (first | refine Safe.seq ?_ | refine Safe.skip ?_ | with_reducible refine thenQ.n ?_ | with_reducible refine blockQ.n ?_)
    refine Safe.region ?_
    refine SafeOps.quiet0 E_good rfl rfl rfl (v := V.int .i64 1) (.fn rfl) ?_
    refine SafeOps.quiet0 E_good rfl rfl rfl (v := V.nils) (.fn rfl) ?_
    refine SafeOps.quiet0 E_good rfl rfl rfl (v := V.bool false) (.fn rfl) ?_
    refine SafeOps.quiet0 E_good rfl rfl rfl (v := V.int .i64 1) (.fn rfl) ?_
    refine SafeOps.nil ?_
    repeat (first | refine Safe.seq ?_ | refine Safe.skip ?_ | with_reducible refine thenQ.n ?_ | with_reducible refine blockQ.n ?_)
    refine Safe.ret ?_
    repeat (first | with_reducible refine thenQ.r ?_ | with_reducible refine blockQ.r ?_)
    obtain rfl := Option.some.inj h
    exact retQ.gen (vs := [V.nils, V.bool false, V.int .i64 1]) rfl (.tmp (v := V.nils) rfl (.tmp (v := V.bool false) rfl (.tmp (v := V.int .i64 1) rfl .nil))) (by exact (.tup (.cons (.nils _) (.cons (.free rfl) (.cons (.free rfl) .nil))))) (by simp) (.inr rfl)
  · skip
    refine Safe.condN rfl hc335 ?_
    repeat (first | refine Safe.seq ?_ | refine Safe.skip ?_ | with_reducible refine thenQ.n ?_ | with_reducible refine blockQ.n ?_)
    refine Safe.region ?_
    refine SafeOps.quiet0 E_good rfl rfl rfl (v := V.sl 1 (rws (fun n => [V.int .i64 n]) a0_310)) (.fn rfl) ?_
    refine SafeOps.quiet0 E_good rfl rfl rfl (v := V.int .i64 a1_311) (.fn rfl) ?_
    refine okG h (fun hb336 h => ?_)
    refine SafeOps.quiet0 E_good rfl rfl rfl (v := V.spt 1 (rws (fun n => [V.int .i64 n]) a0_310) (Int.toNat a1_311) 0) (.idxSlM (f := (fun n => [V.int .i64 n])) rfl rfl rfl rfl rfl hb336) ?_
    refine SafeOps.quiet0 E_good rfl rfl rfl (v := V.spt 1 (rws (fun n => [V.int .i64 n]) a0_310) (Int.toNat a1_311) 0) (.fn rfl) ?_
    refine SafeOps.quiet0 E_good rfl rfl rfl (v := V.int .i64 0) (.fn rfl) ?_
    refine SafeOps.nil ?_
    repeat (first | refine Safe.seq ?_ | refine Safe.skip ?_ | with_reducible refine thenQ.n ?_ | with_reducible refine blockQ.n ?_)
    refine Safe.ret ?_
    repeat (first | with_reducible refine thenQ.r ?_ | with_reducible refine blockQ.r ?_)
    refine inQ.gen (vs := [V.spt 1 (rws (fun n => [V.int .i64 n]) a0_310) (Int.toNat a1_311) 0, V.int .i64 0]) (v := V.tup [V.spt 1 (rws (fun n => [V.int .i64 n]) a0_310) (Int.toNat a1_311) 0, V.int .i64 0]) (.inr rfl) rfl (.tmp (v := V.spt 1 (rws (fun n => [V.int .i64 n]) a0_310) (Int.toNat a1_311) 0) rfl (.tmp (v := V.int .i64 0) rfl .nil)) rfl ?_
    refine SafeOps.quiet0 E_good rfl rfl rfl (v := V.tup [V.spt 1 (rws (fun n => [V.int .i64 n]) a0_310) (Int.toNat a1_311) 0, V.int .i64 0]) (.fn rfl) ?_
    refine SafeOps.quiet0 E_good rfl rfl rfl (v := V.spt 1 (rws (fun n => [V.int .i64 n]) a0_310) (Int.toNat a1_311) 0) (.fn rfl) ?_
    refine SafeOps.quiet0 E_good rfl rfl rfl (v := V.int .i64 0) (.fn rfl) ?_
    refine SafeOps.quiet0 E_good rfl rfl rfl (v := V.spt 1 (rws (fun n => [V.int .i64 n]) a0_310) (Int.toNat a1_311) 0) (.fn rfl) ?_
    refine SafeOps.quiet0 E_good rfl rfl rfl (v := V.int .i64 0) (.fn rfl) ?_
    refine SafeOps.nil ?_
    repeat (first | refine Safe.seq ?_ | refine Safe.skip ?_ | with_reducible refine thenQ.n ?_ | with_reducible refine blockQ.n ?_)
    refine Safe.region ?_
    refine SafeOps.quiet0 E_good rfl rfl rfl (v := V.int .i64 0) (.fn rfl) ?_
    refine SafeOps.quiet0 E_good rfl rfl rfl (v := V.bool false) (.fn rfl) ?_
    refine SafeOps.nil ?_
    repeat (first | refine Safe.seq ?_ | refine Safe.skip ?_ | with_reducible refine thenQ.n ?_ | with_reducible refine blockQ.n ?_)
    refine Safe.condN rfl rfl ?_
    repeat (first | refine Safe.seq ?_ | refine Safe.skip ?_ | with_reducible refine thenQ.n ?_ | with_reducible refine blockQ.n ?_)
    refine Safe.region ?_
    refine SafeOps.quiet0 E_good rfl rfl rfl (v := V.sl 1 (rws (fun n => [V.int .i64 n]) a0_310)) (.fn rfl) ?_
    refine bindG h ?_
    intro x_337 he338 h
    refine SafeOps.quiet E_good rfl rfl rfl (v := V.ref [18, 19, 0] 0 (rws (fun n => [V.int .i64 n]) x_337).length) (.callP rfl rfl (go_slices_Clone_api_Mem_int64_sc a0_310 _ he338) rfl) rfl ?_
    refine SafeOps.quiet0 E_good rfl rfl rfl (v := V.ref [18, 19, 0] 0 (rws (fun n => [V.int .i64 n]) x_337).length) (.fn rfl) ?_
    refine SafeOps.nil ?_
    repeat (first | refine Safe.seq ?_ | refine Safe.skip ?_ | with_reducible refine thenQ.n ?_ | with_reducible refine blockQ.n ?_)
    refine Safe.regionD (n := 7) [] [] E_good mixed rfl ?_
    refine DAny.take (i := 0) rfl (by kernel_rfl) [] (by kernel_rfl) (by kernel_rfl) (by kernel_rfl) rfl rfl rfl (v := V.ref [18, 19, 0] 0 (rws (fun n => [V.int .i64 n]) x_337).length) (fun _ hz => (.fn rfl)) ?_
    refine DAny.take (i := 1) rfl (by kernel_rfl) [] (by kernel_rfl) (by kernel_rfl) (by kernel_rfl) rfl rfl rfl (v := V.ref [18, 19, 0] 0 (rws (fun n => [V.int .i64 n]) x_337).length) (fun _ hz => (.fn rfl)) ?_
    refine DAny.take (i := 2) rfl (by kernel_rfl) [] (by kernel_rfl) (by kernel_rfl) (by kernel_rfl) rfl rfl rfl (v := V.int .i64 a1_311) (fun _ hz => (.fn rfl)) ?_
    refine okG h (fun hb339 h => ?_)
    refine DAny.take (i := 3) rfl (by kernel_rfl) [] (by kernel_rfl) (by kernel_rfl) (by kernel_rfl) rfl rfl rfl (v := V.ptr [18, 19, 0] (0 + Int.toNat a1_311) 0) (fun _ hz => (.idxRefM (f := (fun n => [V.int .i64 n])) (xs := x_337) rfl rfl rfl (hz _ _ rfl rfl) rfl rfl hb339)) ?_
    refine DAny.take (i := 4) rfl (by kernel_rfl) [] (by kernel_rfl) (by kernel_rfl) (by kernel_rfl) rfl rfl rfl (v := V.ref [18, 19, 0] 0 (rws (fun n => [V.int .i64 n]) x_337).length) (fun _ hz => (.fn rfl)) ?_
    refine DAny.take (i := 5) rfl (by kernel_rfl) [] (by kernel_rfl) (by kernel_rfl) (by kernel_rfl) rfl rfl rfl (v := V.ptr [18, 19, 0] (0 + Int.toNat a1_311) 0) (fun _ hz => (.fn rfl)) ?_
    refine DAny.take (i := 6) rfl (by kernel_rfl) [] (by kernel_rfl) (by kernel_rfl) (by kernel_rfl) rfl rfl rfl (v := V.int .i64 0) (fun _ hz => (.fn rfl)) ?_
    refine DAny.nil (by kernel_rfl) ?_
    repeat (first | refine Safe.seq ?_ | refine Safe.skip ?_ | with_reducible refine thenQ.n ?_ | with_reducible refine blockQ.n ?_)
    refine Safe.ret ?_
    repeat (first | with_reducible refine thenQ.r ?_ | with_reducible refine blockQ.r ?_)
    refine inQ.gen (vs := [V.ref [18, 19, 0] 0 (rws (fun n => [V.int .i64 n]) x_337).length, V.ptr [18, 19, 0] (0 + Int.toNat a1_311) 0, V.int .i64 0]) (v := V.tup [V.ref [18, 19, 0] 0 (rws (fun n => [V.int .i64 n]) x_337).length, V.ptr [18, 19, 0] (0 + Int.toNat a1_311) 0, V.int .i64 0]) (.inr rfl) rfl (.tmp (v := V.ref [18, 19, 0] 0 (rws (fun n => [V.int .i64 n]) x_337).length) rfl (.tmp (v := V.ptr [18, 19, 0] (0 + Int.toNat a1_311) 0) rfl (.tmp (v := V.int .i64 0) rfl .nil))) rfl ?_
    refine SafeOps.quiet0 E_good rfl rfl rfl (v := V.tup [V.ref [18, 19, 0] 0 (rws (fun n => [V.int .i64 n]) x_337).length, V.ptr [18, 19, 0] (0 + Int.toNat a1_311) 0, V.int .i64 0]) (.fn rfl) ?_
    refine SafeOps.quiet0 E_good rfl rfl rfl (v := V.ref [18, 19, 0] 0 (rws (fun n => [V.int .i64 n]) x_337).length) (.fn rfl) ?_
    refine SafeOps.quiet0 E_good rfl rfl rfl (v := V.ptr [18, 19, 0] (0 + Int.toNat a1_311) 0) (.fn rfl) ?_
    refine SafeOps.quiet0 E_good rfl rfl rfl (v := V.int .i64 0) (.fn rfl) ?_
    refine SafeOps.quiet0 E_good rfl rfl rfl (v := V.ref [18, 19, 0] 0 (rws (fun n => [V.int .i64 n]) x_337).length) (.fn rfl) ?_
    refine SafeOps.quiet0 E_good rfl rfl rfl (v := V.ptr [18, 19, 0] (0 + Int.toNat a1_311) 0) (.fn rfl) ?_
    refine SafeOps.quiet0 E_good rfl rfl rfl (v := V.int .i64 0) (.fn rfl) ?_
    refine SafeOps.nil ?_
    repeat (first | refine Safe.seq ?_ | refine Safe.skip ?_ | with_reducible refine thenQ.n ?_ | with_reducible refine blockQ.n ?_)
    refine Safe.region ?_
    refine SafeOps.quiet0 E_good rfl rfl rfl (v := V.int .i64 0) (.fn rfl) ?_
    refine SafeOps.quiet0 E_good rfl rfl rfl (v := V.bool false) (.fn rfl) ?_
    refine SafeOps.nil ?_
    repeat (first | refine Safe.seq ?_ | refine Safe.skip ?_ | with_reducible refine thenQ.n ?_ | with_reducible refine blockQ.n ?_)
    refine Safe.condN rfl rfl ?_
    repeat (first | refine Safe.seq ?_ | refine Safe.skip ?_ | with_reducible refine thenQ.n ?_ | with_reducible refine blockQ.n ?_)
    refine Safe.region ?_
    refine SafeOps.quiet0 E_good rfl rfl rfl (v := V.ptr [18, 19, 0] (0 + Int.toNat a1_311) 0) (.fn rfl) ?_
    refine SafeOps.quiet0 E_good rfl rfl rfl (v := V.ptr [18, 19, 0] (0 + Int.toNat a1_311) 0) (.fn rfl) ?_
    refine SafeOps.quiet0 E_good rfl rfl rfl (v := V.int .i64 (gt x_337 a1_311)) (.load rfl rfl (.rowsM (f := (fun n => [V.int .i64 n])) (xs := x_337) hb339 rfl rfl) rfl) ?_
    refine SafeOps.quiet0 E_good rfl rfl rfl (v := V.int .i64 a2_312) (.fn rfl) ?_
    refine SafeOps.quiet0 E_good rfl rfl rfl (v := V.bool ((gt x_337 a1_311) == a2_312)) (.fn rfl) ?_
    refine SafeOps.quiet0 E_good rfl rfl rfl (v := V.bool ((gt x_337 a1_311) == a2_312)) (.fn rfl) ?_
    refine SafeOps.nil ?_
    repeat (first | refine Safe.seq ?_ | refine Safe.skip ?_ | with_reducible refine thenQ.n ?_ | with_reducible refine blockQ.n ?_)
    refine Safe.region ?_
    refine SafeOps.quiet0 E_good rfl rfl rfl (v := V.bool ((gt x_337 a1_311) == a2_312)) (.fn rfl) ?_
    refine SafeOps.nil ?_
    repeat (first | refine Safe.seq ?_ | refine Safe.skip ?_ | with_reducible refine thenQ.n ?_ | with_reducible refine blockQ.n ?_)
    refine Safe.joinT (fun (v11_340 : List Int) => go_cell_Cas_j1 a1_311 a2_312 x_337 v11_340 = some r) (fun (v11_340 : List Int) => ⟨Try.f13.ntmps, [(11, V.ref [18, 19, 0] 0 (rws (fun n => [V.int .i64 n]) v11_340).length), (14, V.bool ((gt x_337 a1_311) == a2_312))], [([18, 19, 0], Obj.rows 1 (rws (fun n => [V.int .i64 n]) v11_340) false)], [], []⟩) ?_ (fun HJ341 => ?_)
    · intro v11_340 h
      replace h : go_cell_Cas_j1 a1_311 a2_312 x_337 v11_340 = some r := h
      rw [go_cell_Cas_j1] at h
      repeat (first | refine Safe.seq ?_ | refine Safe.skip ?_ | with_reducible refine thenQ.n ?_ | with_reducible refine blockQ.n ?_)
      refine Safe.region ?_
      refine SafeOps.quiet0 E_good rfl rfl rfl (v := V.ref [18, 19, 0] 0 (rws (fun n => [V.int .i64 n]) v11_340).length) (.fn rfl) ?_
      refine SafeOps.quiet0 E_good rfl rfl rfl (v := V.bool ((gt x_337 a1_311) == a2_312)) (.fn rfl) ?_
      refine SafeOps.quiet0 E_good rfl rfl rfl (v := V.ref [18, 19, 0] 0 (rws (fun n => [V.int .i64 n]) v11_340).length) (.fn rfl) ?_
      refine SafeOps.quiet0 E_good rfl rfl rfl (v := V.bool ((gt x_337 a1_311) == a2_312)) (.fn rfl) ?_
      refine SafeOps.quiet0 E_good rfl rfl rfl (v := V.int .i64 0) (.fn rfl) ?_
      refine SafeOps.nil ?_
      repeat (first | refine Safe.seq ?_ | refine Safe.skip ?_ | with_reducible refine thenQ.n ?_ | with_reducible refine blockQ.n ?_)
      refine Safe.ret ?_
      repeat (first | with_reducible refine thenQ.r ?_ | with_reducible refine blockQ.r ?_)
      obtain rfl := Option.some.inj h
      exact retQ.gen (vs := [V.ref [18, 19, 0] 0 (rws (fun n => [V.int .i64 n]) v11_340).length, V.bool ((gt x_337 a1_311) == a2_312), V.int .i64 0]) rfl (.tmp (v := V.ref [18, 19, 0] 0 (rws (fun n => [V.int .i64 n]) v11_340).length) rfl (.tmp (v := V.bool ((gt x_337 a1_311) == a2_312)) rfl (.tmp (v := V.int .i64 0) rfl .nil))) (by exact (.tup (.cons (.own rfl rfl) (.cons (.free rfl) (.cons (.free rfl) .nil))))) (by simp) (.inr rfl)
    · skip
      refine ifG h (fun hc342 h => ?_) (fun hc342 h => ?_)
      · skip
        refine Safe.condK rfl hc342 ?_
        repeat (first | refine Safe.seq ?_ | refine Safe.skip ?_ | with_reducible refine thenQ.n ?_ | with_reducible refine blockQ.n ?_)
        refine Safe.region ?_
        refine SafeOps.quiet0 E_good rfl rfl rfl (v := V.ptr [18, 19, 0] (0 + Int.toNat a1_311) 0) (.fn rfl) ?_
        refine SafeOps.quiet0 E_good rfl rfl rfl (v := V.int .i64 a3_313) (.fn rfl) ?_
        refine SafeOps.quiet0 E_good rfl rfl rfl (v := V.ptr [18, 19, 0] (0 + Int.toNat a1_311) 0) (.fn rfl) ?_
        refine SafeOps.store (z := Obj.rows 1 (rws (fun n => [V.int .i64 n]) (st x_337 a1_311 a3_313)) false) E_good rfl rfl rfl rfl rfl rfl rfl (.rowsM (f := (fun n => [V.int .i64 n])) (xs := x_337) (y := a3_313) hb339 rfl rfl rfl rfl) ?_
        refine SafeOps.see 19 (u := V.ref [18, 19, 0] 0 (rws (fun n => [V.int .i64 n]) (st x_337 a1_311 a3_313)).length) rfl (.len (by simp [rws, st])) ?_
        refine SafeOps.see 11 (u := V.ref [18, 19, 0] 0 (rws (fun n => [V.int .i64 n]) (st x_337 a1_311 a3_313)).length) rfl (.len (by simp [rws, st])) ?_
        refine SafeOps.nil ?_
        repeat (first | refine Safe.skip ?_ | with_reducible refine thenQ.n ?_ | with_reducible refine blockQ.n ?_)
        exact Safe.got (HJ341 (st x_337 a1_311 a3_313) h) (.cov ⟨rfl, rfl, (upT_cons (.refl _) (upT_cons (.refl _) upT_nil)), (upOb_cons rfl (.refl _) upOb_nil), upOut_nil, rfl⟩)
      · skip
        refine Safe.condN rfl hc342 ?_
        repeat (first | refine Safe.skip ?_ | with_reducible refine thenQ.n ?_ | with_reducible refine blockQ.n ?_)
        exact Safe.got (HJ341 (x_337) h) (.cov ⟨rfl, rfl, (upT_cons (.refl _) (upT_cons (.refl _) upT_nil)), (upOb_cons rfl (.refl _) upOb_nil), upOut_nil, rfl⟩)

noncomputable def go_ravellaw01_CellEach_j1 (a0_1 : List Int) (x_417 : Int) (x_418 : Int) (x_421 : Int) (x_422 : Int) (b_427 : Bool) : Option Bool :=
  if ((b_427 && (x_417 == x_421)) && (x_418 == x_422)) = true then
    (go_ravelref01_Same a0_1 ([] ++ a0_1)).bind fun x_434 =>
    some x_434
  else
    some false

noncomputable def go_ravellaw01_CellEach (a0_1 : List Int) (a1_2 : Int) (a2_3 : Int) (a3_4 : Int) : Option Bool :=
  (go_ravellaw01_live).bind fun x_378 =>
  if (!x_378) = true then
    some false
  else
    if (decide ((a0_1.length : Int) > 300)) = true then
      some x_378
    else
      if few ([] ++ a0_1).length then
        (go_cell_Load a0_1 a1_2).bind fun (x_383, x_384) =>
        (go_ravelref01_Do a0_1 (api_Mic.mk 0 a1_2 0 0)).bind fun (x_386, x_387, x_388) =>
        if ((x_383 != x_387) || (x_384 != x_388)) = true then
          some false
        else
          (go_cell_Store a0_1 a1_2 a2_3).bind fun (x_392, x_393) =>
          (go_ravelref01_Do a0_1 (api_Mic.mk 1 a1_2 a2_3 0)).bind fun (x_395, x_396, x_397) =>
          (go_ravelref01_Same x_392 x_395).bind fun x_399 =>
          if ((!x_399) || (x_393 != x_397)) = true then
            some false
          else
            (go_cell_Cas a0_1 a1_2 a2_3 a3_4).bind fun (x_403, x_404, x_405) =>
            (go_ravelref01_Do a0_1 (api_Mic.mk 2 a1_2 a2_3 a3_4)).bind fun (x_407, x_408, x_409) =>
            (go_ravelref01_Same x_403 x_407).bind fun x_411 =>
            if (((!x_411) || (!(x_404 == (x_408 == 1)))) || (x_405 != x_409)) = true then
              some false
            else
              (go_cell_Add a0_1 a1_2 a2_3).bind fun (x_416, x_417, x_418) =>
              (go_ravelref01_Do a0_1 (api_Mic.mk 3 a1_2 a2_3 0)).bind fun (x_420, x_421, x_422) =>
              if x_378 = true then
                (go_ravelref01_Same x_416 x_420).bind fun x_436 =>
                go_ravellaw01_CellEach_j1 a0_1 x_417 x_418 x_421 x_422 x_436
              else
                go_ravellaw01_CellEach_j1 a0_1 x_417 x_418 x_421 x_422 false
      else none

theorem go_ravellaw01_CellEach_sc (a0_1 : List Int) (a1_2 : Int) (a2_3 : Int) (a3_4 : Int) (r : Bool) (h : go_ravellaw01_CellEach a0_1 a1_2 a2_3 a3_4 = some r) : SC Try.prog gl 3 [V.sl 1 (rws (fun n => [V.int .i64 n]) a0_1), V.int .i64 a1_2, V.int .i64 a2_3, V.int .i64 a3_4] (V.bool r) := by
  rw [go_ravellaw01_CellEach] at h
  refine SC.of E_good Try.func3 rfl (fun _ _ => Try.call3 _ _) rfl ?_
  repeat (first | refine Safe.seq ?_ | refine Safe.skip ?_ | with_reducible refine thenQ.n ?_ | with_reducible refine blockQ.n ?_)
  refine Safe.region ?_
  refine SafeOps.quiet0 E_good rfl rfl rfl (v := V.bool false) (.fn rfl) ?_
  refine SafeOps.nil ?_
  repeat (first | refine Safe.seq ?_ | refine Safe.skip ?_ | with_reducible refine thenQ.n ?_ | with_reducible refine blockQ.n ?_)
  refine Safe.region ?_
  refine bindG h ?_
  intro x_378 he379 h
  refine SafeOps.quiet0 E_good rfl rfl rfl (v := V.bool x_378) (.callP rfl rfl (go_ravellaw01_live_sc  _ he379) rfl) ?_
  refine SafeOps.quiet0 E_good rfl rfl rfl (v := V.bool x_378) (.fn rfl) ?_
  refine SafeOps.nil ?_
  repeat (first | refine Safe.seq ?_ | refine Safe.skip ?_ | with_reducible refine thenQ.n ?_ | with_reducible refine blockQ.n ?_)
  refine Safe.region ?_
  refine SafeOps.quiet0 E_good rfl rfl rfl (v := V.bool x_378) (.fn rfl) ?_
  refine SafeOps.quiet0 E_good rfl rfl rfl (v := V.bool (!x_378)) (.fn rfl) ?_
  refine SafeOps.nil ?_
  repeat (first | refine Safe.seq ?_ | refine Safe.skip ?_ | with_reducible refine thenQ.n ?_ | with_reducible refine blockQ.n ?_)
  refine ifG h (fun hc380 h => ?_) (fun hc380 h => ?_)
  · skip
    refine Safe.condK rfl hc380 ?_
    repeat (first | refine Safe.seq ?_ | refine Safe.skip ?_ | with_reducible refine thenQ.n ?_ | with_reducible refine blockQ.n ?_)
    refine Safe.region ?_
    refine SafeOps.quiet0 E_good rfl rfl rfl (v := V.bool false) (.fn rfl) ?_
    refine SafeOps.nil ?_
    repeat (first | refine Safe.seq ?_ | refine Safe.skip ?_ | with_reducible refine thenQ.n ?_ | with_reducible refine blockQ.n ?_)
    refine Safe.ret ?_
    repeat (first | with_reducible refine thenQ.r ?_ | with_reducible refine blockQ.r ?_)
    obtain rfl := Option.some.inj h
    exact retQ.gen (vs := [V.bool false]) rfl (.tmp (v := V.bool false) rfl .nil) (.free rfl) (by simp) (.inr rfl)
  · skip
    refine Safe.condN rfl hc380 ?_
    repeat (first | refine Safe.seq ?_ | refine Safe.skip ?_ | with_reducible refine thenQ.n ?_ | with_reducible refine blockQ.n ?_)
    refine Safe.region ?_
    refine SafeOps.quiet0 E_good rfl rfl rfl (v := V.sl 1 (rws (fun n => [V.int .i64 n]) a0_1)) (.fn rfl) ?_
    refine SafeOps.quiet0 E_good rfl rfl rfl (v := V.int .i64 (a0_1.length : Int)) (.fnE rfl lenE) ?_
    refine SafeOps.quiet0 E_good rfl rfl rfl (v := V.bool (decide ((a0_1.length : Int) > 300))) (.fn rfl) ?_
    refine SafeOps.nil ?_
    repeat (first | refine Safe.seq ?_ | refine Safe.skip ?_ | with_reducible refine thenQ.n ?_ | with_reducible refine blockQ.n ?_)
    refine ifG h (fun hc381 h => ?_) (fun hc381 h => ?_)
    · skip
      refine Safe.condK rfl hc381 ?_
      repeat (first | refine Safe.seq ?_ | refine Safe.skip ?_ | with_reducible refine thenQ.n ?_ | with_reducible refine blockQ.n ?_)
      refine Safe.region ?_
      refine SafeOps.quiet0 E_good rfl rfl rfl (v := V.bool x_378) (.fn rfl) ?_
      refine SafeOps.quiet0 E_good rfl rfl rfl (v := V.bool x_378) (.fn rfl) ?_
      refine SafeOps.nil ?_
      repeat (first | refine Safe.seq ?_ | refine Safe.skip ?_ | with_reducible refine thenQ.n ?_ | with_reducible refine blockQ.n ?_)
      refine Safe.ret ?_
      repeat (first | with_reducible refine thenQ.r ?_ | with_reducible refine blockQ.r ?_)
      obtain rfl := Option.some.inj h
      exact retQ.gen (vs := [V.bool x_378]) rfl (.tmp (v := V.bool x_378) rfl .nil) (.free rfl) (by simp) (.inr rfl)
    · skip
      refine Safe.condN rfl hc381 ?_
      repeat (first | refine Safe.seq ?_ | refine Safe.skip ?_ | with_reducible refine thenQ.n ?_ | with_reducible refine blockQ.n ?_)
      refine Safe.region ?_
      refine SafeOps.quiet0 E_good rfl rfl rfl (v := V.sl 1 (rws (fun n => [V.int .i64 n]) a0_1)) (.fn rfl) ?_
      refine okG h (fun hb382 h => ?_)
      refine SafeOps.appendM (fun n => [V.int .i64 n]) (xs := []) (ys := a0_1) E_good rfl rfl rfl rfl rfl rfl rfl rfl rfl .nils (.sl _) (fun _ => rfl) hb382 ?_
      refine SafeOps.quiet0 E_good rfl rfl rfl (v := V.ref [28] 0 (rws (fun n => [V.int .i64 n]) ([] ++ a0_1)).length) (.fn rfl) ?_
      refine SafeOps.nil ?_
      repeat (first | refine Safe.seq ?_ | refine Safe.skip ?_ | with_reducible refine thenQ.n ?_ | with_reducible refine blockQ.n ?_)
      refine Safe.region ?_
      refine SafeOps.quiet0 E_good rfl rfl rfl (v := V.sl 1 (rws (fun n => [V.int .i64 n]) a0_1)) (.fn rfl) ?_
      refine SafeOps.quiet0 E_good rfl rfl rfl (v := V.int .i64 a1_2) (.fn rfl) ?_
      refine bindG h ?_
      rintro ⟨x_383, x_384⟩ he385 h
      refine SafeOps.quiet0 E_good rfl rfl rfl (v := V.tup [V.int .i64 x_383, V.int .i64 x_384]) (.callP rfl rfl (go_cell_Load_sc a0_1 a1_2 _ he385) rfl) ?_
      refine SafeOps.quiet0 E_good rfl rfl rfl (v := V.tup [V.int .i64 x_383, V.int .i64 x_384]) (.fn rfl) ?_
      refine SafeOps.quiet0 E_good rfl rfl rfl (v := V.int .i64 x_383) (.fn rfl) ?_
      refine SafeOps.quiet0 E_good rfl rfl rfl (v := V.int .i64 x_384) (.fn rfl) ?_
      refine SafeOps.quiet0 E_good rfl rfl rfl (v := V.int .i64 x_383) (.fn rfl) ?_
      refine SafeOps.quiet0 E_good rfl rfl rfl (v := V.int .i64 x_384) (.fn rfl) ?_
      refine SafeOps.nil ?_
      repeat (first | refine Safe.seq ?_ | refine Safe.skip ?_ | with_reducible refine thenQ.n ?_ | with_reducible refine blockQ.n ?_)
      refine Safe.region ?_
      refine SafeOps.quiet0 E_good rfl rfl rfl (v := V.sl 1 (rws (fun n => [V.int .i64 n]) a0_1)) (.fn rfl) ?_
      refine SafeOps.quiet0 E_good rfl rfl rfl (v := V.int .i64 a1_2) (.fn rfl) ?_
      refine SafeOps.quiet0 E_good rfl rfl rfl (v := V.agg [V.int .i64 0, V.int .i64 a1_2, V.int .i64 0, V.int .i64 0]) (.fn rfl) ?_
      refine bindG h ?_
      rintro ⟨x_386, x_387, x_388⟩ he389 h
      refine SafeOps.quiet E_good rfl rfl rfl (v := V.tup [V.ref [39, 0] 0 (rws (fun n => [V.int .i64 n]) x_386).length, V.int .i64 x_387, V.int .i64 x_388]) (.callP rfl rfl (go_ravelref01_Do_sc a0_1 (api_Mic.mk 0 a1_2 0 0) _ he389) rfl) rfl ?_
      refine SafeOps.quiet0 E_good rfl rfl rfl (v := V.tup [V.ref [39, 0] 0 (rws (fun n => [V.int .i64 n]) x_386).length, V.int .i64 x_387, V.int .i64 x_388]) (.fn rfl) ?_
      refine SafeOps.quiet0 E_good rfl rfl rfl (v := V.ref [39, 0] 0 (rws (fun n => [V.int .i64 n]) x_386).length) (.fn rfl) ?_
      refine SafeOps.quiet0 E_good rfl rfl rfl (v := V.int .i64 x_387) (.fn rfl) ?_
      refine SafeOps.quiet0 E_good rfl rfl rfl (v := V.int .i64 x_388) (.fn rfl) ?_
      refine SafeOps.quiet0 E_good rfl rfl rfl (v := V.ref [39, 0] 0 (rws (fun n => [V.int .i64 n]) x_386).length) (.fn rfl) ?_
      refine SafeOps.quiet0 E_good rfl rfl rfl (v := V.int .i64 x_387) (.fn rfl) ?_
      refine SafeOps.quiet0 E_good rfl rfl rfl (v := V.int .i64 x_388) (.fn rfl) ?_
      refine SafeOps.nil ?_
      repeat (first | refine Safe.seq ?_ | refine Safe.skip ?_ | with_reducible refine thenQ.n ?_ | with_reducible refine blockQ.n ?_)
      refine Safe.region ?_
      refine SafeOps.quiet0 E_good rfl rfl rfl (v := V.int .i64 x_383) (.fn rfl) ?_
      refine SafeOps.quiet0 E_good rfl rfl rfl (v := V.int .i64 x_387) (.fn rfl) ?_
      refine SafeOps.quiet0 E_good rfl rfl rfl (v := V.bool (x_383 != x_387)) (.fn rfl) ?_
      refine SafeOps.quiet0 E_good rfl rfl rfl (v := V.bool (x_383 != x_387)) (.fn rfl) ?_
      refine SafeOps.bjoin 4 50 (b := ((x_383 != x_387) || (x_384 != x_388))) (b1 := true) (b0 := (x_384 != x_388)) (fun hc390 K => ?_) (fun hc390 K => ?_) bj_or ?_
      · skip
        refine SafeOps.skip (congrArg (fun b => some (!b)) hc390) rfl rfl ?_
        refine SafeOps.skip (congrArg (fun b => some (!b)) hc390) rfl rfl ?_
        refine SafeOps.skip (congrArg (fun b => some (!b)) hc390) rfl rfl ?_
        refine SafeOps.quiet0 E_good rfl rfl rfl (v := V.bool true) (.pickK rfl hc390 rfl) ?_
        exact SafeOps.drop' 4 rfl rfl rfl K
      · skip
        refine SafeOps.quiet0 E_good (congrArg (fun b => some (!b)) hc390) rfl rfl (v := V.int .i64 x_384) (.fn rfl) ?_
        refine SafeOps.quiet0 E_good (congrArg (fun b => some (!b)) hc390) rfl rfl (v := V.int .i64 x_388) (.fn rfl) ?_
        refine SafeOps.quiet0 E_good (congrArg (fun b => some (!b)) hc390) rfl rfl (v := V.bool (x_384 != x_388)) (.fn rfl) ?_
        refine SafeOps.quiet0 E_good rfl rfl rfl (v := V.bool (x_384 != x_388)) (.pickK rfl hc390 rfl) ?_
        exact SafeOps.drop' 4 rfl rfl rfl K
      refine SafeOps.nil ?_
      repeat (first | refine Safe.seq ?_ | refine Safe.skip ?_ | with_reducible refine thenQ.n ?_ | with_reducible refine blockQ.n ?_)
      refine ifG h (fun hc391 h => ?_) (fun hc391 h => ?_)
      · skip
        refine Safe.condK rfl hc391 ?_
        repeat (first | refine Safe.seq ?_ | refine Safe.skip ?_ | with_reducible refine thenQ.n ?_ | with_reducible refine blockQ.n ?_)
        refine Safe.region ?_
        refine SafeOps.quiet0 E_good rfl rfl rfl (v := V.bool false) (.fn rfl) ?_
        refine SafeOps.nil ?_
        repeat (first | refine Safe.seq ?_ | refine Safe.skip ?_ | with_reducible refine thenQ.n ?_ | with_reducible refine blockQ.n ?_)
        refine Safe.ret ?_
        repeat (first | with_reducible refine thenQ.r ?_ | with_reducible refine blockQ.r ?_)
        obtain rfl := Option.some.inj h
        exact retQ.gen (vs := [V.bool false]) rfl (.tmp (v := V.bool false) rfl .nil) (.free rfl) (by simp) (.inr rfl)
      · skip
        refine Safe.condN rfl hc391 ?_
        repeat (first | refine Safe.seq ?_ | refine Safe.skip ?_ | with_reducible refine thenQ.n ?_ | with_reducible refine blockQ.n ?_)
        refine Safe.region ?_
        refine SafeOps.quiet0 E_good rfl rfl rfl (v := V.sl 1 (rws (fun n => [V.int .i64 n]) a0_1)) (.fn rfl) ?_
        refine SafeOps.quiet0 E_good rfl rfl rfl (v := V.int .i64 a1_2) (.fn rfl) ?_
        refine SafeOps.quiet0 E_good rfl rfl rfl (v := V.int .i64 a2_3) (.fn rfl) ?_
        refine bindG h ?_
        rintro ⟨x_392, x_393⟩ he394 h
        refine SafeOps.quiet E_good rfl rfl rfl (v := V.tup [V.ref [55, 0] 0 (rws (fun n => [V.int .i64 n]) x_392).length, V.int .i64 x_393]) (.callP rfl rfl (go_cell_Store_sc a0_1 a1_2 a2_3 _ he394) rfl) rfl ?_
        refine SafeOps.quiet0 E_good rfl rfl rfl (v := V.tup [V.ref [55, 0] 0 (rws (fun n => [V.int .i64 n]) x_392).length, V.int .i64 x_393]) (.fn rfl) ?_
        refine SafeOps.quiet0 E_good rfl rfl rfl (v := V.ref [55, 0] 0 (rws (fun n => [V.int .i64 n]) x_392).length) (.fn rfl) ?_
        refine SafeOps.quiet0 E_good rfl rfl rfl (v := V.int .i64 x_393) (.fn rfl) ?_
        refine SafeOps.quiet0 E_good rfl rfl rfl (v := V.ref [55, 0] 0 (rws (fun n => [V.int .i64 n]) x_392).length) (.fn rfl) ?_
        refine SafeOps.quiet0 E_good rfl rfl rfl (v := V.int .i64 x_393) (.fn rfl) ?_
        refine SafeOps.nil ?_
        repeat (first | refine Safe.seq ?_ | refine Safe.skip ?_ | with_reducible refine thenQ.n ?_ | with_reducible refine blockQ.n ?_)
        refine Safe.region ?_
        refine SafeOps.quiet0 E_good rfl rfl rfl (v := V.sl 1 (rws (fun n => [V.int .i64 n]) a0_1)) (.fn rfl) ?_
        refine SafeOps.quiet0 E_good rfl rfl rfl (v := V.int .i64 a1_2) (.fn rfl) ?_
        refine SafeOps.quiet0 E_good rfl rfl rfl (v := V.int .i64 a2_3) (.fn rfl) ?_
        refine SafeOps.quiet0 E_good rfl rfl rfl (v := V.agg [V.int .i64 1, V.int .i64 a1_2, V.int .i64 a2_3, V.int .i64 0]) (.fn rfl) ?_
        refine bindG h ?_
        rintro ⟨x_395, x_396, x_397⟩ he398 h
        refine SafeOps.quiet E_good rfl rfl rfl (v := V.tup [V.ref [63, 0] 0 (rws (fun n => [V.int .i64 n]) x_395).length, V.int .i64 x_396, V.int .i64 x_397]) (.callP rfl rfl (go_ravelref01_Do_sc a0_1 (api_Mic.mk 1 a1_2 a2_3 0) _ he398) rfl) rfl ?_
        refine SafeOps.quiet0 E_good rfl rfl rfl (v := V.tup [V.ref [63, 0] 0 (rws (fun n => [V.int .i64 n]) x_395).length, V.int .i64 x_396, V.int .i64 x_397]) (.fn rfl) ?_
        refine SafeOps.quiet0 E_good rfl rfl rfl (v := V.ref [63, 0] 0 (rws (fun n => [V.int .i64 n]) x_395).length) (.fn rfl) ?_
        refine SafeOps.quiet0 E_good rfl rfl rfl (v := V.int .i64 x_396) (.fn rfl) ?_
        refine SafeOps.quiet0 E_good rfl rfl rfl (v := V.int .i64 x_397) (.fn rfl) ?_
        refine SafeOps.quiet0 E_good rfl rfl rfl (v := V.ref [63, 0] 0 (rws (fun n => [V.int .i64 n]) x_395).length) (.fn rfl) ?_
        refine SafeOps.quiet0 E_good rfl rfl rfl (v := V.int .i64 x_396) (.fn rfl) ?_
        refine SafeOps.quiet0 E_good rfl rfl rfl (v := V.int .i64 x_397) (.fn rfl) ?_
        refine SafeOps.nil ?_
        repeat (first | refine Safe.seq ?_ | refine Safe.skip ?_ | with_reducible refine thenQ.n ?_ | with_reducible refine blockQ.n ?_)
        refine Safe.region ?_
        refine SafeOps.quiet0 E_good rfl rfl rfl (v := V.ref [55, 0] 0 (rws (fun n => [V.int .i64 n]) x_392).length) (.fn rfl) ?_
        refine SafeOps.quiet0 E_good rfl rfl rfl (v := V.ref [63, 0] 0 (rws (fun n => [V.int .i64 n]) x_395).length) (.fn rfl) ?_
        refine bindG h ?_
        intro x_399 he400 h
        refine SafeOps.quiet0 E_good rfl rfl rfl (v := V.bool x_399) (.callS rfl (.cons (.full rfl rfl) (.cons (.full rfl rfl) .nil)) (go_ravelref01_Same_sc x_392 x_395 _ he400) (.plain rfl) rfl) ?_
        refine SafeOps.quiet0 E_good rfl rfl rfl (v := V.bool (!x_399)) (.fn rfl) ?_
        refine SafeOps.quiet0 E_good rfl rfl rfl (v := V.bool (!x_399)) (.fn rfl) ?_
        refine SafeOps.bjoin 4 75 (b := ((!x_399) || (x_393 != x_397))) (b1 := true) (b0 := (x_393 != x_397)) (fun hc401 K => ?_) (fun hc401 K => ?_) bj_or ?_
        · skip
          refine SafeOps.skip (congrArg (fun b => some (!b)) hc401) rfl rfl ?_
          refine SafeOps.skip (congrArg (fun b => some (!b)) hc401) rfl rfl ?_
          refine SafeOps.skip (congrArg (fun b => some (!b)) hc401) rfl rfl ?_
          refine SafeOps.quiet0 E_good rfl rfl rfl (v := V.bool true) (.pickK rfl hc401 rfl) ?_
          exact SafeOps.drop' 4 rfl rfl rfl K
        · skip
          refine SafeOps.quiet0 E_good (congrArg (fun b => some (!b)) hc401) rfl rfl (v := V.int .i64 x_393) (.fn rfl) ?_
          refine SafeOps.quiet0 E_good (congrArg (fun b => some (!b)) hc401) rfl rfl (v := V.int .i64 x_397) (.fn rfl) ?_
          refine SafeOps.quiet0 E_good (congrArg (fun b => some (!b)) hc401) rfl rfl (v := V.bool (x_393 != x_397)) (.fn rfl) ?_
          refine SafeOps.quiet0 E_good rfl rfl rfl (v := V.bool (x_393 != x_397)) (.pickK rfl hc401 rfl) ?_
          exact SafeOps.drop' 4 rfl rfl rfl K
        refine SafeOps.nil ?_
        repeat (first | refine Safe.seq ?_ | refine Safe.skip ?_ | with_reducible refine thenQ.n ?_ | with_reducible refine blockQ.n ?_)
        refine ifG h (fun hc402 h => ?_) (fun hc402 h => ?_)
        · skip
          refine Safe.condK rfl hc402 ?_
          repeat (first | refine Safe.seq ?_ | refine Safe.skip ?_ | with_reducible refine thenQ.n ?_ | with_reducible refine blockQ.n ?_)
          refine Safe.region ?_
          refine SafeOps.quiet0 E_good rfl rfl rfl (v := V.bool false) (.fn rfl) ?_
          refine SafeOps.nil ?_
          repeat (first | refine Safe.seq ?_ | refine Safe.skip ?_ | with_reducible refine thenQ.n ?_ | with_reducible refine blockQ.n ?_)
          refine Safe.ret ?_
          repeat (first | with_reducible refine thenQ.r ?_ | with_reducible refine blockQ.r ?_)
          obtain rfl := Option.some.inj h
          exact retQ.gen (vs := [V.bool false]) rfl (.tmp (v := V.bool false) rfl .nil) (.free rfl) (by simp) (.inr rfl)
        · skip
          refine Safe.condN rfl hc402 ?_
          repeat (first | refine Safe.seq ?_ | refine Safe.skip ?_ | with_reducible refine thenQ.n ?_ | with_reducible refine blockQ.n ?_)
          refine Safe.region ?_
          refine SafeOps.quiet0 E_good rfl rfl rfl (v := V.sl 1 (rws (fun n => [V.int .i64 n]) a0_1)) (.fn rfl) ?_
          refine SafeOps.quiet0 E_good rfl rfl rfl (v := V.int .i64 a1_2) (.fn rfl) ?_
          refine SafeOps.quiet0 E_good rfl rfl rfl (v := V.int .i64 a2_3) (.fn rfl) ?_
          refine SafeOps.quiet0 E_good rfl rfl rfl (v := V.int .i64 a3_4) (.fn rfl) ?_
          refine bindG h ?_
          rintro ⟨x_403, x_404, x_405⟩ he406 h
          refine SafeOps.quiet E_good rfl rfl rfl (v := V.tup [V.ref [81, 0] 0 (rws (fun n => [V.int .i64 n]) x_403).length, V.bool x_404, V.int .i64 x_405]) (.callP rfl rfl (go_cell_Cas_sc a0_1 a1_2 a2_3 a3_4 _ he406) rfl) rfl ?_
          refine SafeOps.quiet0 E_good rfl rfl rfl (v := V.tup [V.ref [81, 0] 0 (rws (fun n => [V.int .i64 n]) x_403).length, V.bool x_404, V.int .i64 x_405]) (.fn rfl) ?_
          refine SafeOps.quiet0 E_good rfl rfl rfl (v := V.ref [81, 0] 0 (rws (fun n => [V.int .i64 n]) x_403).length) (.fn rfl) ?_
          refine SafeOps.quiet0 E_good rfl rfl rfl (v := V.bool x_404) (.fn rfl) ?_
          refine SafeOps.quiet0 E_good rfl rfl rfl (v := V.int .i64 x_405) (.fn rfl) ?_
          refine SafeOps.quiet0 E_good rfl rfl rfl (v := V.ref [81, 0] 0 (rws (fun n => [V.int .i64 n]) x_403).length) (.fn rfl) ?_
          refine SafeOps.quiet0 E_good rfl rfl rfl (v := V.bool x_404) (.fn rfl) ?_
          refine SafeOps.quiet0 E_good rfl rfl rfl (v := V.int .i64 x_405) (.fn rfl) ?_
          refine SafeOps.nil ?_
          repeat (first | refine Safe.seq ?_ | refine Safe.skip ?_ | with_reducible refine thenQ.n ?_ | with_reducible refine blockQ.n ?_)
          refine Safe.region ?_
          refine SafeOps.quiet0 E_good rfl rfl rfl (v := V.sl 1 (rws (fun n => [V.int .i64 n]) a0_1)) (.fn rfl) ?_
          refine SafeOps.quiet0 E_good rfl rfl rfl (v := V.int .i64 a1_2) (.fn rfl) ?_
          refine SafeOps.quiet0 E_good rfl rfl rfl (v := V.int .i64 a2_3) (.fn rfl) ?_
          refine SafeOps.quiet0 E_good rfl rfl rfl (v := V.int .i64 a3_4) (.fn rfl) ?_
          refine SafeOps.quiet0 E_good rfl rfl rfl (v := V.agg [V.int .i64 2, V.int .i64 a1_2, V.int .i64 a2_3, V.int .i64 a3_4]) (.fn rfl) ?_
          refine bindG h ?_
          rintro ⟨x_407, x_408, x_409⟩ he410 h
          refine SafeOps.quiet E_good rfl rfl rfl (v := V.tup [V.ref [91, 0] 0 (rws (fun n => [V.int .i64 n]) x_407).length, V.int .i64 x_408, V.int .i64 x_409]) (.callP rfl rfl (go_ravelref01_Do_sc a0_1 (api_Mic.mk 2 a1_2 a2_3 a3_4) _ he410) rfl) rfl ?_
          refine SafeOps.quiet0 E_good rfl rfl rfl (v := V.tup [V.ref [91, 0] 0 (rws (fun n => [V.int .i64 n]) x_407).length, V.int .i64 x_408, V.int .i64 x_409]) (.fn rfl) ?_
          refine SafeOps.quiet0 E_good rfl rfl rfl (v := V.ref [91, 0] 0 (rws (fun n => [V.int .i64 n]) x_407).length) (.fn rfl) ?_
          refine SafeOps.quiet0 E_good rfl rfl rfl (v := V.int .i64 x_408) (.fn rfl) ?_
          refine SafeOps.quiet0 E_good rfl rfl rfl (v := V.int .i64 x_409) (.fn rfl) ?_
          refine SafeOps.quiet0 E_good rfl rfl rfl (v := V.ref [91, 0] 0 (rws (fun n => [V.int .i64 n]) x_407).length) (.fn rfl) ?_
          refine SafeOps.quiet0 E_good rfl rfl rfl (v := V.int .i64 x_408) (.fn rfl) ?_
          refine SafeOps.quiet0 E_good rfl rfl rfl (v := V.int .i64 x_409) (.fn rfl) ?_
          refine SafeOps.nil ?_
          repeat (first | refine Safe.seq ?_ | refine Safe.skip ?_ | with_reducible refine thenQ.n ?_ | with_reducible refine blockQ.n ?_)
          refine Safe.region ?_
          refine SafeOps.quiet0 E_good rfl rfl rfl (v := V.ref [81, 0] 0 (rws (fun n => [V.int .i64 n]) x_403).length) (.fn rfl) ?_
          refine SafeOps.quiet0 E_good rfl rfl rfl (v := V.ref [91, 0] 0 (rws (fun n => [V.int .i64 n]) x_407).length) (.fn rfl) ?_
          refine bindG h ?_
          intro x_411 he412 h
          refine SafeOps.quiet0 E_good rfl rfl rfl (v := V.bool x_411) (.callS rfl (.cons (.full rfl rfl) (.cons (.full rfl rfl) .nil)) (go_ravelref01_Same_sc x_403 x_407 _ he412) (.plain rfl) rfl) ?_
          refine SafeOps.quiet0 E_good rfl rfl rfl (v := V.bool (!x_411)) (.fn rfl) ?_
          refine SafeOps.quiet0 E_good rfl rfl rfl (v := V.bool (!x_411)) (.fn rfl) ?_
          refine SafeOps.bjoin 5 104 (b := ((!x_411) || (!(x_404 == (x_408 == 1))))) (b1 := true) (b0 := (!(x_404 == (x_408 == 1)))) (fun hc413 K => ?_) (fun hc413 K => ?_) bj_or ?_
          · skip
            refine SafeOps.skip (congrArg (fun b => some (!b)) hc413) rfl rfl ?_
            refine SafeOps.skip (congrArg (fun b => some (!b)) hc413) rfl rfl ?_
            refine SafeOps.skip (congrArg (fun b => some (!b)) hc413) rfl rfl ?_
            refine SafeOps.skip (congrArg (fun b => some (!b)) hc413) rfl rfl ?_
            refine SafeOps.quiet0 E_good rfl rfl rfl (v := V.bool true) (.pickK rfl hc413 rfl) ?_
            exact SafeOps.drop' 5 rfl rfl rfl K
          · skip
            refine SafeOps.quiet0 E_good (congrArg (fun b => some (!b)) hc413) rfl rfl (v := V.bool x_404) (.fn rfl) ?_
            refine SafeOps.quiet0 E_good (congrArg (fun b => some (!b)) hc413) rfl rfl (v := V.int .i64 x_408) (.fn rfl) ?_
            refine SafeOps.quiet0 E_good (congrArg (fun b => some (!b)) hc413) rfl rfl (v := V.bool (x_408 == 1)) (.fn rfl) ?_
            refine SafeOps.quiet0 E_good (congrArg (fun b => some (!b)) hc413) rfl rfl (v := V.bool (!(x_404 == (x_408 == 1)))) (.fn rfl) ?_
            refine SafeOps.quiet0 E_good rfl rfl rfl (v := V.bool (!(x_404 == (x_408 == 1)))) (.pickK rfl hc413 rfl) ?_
            exact SafeOps.drop' 5 rfl rfl rfl K
          refine SafeOps.quiet0 E_good rfl rfl rfl (v := V.bool ((!x_411) || (!(x_404 == (x_408 == 1))))) (.fn rfl) ?_
          refine SafeOps.bjoin 4 109 (b := (((!x_411) || (!(x_404 == (x_408 == 1)))) || (x_405 != x_409))) (b1 := true) (b0 := (x_405 != x_409)) (fun hc414 K => ?_) (fun hc414 K => ?_) bj_or ?_
          · skip
            refine SafeOps.skip (congrArg (fun b => some (!b)) hc414) rfl rfl ?_
            refine SafeOps.skip (congrArg (fun b => some (!b)) hc414) rfl rfl ?_
            refine SafeOps.skip (congrArg (fun b => some (!b)) hc414) rfl rfl ?_
            refine SafeOps.quiet0 E_good rfl rfl rfl (v := V.bool true) (.pickK rfl hc414 rfl) ?_
            exact SafeOps.drop' 4 rfl rfl rfl K
          · skip
            refine SafeOps.quiet0 E_good (congrArg (fun b => some (!b)) hc414) rfl rfl (v := V.int .i64 x_405) (.fn rfl) ?_
            refine SafeOps.quiet0 E_good (congrArg (fun b => some (!b)) hc414) rfl rfl (v := V.int .i64 x_409) (.fn rfl) ?_
            refine SafeOps.quiet0 E_good (congrArg (fun b => some (!b)) hc414) rfl rfl (v := V.bool (x_405 != x_409)) (.fn rfl) ?_
            refine SafeOps.quiet0 E_good rfl rfl rfl (v := V.bool (x_405 != x_409)) (.pickK rfl hc414 rfl) ?_
            exact SafeOps.drop' 4 rfl rfl rfl K
          refine SafeOps.nil ?_
          repeat (first | refine Safe.seq ?_ | refine Safe.skip ?_ | with_reducible refine thenQ.n ?_ | with_reducible refine blockQ.n ?_)
          refine ifG h (fun hc415 h => ?_) (fun hc415 h => ?_)
          · skip
            refine Safe.condK rfl hc415 ?_
            repeat (first | refine Safe.seq ?_ | refine Safe.skip ?_ | with_reducible refine thenQ.n ?_ | with_reducible refine blockQ.n ?_)
            refine Safe.region ?_
            refine SafeOps.quiet0 E_good rfl rfl rfl (v := V.bool false) (.fn rfl) ?_
            refine SafeOps.nil ?_
            repeat (first | refine Safe.seq ?_ | refine Safe.skip ?_ | with_reducible refine thenQ.n ?_ | with_reducible refine blockQ.n ?_)
            refine Safe.ret ?_
            repeat (first | with_reducible refine thenQ.r ?_ | with_reducible refine blockQ.r ?_)
            obtain rfl := Option.some.inj h
            exact retQ.gen (vs := [V.bool false]) rfl (.tmp (v := V.bool false) rfl .nil) (.free rfl) (by simp) (.inr rfl)
          · skip
            refine Safe.condN rfl hc415 ?_
            repeat (first | refine Safe.seq ?_ | refine Safe.skip ?_ | with_reducible refine thenQ.n ?_ | with_reducible refine blockQ.n ?_)
            refine Safe.region ?_
            refine SafeOps.quiet0 E_good rfl rfl rfl (v := V.sl 1 (rws (fun n => [V.int .i64 n]) a0_1)) (.fn rfl) ?_
            refine SafeOps.quiet0 E_good rfl rfl rfl (v := V.int .i64 a1_2) (.fn rfl) ?_
            refine SafeOps.quiet0 E_good rfl rfl rfl (v := V.int .i64 a2_3) (.fn rfl) ?_
            refine bindG h ?_
            rintro ⟨x_416, x_417, x_418⟩ he419 h
            refine SafeOps.quiet E_good rfl rfl rfl (v := V.tup [V.ref [114, 0] 0 (rws (fun n => [V.int .i64 n]) x_416).length, V.int .i64 x_417, V.int .i64 x_418]) (.callP rfl rfl (go_cell_Add_sc a0_1 a1_2 a2_3 _ he419) rfl) rfl ?_
            refine SafeOps.quiet0 E_good rfl rfl rfl (v := V.tup [V.ref [114, 0] 0 (rws (fun n => [V.int .i64 n]) x_416).length, V.int .i64 x_417, V.int .i64 x_418]) (.fn rfl) ?_
            refine SafeOps.quiet0 E_good rfl rfl rfl (v := V.ref [114, 0] 0 (rws (fun n => [V.int .i64 n]) x_416).length) (.fn rfl) ?_
            refine SafeOps.quiet0 E_good rfl rfl rfl (v := V.int .i64 x_417) (.fn rfl) ?_
            refine SafeOps.quiet0 E_good rfl rfl rfl (v := V.int .i64 x_418) (.fn rfl) ?_
            refine SafeOps.quiet0 E_good rfl rfl rfl (v := V.ref [114, 0] 0 (rws (fun n => [V.int .i64 n]) x_416).length) (.fn rfl) ?_
            refine SafeOps.quiet0 E_good rfl rfl rfl (v := V.int .i64 x_417) (.fn rfl) ?_
            refine SafeOps.quiet0 E_good rfl rfl rfl (v := V.int .i64 x_418) (.fn rfl) ?_
            refine SafeOps.nil ?_
            repeat (first | refine Safe.seq ?_ | refine Safe.skip ?_ | with_reducible refine thenQ.n ?_ | with_reducible refine blockQ.n ?_)
            refine Safe.region ?_
            refine SafeOps.quiet0 E_good rfl rfl rfl (v := V.sl 1 (rws (fun n => [V.int .i64 n]) a0_1)) (.fn rfl) ?_
            refine SafeOps.quiet0 E_good rfl rfl rfl (v := V.int .i64 a1_2) (.fn rfl) ?_
            refine SafeOps.quiet0 E_good rfl rfl rfl (v := V.int .i64 a2_3) (.fn rfl) ?_
            refine SafeOps.quiet0 E_good rfl rfl rfl (v := V.agg [V.int .i64 3, V.int .i64 a1_2, V.int .i64 a2_3, V.int .i64 0]) (.fn rfl) ?_
            refine bindG h ?_
            rintro ⟨x_420, x_421, x_422⟩ he423 h
            refine SafeOps.quiet E_good rfl rfl rfl (v := V.tup [V.ref [123, 0] 0 (rws (fun n => [V.int .i64 n]) x_420).length, V.int .i64 x_421, V.int .i64 x_422]) (.callP rfl rfl (go_ravelref01_Do_sc a0_1 (api_Mic.mk 3 a1_2 a2_3 0) _ he423) rfl) rfl ?_
            refine SafeOps.quiet0 E_good rfl rfl rfl (v := V.tup [V.ref [123, 0] 0 (rws (fun n => [V.int .i64 n]) x_420).length, V.int .i64 x_421, V.int .i64 x_422]) (.fn rfl) ?_
            refine SafeOps.quiet0 E_good rfl rfl rfl (v := V.ref [123, 0] 0 (rws (fun n => [V.int .i64 n]) x_420).length) (.fn rfl) ?_
            refine SafeOps.quiet0 E_good rfl rfl rfl (v := V.int .i64 x_421) (.fn rfl) ?_
            refine SafeOps.quiet0 E_good rfl rfl rfl (v := V.int .i64 x_422) (.fn rfl) ?_
            refine SafeOps.quiet0 E_good rfl rfl rfl (v := V.ref [123, 0] 0 (rws (fun n => [V.int .i64 n]) x_420).length) (.fn rfl) ?_
            refine SafeOps.quiet0 E_good rfl rfl rfl (v := V.int .i64 x_421) (.fn rfl) ?_
            refine SafeOps.quiet0 E_good rfl rfl rfl (v := V.int .i64 x_422) (.fn rfl) ?_
            refine SafeOps.nil ?_
            repeat (first | refine Safe.seq ?_ | refine Safe.skip ?_ | with_reducible refine thenQ.n ?_ | with_reducible refine blockQ.n ?_)
            refine Safe.region ?_
            refine SafeOps.quiet0 E_good rfl rfl rfl (v := V.bool x_378) (.fn rfl) ?_
            refine SafeOps.quiet0 E_good rfl rfl rfl (v := V.bool x_378) (.fn rfl) ?_
            refine SafeOps.bsplit 4 132 (fun b_427 => go_ravellaw01_CellEach_j1 a0_1 x_417 x_418 x_421 x_422 b_427 = some r) (fun HJ428 => ?_) (fun b_427 h => ?_)
            · refine ifG h (fun hc424 h => ?_) (fun hc424 h => ?_)
              · skip
                refine SafeOps.quiet0 E_good (congrArg some hc424) rfl rfl (v := V.ref [114, 0] 0 (rws (fun n => [V.int .i64 n]) x_416).length) (.fn rfl) ?_
                refine SafeOps.quiet0 E_good (congrArg some hc424) rfl rfl (v := V.ref [123, 0] 0 (rws (fun n => [V.int .i64 n]) x_420).length) (.fn rfl) ?_
                refine bindG h ?_
                intro x_436 he437 h
                refine SafeOps.quiet0 E_good (congrArg some hc424) rfl rfl (v := V.bool x_436) (.callS rfl (.cons (.full rfl rfl) (.cons (.full rfl rfl) .nil)) (go_ravelref01_Same_sc x_416 x_420 _ he437) (.plain rfl) rfl) ?_
                refine SafeOps.quiet0 E_good rfl rfl rfl (v := V.bool x_436) (.pickK rfl hc424 rfl) ?_
                exact SafeOps.drop' 4 rfl rfl rfl (HJ428 _ h)
              · skip
                refine SafeOps.skip (congrArg some hc424) rfl rfl ?_
                refine SafeOps.skip (congrArg some hc424) rfl rfl ?_
                refine SafeOps.skip (congrArg some hc424) rfl rfl ?_
                refine SafeOps.quiet0 E_good rfl rfl rfl (v := V.bool false) (.pickK rfl hc424 rfl) ?_
                exact SafeOps.drop' 4 rfl rfl rfl (HJ428 _ h)
            · replace h : go_ravellaw01_CellEach_j1 a0_1 x_417 x_418 x_421 x_422 b_427 = some r := h
              rw [go_ravellaw01_CellEach_j1] at h
              refine SafeOps.quiet0 E_good rfl rfl rfl (v := V.bool b_427) (.fn rfl) ?_
              refine SafeOps.bjoin 4 137 (b := (b_427 && (x_417 == x_421))) (b1 := (x_417 == x_421)) (b0 := false) (fun hc429 K => ?_) (fun hc429 K => ?_) bj_and ?_
              · skip
                refine SafeOps.quiet0 E_good (congrArg some hc429) rfl rfl (v := V.int .i64 x_417) (.fn rfl) ?_
                refine SafeOps.quiet0 E_good (congrArg some hc429) rfl rfl (v := V.int .i64 x_421) (.fn rfl) ?_
                refine SafeOps.quiet0 E_good (congrArg some hc429) rfl rfl (v := V.bool (x_417 == x_421)) (.fn rfl) ?_
                refine SafeOps.quiet0 E_good rfl rfl rfl (v := V.bool (x_417 == x_421)) (.pickK rfl hc429 rfl) ?_
                exact SafeOps.drop' 4 rfl rfl rfl K
              · skip
                refine SafeOps.skip (congrArg some hc429) rfl rfl ?_
                refine SafeOps.skip (congrArg some hc429) rfl rfl ?_
                refine SafeOps.skip (congrArg some hc429) rfl rfl ?_
                refine SafeOps.quiet0 E_good rfl rfl rfl (v := V.bool false) (.pickK rfl hc429 rfl) ?_
                exact SafeOps.drop' 4 rfl rfl rfl K
              refine SafeOps.quiet0 E_good rfl rfl rfl (v := V.bool (b_427 && (x_417 == x_421))) (.fn rfl) ?_
              refine SafeOps.bjoin 4 142 (b := ((b_427 && (x_417 == x_421)) && (x_418 == x_422))) (b1 := (x_418 == x_422)) (b0 := false) (fun hc430 K => ?_) (fun hc430 K => ?_) bj_and ?_
              · skip
                refine SafeOps.quiet0 E_good (congrArg some hc430) rfl rfl (v := V.int .i64 x_418) (.fn rfl) ?_
                refine SafeOps.quiet0 E_good (congrArg some hc430) rfl rfl (v := V.int .i64 x_422) (.fn rfl) ?_
                refine SafeOps.quiet0 E_good (congrArg some hc430) rfl rfl (v := V.bool (x_418 == x_422)) (.fn rfl) ?_
                refine SafeOps.quiet0 E_good rfl rfl rfl (v := V.bool (x_418 == x_422)) (.pickK rfl hc430 rfl) ?_
                exact SafeOps.drop' 4 rfl rfl rfl K
              · skip
                refine SafeOps.skip (congrArg some hc430) rfl rfl ?_
                refine SafeOps.skip (congrArg some hc430) rfl rfl ?_
                refine SafeOps.skip (congrArg some hc430) rfl rfl ?_
                refine SafeOps.quiet0 E_good rfl rfl rfl (v := V.bool false) (.pickK rfl hc430 rfl) ?_
                exact SafeOps.drop' 4 rfl rfl rfl K
              refine SafeOps.quiet0 E_good rfl rfl rfl (v := V.bool ((b_427 && (x_417 == x_421)) && (x_418 == x_422))) (.fn rfl) ?_
              refine ifG h (fun hc431 h => ?_) (fun hc431 h => ?_)
              · skip
                refine SafeOps.quiet0 E_good (congrArg some hc431) rfl rfl (v := V.sl 1 (rws (fun n => [V.int .i64 n]) a0_1)) (.fn rfl) ?_
                refine SafeOps.quiet0 E_good (congrArg some hc431) rfl rfl (v := V.ref [28] 0 (rws (fun n => [V.int .i64 n]) ([] ++ a0_1)).length) (.fn rfl) ?_
                refine bindG h ?_
                intro x_434 he435 h
                refine SafeOps.quiet0 E_good (congrArg some hc431) rfl rfl (v := V.bool x_434) (.callS rfl (.cons (.free rfl) (.cons (.full rfl rfl) .nil)) (go_ravelref01_Same_sc a0_1 ([] ++ a0_1) _ he435) (.plain rfl) rfl) ?_
                refine SafeOps.quiet0 E_good rfl rfl rfl (v := V.bool x_434) (.pickK rfl hc431 rfl) ?_
                refine SafeOps.quiet0 E_good rfl rfl rfl (v := V.bool x_434) (.fn rfl) ?_
                refine SafeOps.nil ?_
                repeat (first | refine Safe.seq ?_ | refine Safe.skip ?_ | with_reducible refine thenQ.n ?_ | with_reducible refine blockQ.n ?_)
                refine Safe.ret ?_
                repeat (first | with_reducible refine thenQ.r ?_ | with_reducible refine blockQ.r ?_)
                obtain rfl := Option.some.inj h
                exact retQ.gen (vs := [V.bool x_434]) rfl (.tmp (v := V.bool x_434) rfl .nil) (.free rfl) (by simp) (.inr rfl)
              · skip
                refine SafeOps.skip (congrArg some hc431) rfl rfl ?_
                refine SafeOps.skip (congrArg some hc431) rfl rfl ?_
                refine SafeOps.skip (congrArg some hc431) rfl rfl ?_
                refine SafeOps.quiet0 E_good rfl rfl rfl (v := V.bool false) (.pickK rfl hc431 rfl) ?_
                refine SafeOps.quiet0 E_good rfl rfl rfl (v := V.bool false) (.fn rfl) ?_
                refine SafeOps.nil ?_
                repeat (first | refine Safe.seq ?_ | refine Safe.skip ?_ | with_reducible refine thenQ.n ?_ | with_reducible refine blockQ.n ?_)
                refine Safe.ret ?_
                repeat (first | with_reducible refine thenQ.r ?_ | with_reducible refine blockQ.r ?_)
                obtain rfl := Option.some.inj h
                exact retQ.gen (vs := [V.bool false]) rfl (.tmp (v := V.bool false) rfl .nil) (.free rfl) (by simp) (.inr rfl)

noncomputable def go_slices_Equal_api_Mem_int64_s1 (a0_472 : List Int) (a1_473 : List Int) : (Int) → Option ((Int) ⊕ (Bool))
  | v13_502 =>
    if (decide (v13_502 < (a0_472.length : Int))) = true then
      if 0 ≤ v13_502 ∧ v13_502 < (a0_472.length : Int) then
        if 0 ≤ v13_502 ∧ v13_502 < (a1_473.length : Int) then
          if ((gt a0_472 v13_502) != (gt a1_473 v13_502)) = true then
            inrO (
              some false)
          else
            nextO (IntKind.i64.wrap (v13_502 + 1))
        else none
      else none
    else
      inrO (
        some true)

noncomputable def go_slices_Equal_api_Mem_int64 (a0_472 : List Int) (a1_473 : List Int) : Option Bool :=
  if ((a0_472.length : Int) != (a1_473.length : Int)) = true then
    some false
  else
    whileO (go_slices_Equal_api_Mem_int64_s1 a0_472 a1_473) 0

theorem go_slices_Equal_api_Mem_int64_sc (a0_472 : List Int) (a1_473 : List Int) (r : Bool) (h : go_slices_Equal_api_Mem_int64 a0_472 a1_473 = some r) : SC Try.prog gl 28 [V.sl 1 (rws (fun n => [V.int .i64 n]) a0_472), V.sl 1 (rws (fun n => [V.int .i64 n]) a1_473)] (V.bool r) := by
  rw [go_slices_Equal_api_Mem_int64] at h
  refine SC.of E_good Try.func28 rfl (fun _ _ => Try.call28 _ _) rfl ?_
  repeat (first | refine Safe.seq ?_ | refine Safe.skip ?_ | with_reducible refine thenQ.n ?_ | with_reducible refine blockQ.n ?_)
  refine Safe.region ?_
  refine SafeOps.quiet0 E_good rfl rfl rfl (v := V.bool false) (.fn rfl) ?_
  refine SafeOps.nil ?_
  repeat (first | refine Safe.seq ?_ | refine Safe.skip ?_ | with_reducible refine thenQ.n ?_ | with_reducible refine blockQ.n ?_)
  refine Safe.region ?_
  refine SafeOps.quiet0 E_good rfl rfl rfl (v := V.sl 1 (rws (fun n => [V.int .i64 n]) a0_472)) (.fn rfl) ?_
  refine SafeOps.quiet0 E_good rfl rfl rfl (v := V.int .i64 (a0_472.length : Int)) (.fnE rfl lenE) ?_
  refine SafeOps.quiet0 E_good rfl rfl rfl (v := V.sl 1 (rws (fun n => [V.int .i64 n]) a1_473)) (.fn rfl) ?_
  refine SafeOps.quiet0 E_good rfl rfl rfl (v := V.int .i64 (a1_473.length : Int)) (.fnE rfl lenE) ?_
  refine SafeOps.quiet0 E_good rfl rfl rfl (v := V.bool ((a0_472.length : Int) != (a1_473.length : Int))) (.fn rfl) ?_
  refine SafeOps.nil ?_
  repeat (first | refine Safe.seq ?_ | refine Safe.skip ?_ | with_reducible refine thenQ.n ?_ | with_reducible refine blockQ.n ?_)
  refine ifG h (fun hc492 h => ?_) (fun hc492 h => ?_)
  · skip
    refine Safe.condK rfl hc492 ?_
    repeat (first | refine Safe.seq ?_ | refine Safe.skip ?_ | with_reducible refine thenQ.n ?_ | with_reducible refine blockQ.n ?_)
    refine Safe.region ?_
    refine SafeOps.quiet0 E_good rfl rfl rfl (v := V.bool false) (.fn rfl) ?_
    refine SafeOps.nil ?_
    repeat (first | refine Safe.seq ?_ | refine Safe.skip ?_ | with_reducible refine thenQ.n ?_ | with_reducible refine blockQ.n ?_)
    refine Safe.ret ?_
    repeat (first | with_reducible refine thenQ.r ?_ | with_reducible refine blockQ.r ?_)
    obtain rfl := Option.some.inj h
    exact retQ.gen (vs := [V.bool false]) rfl (.tmp (v := V.bool false) rfl .nil) (.free rfl) (by simp) (.inr rfl)
  · skip
    refine Safe.condN rfl hc492 ?_
    repeat (first | refine Safe.seq ?_ | refine Safe.skip ?_ | with_reducible refine thenQ.n ?_ | with_reducible refine blockQ.n ?_)
    refine Safe.region ?_
    refine SafeOps.quiet0 E_good rfl rfl rfl (v := V.sl 1 (rws (fun n => [V.int .i64 n]) a0_472)) (.fn rfl) ?_
    refine SafeOps.quiet0 E_good rfl rfl rfl (v := V.int .i64 (a0_472.length : Int)) (.fnE rfl lenE) ?_
    refine SafeOps.quiet0 E_good rfl rfl rfl (v := V.int .i64 0) (.fn rfl) ?_
    refine SafeOps.nil ?_
    repeat (first | refine Safe.seq ?_ | refine Safe.skip ?_ | with_reducible refine thenQ.n ?_ | with_reducible refine blockQ.n ?_)
    refine Safe.block ?_
    repeat (first | refine Safe.seq ?_ | refine Safe.skip ?_ | with_reducible refine thenQ.n ?_ | with_reducible refine blockQ.n ?_)
    refine Safe.loopW (fun (v13_502 : Int) => ⟨Try.f28.ntmps, [(0, V.sl 1 (rws (fun n => [V.int .i64 n]) a0_472)), (1, V.sl 1 (rws (fun n => [V.int .i64 n]) a1_473)), (12, V.int .i64 (a0_472.length : Int)), (13, V.int .i64 v13_502)], [], [], []⟩) h (.cov ⟨rfl, rfl, (upT_cons (.refl _) (upT_cons (.refl _) (upT_cons (.refl _) (upT_cons (.refl _) upT_nil)))), upOb_nil, upOut_nil, rfl⟩) ?_
    intro v13_502 ohr503 h hr503
    replace h : go_slices_Equal_api_Mem_int64_s1 a0_472 a1_473 v13_502 = some ohr503 := h
    rw [go_slices_Equal_api_Mem_int64_s1] at h
    repeat (first | refine Safe.seq ?_ | refine Safe.skip ?_ | with_reducible refine thenQ.n ?_ | with_reducible refine blockQ.n ?_)
    refine Safe.region ?_
    refine SafeOps.quiet0 E_good rfl rfl rfl (v := V.bool (decide (v13_502 < (a0_472.length : Int)))) (.fn rfl) ?_
    refine SafeOps.nil ?_
    repeat (first | refine Safe.seq ?_ | refine Safe.skip ?_ | with_reducible refine thenQ.n ?_ | with_reducible refine blockQ.n ?_)
    refine ifG h (fun hc504 h => ?_) (fun hc504 h => ?_)
    · skip
      refine Safe.condK rfl hc504 ?_
      repeat (first | refine Safe.seq ?_ | refine Safe.skip ?_ | with_reducible refine thenQ.n ?_ | with_reducible refine blockQ.n ?_)
      refine Safe.block ?_
      repeat (first | refine Safe.seq ?_ | refine Safe.skip ?_ | with_reducible refine thenQ.n ?_ | with_reducible refine blockQ.n ?_)
      refine Safe.region ?_
      refine SafeOps.quiet0 E_good rfl rfl rfl (v := V.int .i64 v13_502) (.fn rfl) ?_
      refine SafeOps.quiet0 E_good rfl rfl rfl (v := V.int .i64 v13_502) (.fn rfl) ?_
      refine SafeOps.nil ?_
      repeat (first | refine Safe.seq ?_ | refine Safe.skip ?_ | with_reducible refine thenQ.n ?_ | with_reducible refine blockQ.n ?_)
      refine Safe.regionD (n := 9) [] [] E_good mixed rfl ?_
      refine DAny.take (i := 0) rfl (by kernel_rfl) [] (by kernel_rfl) (by kernel_rfl) (by kernel_rfl) rfl rfl rfl (v := V.sl 1 (rws (fun n => [V.int .i64 n]) a0_472)) (fun _ hz => (.fn rfl)) ?_
      refine DAny.take (i := 1) rfl (by kernel_rfl) [] (by kernel_rfl) (by kernel_rfl) (by kernel_rfl) rfl rfl rfl (v := V.int .i64 v13_502) (fun _ hz => (.fn rfl)) ?_
      refine okG h (fun hb505 h => ?_)
      refine DAny.take (i := 2) rfl (by kernel_rfl) [] (by kernel_rfl) (by kernel_rfl) (by kernel_rfl) rfl rfl rfl (v := V.spt 1 (rws (fun n => [V.int .i64 n]) a0_472) (Int.toNat v13_502) 0) (fun _ hz => (.idxSlM (f := (fun n => [V.int .i64 n])) rfl rfl rfl rfl rfl hb505)) ?_
      refine DAny.take (i := 3) rfl (by kernel_rfl) [] (by kernel_rfl) (by kernel_rfl) (by kernel_rfl) rfl rfl rfl (v := V.int .i64 (gt a0_472 v13_502)) (fun _ hz => (.load rfl rfl (.sptM (f := (fun n => [V.int .i64 n])) hb505 rfl) rfl)) ?_
      refine DAny.take (i := 4) rfl (by kernel_rfl) [] (by kernel_rfl) (by kernel_rfl) (by kernel_rfl) rfl rfl rfl (v := V.sl 1 (rws (fun n => [V.int .i64 n]) a1_473)) (fun _ hz => (.fn rfl)) ?_
      refine DAny.take (i := 5) rfl (by kernel_rfl) [] (by kernel_rfl) (by kernel_rfl) (by kernel_rfl) rfl rfl rfl (v := V.int .i64 v13_502) (fun _ hz => (.fn rfl)) ?_
      refine okG h (fun hb506 h => ?_)
      refine DAny.take (i := 6) rfl (by kernel_rfl) [] (by kernel_rfl) (by kernel_rfl) (by kernel_rfl) rfl rfl rfl (v := V.spt 1 (rws (fun n => [V.int .i64 n]) a1_473) (Int.toNat v13_502) 0) (fun _ hz => (.idxSlM (f := (fun n => [V.int .i64 n])) rfl rfl rfl rfl rfl hb506)) ?_
      refine DAny.take (i := 7) rfl (by kernel_rfl) [] (by kernel_rfl) (by kernel_rfl) (by kernel_rfl) rfl rfl rfl (v := V.int .i64 (gt a1_473 v13_502)) (fun _ hz => (.load rfl rfl (.sptM (f := (fun n => [V.int .i64 n])) hb506 rfl) rfl)) ?_
      refine DAny.take (i := 8) rfl (by kernel_rfl) [] (by kernel_rfl) (by kernel_rfl) (by kernel_rfl) rfl rfl rfl (v := V.bool ((gt a0_472 v13_502) != (gt a1_473 v13_502))) (fun _ hz => (.fn rfl)) ?_
      refine DAny.nil (by kernel_rfl) ?_
      repeat (first | refine Safe.seq ?_ | refine Safe.skip ?_ | with_reducible refine thenQ.n ?_ | with_reducible refine blockQ.n ?_)
      refine ifG h (fun hc507 h => ?_) (fun hc507 h => ?_)
      · skip
        refine Safe.condK rfl hc507 ?_
        repeat (first | refine Safe.seq ?_ | refine Safe.skip ?_ | with_reducible refine thenQ.n ?_ | with_reducible refine blockQ.n ?_)
        refine Safe.region ?_
        refine SafeOps.quiet0 E_good rfl rfl rfl (v := V.bool false) (.fn rfl) ?_
        refine SafeOps.nil ?_
        repeat (first | refine Safe.seq ?_ | refine Safe.skip ?_ | with_reducible refine thenQ.n ?_ | with_reducible refine blockQ.n ?_)
        refine Safe.ret ?_
        repeat (first | with_reducible refine thenQ.r ?_ | with_reducible refine blockQ.r ?_)
        replace h := inr_out h hr503
        obtain rfl := Option.some.inj h
        exact retQ.gen (vs := [V.bool false]) rfl (.tmp (v := V.bool false) rfl .nil) (.free rfl) (by simp) (.inr rfl)
      · skip
        refine Safe.condN rfl hc507 ?_
        repeat (first | refine Safe.seq ?_ | refine Safe.skip ?_ | with_reducible refine thenQ.n ?_ | with_reducible refine blockQ.n ?_)
        refine Safe.region ?_
        refine SafeOps.quiet0 E_good rfl rfl rfl (v := V.int .i64 (IntKind.i64.wrap (v13_502 + 1))) (.fn rfl) ?_
        refine SafeOps.quiet0 E_good rfl rfl rfl (v := V.int .i64 (IntKind.i64.wrap (v13_502 + 1))) (.fn rfl) ?_
        refine SafeOps.nil ?_
        repeat (first | refine Safe.seq ?_ | refine Safe.skip ?_ | with_reducible refine thenQ.n ?_ | with_reducible refine blockQ.n ?_)
        exact ⟨_, next_out h, (.cov ⟨rfl, rfl, (upT_cons (.refl _) (upT_cons (.refl _) (upT_cons (.refl _) (upT_cons (.refl _) upT_nil)))), upOb_nil, upOut_nil, rfl⟩)⟩
    · skip
      refine Safe.condN rfl hc504 ?_
      repeat (first | refine Safe.seq ?_ | refine Safe.skip ?_ | with_reducible refine thenQ.n ?_ | with_reducible refine blockQ.n ?_)
      refine Safe.exit ?_
      repeat (first | with_reducible refine thenQ.e ?_ | with_reducible refine blockQ.x rfl ?_ | with_reducible refine blockQ.y rfl ?_)
      replace h := inr_out h hr503
      repeat (first | refine Safe.seq ?_ | refine Safe.skip ?_ | with_reducible refine thenQ.n ?_ | with_reducible refine blockQ.n ?_)
      refine Safe.region ?_
      refine SafeOps.quiet0 E_good rfl rfl rfl (v := V.bool true) (.fn rfl) ?_
      refine SafeOps.nil ?_
      repeat (first | refine Safe.seq ?_ | refine Safe.skip ?_ | with_reducible refine thenQ.n ?_ | with_reducible refine blockQ.n ?_)
      refine Safe.ret ?_
      repeat (first | with_reducible refine thenQ.r ?_ | with_reducible refine blockQ.r ?_)
      obtain rfl := Option.some.inj h
      exact retQ.gen (vs := [V.bool true]) rfl (.tmp (v := V.bool true) rfl .nil) (.free rfl) (by simp) (.inr rfl)

noncomputable def go_cell_Same (a0_470 : List Int) (a1_471 : List Int) : Option Bool :=
  (go_slices_Equal_api_Mem_int64 a0_470 a1_471).bind fun x_510 =>
  some x_510

theorem go_cell_Same_sc (a0_470 : List Int) (a1_471 : List Int) (r : Bool) (h : go_cell_Same a0_470 a1_471 = some r) : SC Try.prog gl 15 [V.sl 1 (rws (fun n => [V.int .i64 n]) a0_470), V.sl 1 (rws (fun n => [V.int .i64 n]) a1_471)] (V.bool r) := by
  rw [go_cell_Same] at h
  refine SC.of E_good Try.func15 rfl (fun _ _ => Try.call15 _ _) rfl ?_
  repeat (first | refine Safe.seq ?_ | refine Safe.skip ?_ | with_reducible refine thenQ.n ?_ | with_reducible refine blockQ.n ?_)
  refine Safe.region ?_
  refine SafeOps.quiet0 E_good rfl rfl rfl (v := V.bool false) (.fn rfl) ?_
  refine SafeOps.nil ?_
  repeat (first | refine Safe.seq ?_ | refine Safe.skip ?_ | with_reducible refine thenQ.n ?_ | with_reducible refine blockQ.n ?_)
  refine Safe.region ?_
  refine SafeOps.quiet0 E_good rfl rfl rfl (v := V.sl 1 (rws (fun n => [V.int .i64 n]) a0_470)) (.fn rfl) ?_
  refine SafeOps.quiet0 E_good rfl rfl rfl (v := V.sl 1 (rws (fun n => [V.int .i64 n]) a1_471)) (.fn rfl) ?_
  refine bindG h ?_
  intro x_510 he511 h
  refine SafeOps.quiet0 E_good rfl rfl rfl (v := V.bool x_510) (.callP rfl rfl (go_slices_Equal_api_Mem_int64_sc a0_470 a1_471 _ he511) rfl) ?_
  refine SafeOps.quiet0 E_good rfl rfl rfl (v := V.bool x_510) (.fn rfl) ?_
  refine SafeOps.nil ?_
  repeat (first | refine Safe.seq ?_ | refine Safe.skip ?_ | with_reducible refine thenQ.n ?_ | with_reducible refine blockQ.n ?_)
  refine Safe.ret ?_
  repeat (first | with_reducible refine thenQ.r ?_ | with_reducible refine blockQ.r ?_)
  obtain rfl := Option.some.inj h
  exact retQ.gen (vs := [V.bool x_510]) rfl (.tmp (v := V.bool x_510) rfl .nil) (.free rfl) (by simp) (.inr rfl)
end Go.Proofs.Ytgbolkdlghenfaa
