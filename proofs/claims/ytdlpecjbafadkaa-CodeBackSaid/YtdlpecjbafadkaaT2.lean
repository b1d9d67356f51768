/- Helper lemmas for the claim's theorem: an abstract machine over the model, proved sound; no condition beyond each lemma's own. -/
import Derived.Test.YtdlpecjbafadkaaT1
set_option linter.unusedVariables false
set_option linter.unusedSimpArgs false
set_option linter.unnecessarySimpa false
set_option linter.unusedSectionVars false
namespace Go.Proofs.Ytdlpecjbafadkaa
open Go Go.AM
set_option maxRecDepth 100000
set_option maxHeartbeats 1000000
set_option linter.unusedVariables false
set_option linter.unusedSimpArgs false
variable {gl : List (Nat × List V)}
noncomputable def go_code_Write_s4 (a0_3572 : List (List api_Instr)) (v21_3672 : Int) : ((List Int) × Int) → Option (((List Int) × Int) ⊕ (((List Int) × Int) ⊕ ((List Int) × Int)))
  | (v5_3685, v33_3686) =>
    if (decide (v33_3686 < ((gt a0_3572 v21_3672).length : Int))) = true then
      if 0 ≤ v33_3686 ∧ v33_3686 < ((gt a0_3572 v21_3672).length : Int) then
        if few (v5_3685 ++ [IntKind.u8.wrap ((gt (gt a0_3572 v21_3672) v33_3686).Op), IntKind.u8.wrap (Int.fdiv ((gt (gt a0_3572 v21_3672) v33_3686).A) (2 ^ (min (Int.toNat 8) IntKind.i64.bits))), IntKind.u8.wrap ((gt (gt a0_3572 v21_3672) v33_3686).A), IntKind.u8.wrap ((gt (gt a0_3572 v21_3672) v33_3686).B)]).length then
          nextO (v5_3685 ++ [IntKind.u8.wrap ((gt (gt a0_3572 v21_3672) v33_3686).Op), IntKind.u8.wrap (Int.fdiv ((gt (gt a0_3572 v21_3672) v33_3686).A) (2 ^ (min (Int.toNat 8) IntKind.i64.bits))), IntKind.u8.wrap ((gt (gt a0_3572 v21_3672) v33_3686).A), IntKind.u8.wrap ((gt (gt a0_3572 v21_3672) v33_3686).B)], IntKind.i64.wrap (v33_3686 + 1))
        else none
      else none
    else
      inrO (
        nextO (v5_3685, IntKind.i64.wrap (v21_3672 + 1)))

noncomputable def go_code_Write_s3 (a0_3572 : List (List api_Instr)) : ((List Int) × Int) → Option (((List Int) × Int) ⊕ ((List Int) × Int))
  | (v5_3671, v21_3672) =>
    if (decide (v21_3672 < (a0_3572.length : Int))) = true then
      if 0 ≤ v21_3672 ∧ v21_3672 < (a0_3572.length : Int) then
        if few (v5_3671 ++ [IntKind.u8.wrap ((gt a0_3572 v21_3672).length : Int)]).length then
          whileO (go_code_Write_s4 a0_3572 v21_3672) (v5_3671 ++ [IntKind.u8.wrap ((gt a0_3572 v21_3672).length : Int)], 0)
        else none
      else none
    else
      inrO (
        some (v5_3671, 0))

noncomputable def go_code_Write (a0_3572 : List (List api_Instr)) : Option ((List Int) × Int) :=
  (go_code_CheckAll a0_3572).bind fun x_3632 =>
  if (x_3632 != 0) = true then
    some ([], x_3632)
  else
    whileO (go_code_Write_s3 a0_3572) ([IntKind.u8.wrap (a0_3572.length : Int)], 0)

theorem go_code_Write_sc (a0_3572 : List (List api_Instr)) (r : (List Int) × Int) (h : go_code_Write a0_3572 = some r) : SC Try.prog gl 22 [V.sl 1 (rws (fun l => [V.sl 3 (rws api_Instr.cells l)]) a0_3572)] (V.tup [V.own 1 (rws (fun n => [V.int .u8 n]) r.1), V.int .i64 r.2]) := by
  rw [go_code_Write] at h
  refine SC.of E_good Try.func22 rfl (fun _ _ => Try.call22 _ _) rfl ?_
  repeat (first | refine Safe.seq ?_ | refine Safe.skip ?_ | with_reducible refine thenQ.n ?_ | with_reducible refine blockQ.n ?_)
  refine Safe.region ?_
  refine SafeOps.quiet0 E_good rfl rfl rfl (v := V.nils) (.fn rfl) ?_
  refine SafeOps.quiet0 E_good rfl rfl rfl (v := V.int .i64 0) (.fn rfl) ?_
  refine SafeOps.nil ?_
  repeat (first | refine Safe.seq ?_ | refine Safe.skip ?_ | with_reducible refine thenQ.n ?_ | with_reducible refine blockQ.n ?_)
  refine Safe.region ?_
  refine SafeOps.quiet0 E_good rfl rfl rfl (v := V.sl 1 (rws (fun l => [V.sl 3 (rws api_Instr.cells l)]) a0_3572)) (.fn rfl) ?_
  refine bindG h ?_
  intro x_3632 he3633 h
  refine SafeOps.quiet0 E_good rfl rfl rfl (v := V.int .i64 x_3632) (.callP rfl rfl (go_code_CheckAll_sc a0_3572 _ he3633) rfl) ?_
  refine SafeOps.quiet0 E_good rfl rfl rfl (v := V.int .i64 x_3632) (.fn rfl) ?_
  refine SafeOps.nil ?_
  repeat (first | refine Safe.seq ?_ | refine Safe.skip ?_ | with_reducible refine thenQ.n ?_ | with_reducible refine blockQ.n ?_)
  refine Safe.region ?_
  refine SafeOps.quiet0 E_good rfl rfl rfl (v := V.int .i64 x_3632) (.fn rfl) ?_
  refine SafeOps.quiet0 E_good rfl rfl rfl (v := V.bool (x_3632 != 0)) (.fn rfl) ?_
  refine SafeOps.nil ?_
  repeat (first | refine Safe.seq ?_ | refine Safe.skip ?_ | with_reducible refine thenQ.n ?_ | with_reducible refine blockQ.n ?_)
  refine ifG h (fun hc3634 h => ?_) (fun hc3634 h => ?_)
  · skip
    refine Safe.condK rfl hc3634 ?_
    repeat (first | refine Safe.seq ?_ | refine Safe.skip ?_ | with_reducible refine thenQ.n ?_ | with_reducible refine blockQ.n ?_)
    refine Safe.region ?_
    refine SafeOps.quiet0 E_good rfl rfl rfl (v := V.int .i64 x_3632) (.fn rfl) ?_
    refine SafeOps.quiet0 E_good rfl rfl rfl (v := V.nils) (.fn rfl) ?_
    refine SafeOps.quiet0 E_good rfl rfl rfl (v := V.int .i64 x_3632) (.fn rfl) ?_
    refine SafeOps.nil ?_
    repeat (first | refine Safe.seq ?_ | refine Safe.skip ?_ | with_reducible refine thenQ.n ?_ | with_reducible refine blockQ.n ?_)
    refine Safe.ret ?_
    repeat (first | with_reducible refine thenQ.r ?_ | with_reducible refine blockQ.r ?_)
    obtain rfl := Option.some.inj h
    exact retQ.gen (vs := [V.nils, V.int .i64 x_3632]) rfl (.tmp (v := V.nils) rfl (.tmp (v := V.int .i64 x_3632) rfl .nil)) (by exact (.tup (.cons (.nils _) (.cons (.free rfl) .nil)))) (by simp) (.inr rfl)
  · skip
    refine Safe.condN rfl hc3634 ?_
    repeat (first | refine Safe.seq ?_ | refine Safe.skip ?_ | with_reducible refine thenQ.n ?_ | with_reducible refine blockQ.n ?_)
    refine Safe.region ?_
    refine SafeOps.quiet0 E_good rfl rfl rfl (v := V.sl 1 (rws (fun l => [V.sl 3 (rws api_Instr.cells l)]) a0_3572)) (.fn rfl) ?_
    refine SafeOps.quiet0 E_good rfl rfl rfl (v := V.int .i64 (a0_3572.length : Int)) (.fnE rfl lenE) ?_
    refine SafeOps.quiet0 E_good rfl rfl rfl (v := V.int .u8 (IntKind.u8.wrap (a0_3572.length : Int))) (.fn rfl) ?_
    refine SafeOps.quiet1 E_good rfl rfl rfl (.litM (f := (fun n => [V.int .u8 n])) (xs := [IntKind.u8.wrap (a0_3572.length : Int)]) rfl rfl (by decide) rfl rfl rfl rfl rfl) rfl ?_
    refine SafeOps.quiet0 E_good rfl rfl rfl (v := V.ref [18] 0 (rws (fun n => [V.int .u8 n]) [IntKind.u8.wrap (a0_3572.length : Int)]).length) (.fn rfl) ?_
    refine SafeOps.nil ?_
    repeat (first | refine Safe.seq ?_ | refine Safe.skip ?_ | with_reducible refine thenQ.n ?_ | with_reducible refine blockQ.n ?_)
    refine Safe.region ?_
    refine SafeOps.quiet0 E_good rfl rfl rfl (v := V.sl 1 (rws (fun l => [V.sl 3 (rws api_Instr.cells l)]) a0_3572)) (.fn rfl) ?_
    refine SafeOps.quiet0 E_good rfl rfl rfl (v := V.int .i64 (a0_3572.length : Int)) (.fnE rfl lenE) ?_
    refine SafeOps.quiet0 E_good rfl rfl rfl (v := V.int .i64 0) (.fn rfl) ?_
    refine SafeOps.nil ?_
    repeat (first | refine Safe.seq ?_ | refine Safe.skip ?_ | with_reducible refine thenQ.n ?_ | with_reducible refine blockQ.n ?_)
    refine Safe.block ?_
    repeat (first | refine Safe.seq ?_ | refine Safe.skip ?_ | with_reducible refine thenQ.n ?_ | with_reducible refine blockQ.n ?_)
    refine Safe.loopW (fun ((v5_3671, v21_3672) : (List Int) × Int) => ⟨Try.f22.ntmps, [(5, V.ref [7000, 118, 5] 0 (rws (fun n => [V.int .u8 n]) v5_3671).length), (19, V.sl 1 (rws (fun l => [V.sl 3 (rws api_Instr.cells l)]) a0_3572)), (20, V.int .i64 (a0_3572.length : Int)), (21, V.int .i64 v21_3672)], [([7000, 118, 5], Obj.rows 1 (rws (fun n => [V.int .u8 n]) v5_3671) false)], [], []⟩) h (.ren [18] [7000, 118, 5] (.cov ⟨rfl, rfl, (upT_cons (.refl _) (upT_cons (.refl _) (upT_cons (.refl _) (upT_cons (.refl _) upT_nil)))), (upOb_cons rfl (.refl _) upOb_nil), upOut_nil, rfl⟩)) ?_
    rintro ⟨v5_3671, v21_3672⟩ ohr3673 h hr3673
    replace h : go_code_Write_s3 a0_3572 (v5_3671, v21_3672) = some ohr3673 := h
    rw [go_code_Write_s3] at h
    repeat (first | refine Safe.seq ?_ | refine Safe.skip ?_ | with_reducible refine thenQ.n ?_ | with_reducible refine blockQ.n ?_)
    refine Safe.region ?_
    refine SafeOps.quiet0 E_good rfl rfl rfl (v := V.bool (decide (v21_3672 < (a0_3572.length : Int)))) (.fn rfl) ?_
    refine SafeOps.nil ?_
    repeat (first | refine Safe.seq ?_ | refine Safe.skip ?_ | with_reducible refine thenQ.n ?_ | with_reducible refine blockQ.n ?_)
    refine ifG h (fun hc3674 h => ?_) (fun hc3674 h => ?_)
    · skip
      refine Safe.condK rfl hc3674 ?_
      repeat (first | refine Safe.seq ?_ | refine Safe.skip ?_ | with_reducible refine thenQ.n ?_ | with_reducible refine blockQ.n ?_)
      refine Safe.block ?_
      repeat (first | refine Safe.seq ?_ | refine Safe.skip ?_ | with_reducible refine thenQ.n ?_ | with_reducible refine blockQ.n ?_)
      refine Safe.region ?_
      refine okG h (fun hb3675 h => ?_)
      refine SafeOps.quiet0 E_good rfl rfl rfl (v := V.spt 1 (rws (fun l => [V.sl 3 (rws api_Instr.cells l)]) a0_3572) (Int.toNat v21_3672) 0) (.idxSlM (f := (fun l => [V.sl 3 (rws api_Instr.cells l)])) rfl rfl rfl rfl rfl hb3675) ?_
      refine SafeOps.quiet0 E_good rfl rfl rfl (v := V.sl 3 (rws api_Instr.cells (gt a0_3572 v21_3672))) (.load rfl rfl (.sptM (f := (fun l => [V.sl 3 (rws api_Instr.cells l)])) hb3675 rfl) rfl) ?_
      refine SafeOps.quiet0 E_good rfl rfl rfl (v := V.sl 3 (rws api_Instr.cells (gt a0_3572 v21_3672))) (.fn rfl) ?_
      refine SafeOps.nil ?_
      repeat (first | refine Safe.seq ?_ | refine Safe.skip ?_ | with_reducible refine thenQ.n ?_ | with_reducible refine blockQ.n ?_)
      refine Safe.region ?_
      refine SafeOps.quiet0 E_good rfl rfl rfl (v := V.ref [7000, 118, 5] 0 (rws (fun n => [V.int .u8 n]) v5_3671).length) (.fn rfl) ?_
      refine SafeOps.quiet0 E_good rfl rfl rfl (v := V.sl 3 (rws api_Instr.cells (gt a0_3572 v21_3672))) (.fn rfl) ?_
      refine SafeOps.quiet0 E_good rfl rfl rfl (v := V.int .i64 ((gt a0_3572 v21_3672).length : Int)) (.fnE rfl lenE) ?_
      refine SafeOps.quiet0 E_good rfl rfl rfl (v := V.int .u8 (IntKind.u8.wrap ((gt a0_3572 v21_3672).length : Int))) (.fn rfl) ?_
      refine SafeOps.quiet1 E_good rfl rfl rfl (.litM (f := (fun n => [V.int .u8 n])) (xs := [IntKind.u8.wrap ((gt a0_3572 v21_3672).length : Int)]) rfl rfl (by decide) rfl rfl rfl rfl rfl) rfl ?_
      refine okG h (fun hb3676 h => ?_)
      refine SafeOps.appendM (fun n => [V.int .u8 n]) (xs := v5_3671) (ys := [IntKind.u8.wrap ((gt a0_3572 v21_3672).length : Int)]) E_good rfl rfl rfl rfl rfl rfl rfl rfl rfl (.own rfl) (.own rfl) (fun _ => rfl) hb3676 ?_
      refine SafeOps.quiet0 E_good rfl rfl rfl (v := V.ref [30] 0 (rws (fun n => [V.int .u8 n]) (v5_3671 ++ [IntKind.u8.wrap ((gt a0_3572 v21_3672).length : Int)])).length) (.fn rfl) ?_
      refine SafeOps.nil ?_
      repeat (first | refine Safe.seq ?_ | refine Safe.skip ?_ | with_reducible refine thenQ.n ?_ | with_reducible refine blockQ.n ?_)
      refine Safe.region ?_
      refine SafeOps.quiet0 E_good rfl rfl rfl (v := V.sl 3 (rws api_Instr.cells (gt a0_3572 v21_3672))) (.fn rfl) ?_
      refine SafeOps.quiet0 E_good rfl rfl rfl (v := V.int .i64 ((gt a0_3572 v21_3672).length : Int)) (.fnE rfl lenE) ?_
      refine SafeOps.quiet0 E_good rfl rfl rfl (v := V.int .i64 0) (.fn rfl) ?_
      refine SafeOps.nil ?_
      repeat (first | refine Safe.seq ?_ | refine Safe.skip ?_ | with_reducible refine thenQ.n ?_ | with_reducible refine blockQ.n ?_)
      refine Safe.block ?_
      repeat (first | refine Safe.seq ?_ | refine Safe.skip ?_ | with_reducible refine thenQ.n ?_ | with_reducible refine blockQ.n ?_)
      refine Safe.loopW (fun ((v5_3685, v33_3686) : (List Int) × Int) => ⟨Try.f22.ntmps, [(5, V.ref [7000, 118, 5] 0 (rws (fun n => [V.int .u8 n]) v5_3685).length), (19, V.sl 1 (rws (fun l => [V.sl 3 (rws api_Instr.cells l)]) a0_3572)), (20, V.int .i64 (a0_3572.length : Int)), (21, V.int .i64 v21_3672), (31, V.sl 3 (rws api_Instr.cells (gt a0_3572 v21_3672))), (32, V.int .i64 ((gt a0_3572 v21_3672).length : Int)), (33, V.int .i64 v33_3686)], [([7000, 118, 5], Obj.rows 1 (rws (fun n => [V.int .u8 n]) v5_3685) false)], [], []⟩) h (.ren [30] [7000, 118, 5] (.cov ⟨rfl, rfl, (upT_cons (.refl _) (upT_cons (.refl _) (upT_cons (.refl _) (upT_cons (.refl _) (upT_cons (.refl _) (upT_cons (.refl _) (upT_cons (.refl _) upT_nil))))))), (upOb_cons rfl (.refl _) upOb_nil), upOut_nil, rfl⟩)) ?_
      rintro ⟨v5_3685, v33_3686⟩ ohr3687 h hr3687
      replace h : go_code_Write_s4 a0_3572 v21_3672 (v5_3685, v33_3686) = some ohr3687 := h
      rw [go_code_Write_s4] at h
      repeat (first | refine Safe.seq ?_ | refine Safe.skip ?_ | with_reducible refine thenQ.n ?_ | with_reducible refine blockQ.n ?_)
      refine Safe.region ?_
      refine SafeOps.quiet0 E_good rfl rfl rfl (v := V.bool (decide (v33_3686 < ((gt a0_3572 v21_3672).length : Int)))) (.fn rfl) ?_
      refine SafeOps.nil ?_
      repeat (first | refine Safe.seq ?_ | refine Safe.skip ?_ | with_reducible refine thenQ.n ?_ | with_reducible refine blockQ.n ?_)
      refine ifG h (fun hc3688 h => ?_) (fun hc3688 h => ?_)
      · skip
        refine Safe.condK rfl hc3688 ?_
        repeat (first | refine Safe.seq ?_ | refine Safe.skip ?_ | with_reducible refine thenQ.n ?_ | with_reducible refine blockQ.n ?_)
        refine Safe.block ?_
        repeat (first | refine Safe.seq ?_ | refine Safe.skip ?_ | with_reducible refine thenQ.n ?_ | with_reducible refine blockQ.n ?_)
        refine Safe.region ?_
        refine okG h (fun hb3689 h => ?_)
        refine SafeOps.quiet0 E_good rfl rfl rfl (v := V.spt 3 (rws api_Instr.cells (gt a0_3572 v21_3672)) (Int.toNat v33_3686) 0) (.idxSlM (f := api_Instr.cells) rfl rfl rfl rfl rfl hb3689) ?_
        refine SafeOps.quiet0 E_good rfl rfl rfl (v := V.agg [V.int .i64 ((gt (gt a0_3572 v21_3672) v33_3686).Op), V.int .i64 ((gt (gt a0_3572 v21_3672) v33_3686).A), V.int .i64 ((gt (gt a0_3572 v21_3672) v33_3686).B)]) (.load rfl rfl (.sptM (f := api_Instr.cells) hb3689 rfl) rfl) ?_
        refine SafeOps.quiet1 E_good rfl rfl rfl (.alloc rfl rfl) rfl ?_
        refine SafeOps.store (z := Obj.box [V.int .i64 ((gt (gt a0_3572 v21_3672) v33_3686).Op), V.int .i64 ((gt (gt a0_3572 v21_3672) v33_3686).A), V.int .i64 ((gt (gt a0_3572 v21_3672) v33_3686).B)]) E_good rfl rfl rfl rfl rfl rfl rfl (.boxM (c := 3) rfl rfl (Nat.le_of_ble_eq_true rfl) rfl) ?_
        refine SafeOps.nil ?_
        repeat (first | refine Safe.seq ?_ | refine Safe.skip ?_ | with_reducible refine thenQ.n ?_ | with_reducible refine blockQ.n ?_)
        refine Safe.region ?_
        refine SafeOps.quiet0 E_good rfl rfl rfl (v := V.ref [7000, 118, 5] 0 (rws (fun n => [V.int .u8 n]) v5_3685).length) (.fn rfl) ?_
        refine SafeOps.quiet0 E_good rfl rfl rfl (v := V.ptr [9] 0 0) (.fn rfl) ?_
        refine SafeOps.quiet0 E_good rfl rfl rfl (v := V.int .i64 ((gt (gt a0_3572 v21_3672) v33_3686).Op)) (.load rfl rfl (.box rfl rfl) rfl) ?_
        refine SafeOps.quiet0 E_good rfl rfl rfl (v := V.int .u8 (IntKind.u8.wrap ((gt (gt a0_3572 v21_3672) v33_3686).Op))) (.fn rfl) ?_
        refine SafeOps.quiet0 E_good rfl rfl rfl (v := V.ptr [9] 0 1) (.fn rfl) ?_
        refine SafeOps.quiet0 E_good rfl rfl rfl (v := V.int .i64 ((gt (gt a0_3572 v21_3672) v33_3686).A)) (.load rfl rfl (.box rfl rfl) rfl) ?_
        refine SafeOps.quiet0 E_good rfl rfl rfl (v := V.int .i64 (Int.fdiv ((gt (gt a0_3572 v21_3672) v33_3686).A) (2 ^ (min (Int.toNat 8) IntKind.i64.bits)))) (.shrV rfl rfl (by decide)) ?_
        refine SafeOps.quiet0 E_good rfl rfl rfl (v := V.int .u8 (IntKind.u8.wrap (Int.fdiv ((gt (gt a0_3572 v21_3672) v33_3686).A) (2 ^ (min (Int.toNat 8) IntKind.i64.bits))))) (.fn rfl) ?_
        refine SafeOps.quiet0 E_good rfl rfl rfl (v := V.ptr [9] 0 1) (.fn rfl) ?_
        refine SafeOps.quiet0 E_good rfl rfl rfl (v := V.int .i64 ((gt (gt a0_3572 v21_3672) v33_3686).A)) (.load rfl rfl (.box rfl rfl) rfl) ?_
        refine SafeOps.quiet0 E_good rfl rfl rfl (v := V.int .u8 (IntKind.u8.wrap ((gt (gt a0_3572 v21_3672) v33_3686).A))) (.fn rfl) ?_
        refine SafeOps.quiet0 E_good rfl rfl rfl (v := V.ptr [9] 0 2) (.fn rfl) ?_
        refine SafeOps.quiet0 E_good rfl rfl rfl (v := V.int .i64 ((gt (gt a0_3572 v21_3672) v33_3686).B)) (.load rfl rfl (.box rfl rfl) rfl) ?_
        refine SafeOps.quiet0 E_good rfl rfl rfl (v := V.int .u8 (IntKind.u8.wrap ((gt (gt a0_3572 v21_3672) v33_3686).B))) (.fn rfl) ?_
        refine SafeOps.quiet1 E_good rfl rfl rfl (.litM (f := (fun n => [V.int .u8 n])) (xs := [IntKind.u8.wrap ((gt (gt a0_3572 v21_3672) v33_3686).Op), IntKind.u8.wrap (Int.fdiv ((gt (gt a0_3572 v21_3672) v33_3686).A) (2 ^ (min (Int.toNat 8) IntKind.i64.bits))), IntKind.u8.wrap ((gt (gt a0_3572 v21_3672) v33_3686).A), IntKind.u8.wrap ((gt (gt a0_3572 v21_3672) v33_3686).B)]) rfl rfl (by decide) rfl rfl rfl rfl rfl) rfl ?_
        refine okG h (fun hb3690 h => ?_)
        refine SafeOps.appendM (fun n => [V.int .u8 n]) (xs := v5_3685) (ys := [IntKind.u8.wrap ((gt (gt a0_3572 v21_3672) v33_3686).Op), IntKind.u8.wrap (Int.fdiv ((gt (gt a0_3572 v21_3672) v33_3686).A) (2 ^ (min (Int.toNat 8) IntKind.i64.bits))), IntKind.u8.wrap ((gt (gt a0_3572 v21_3672) v33_3686).A), IntKind.u8.wrap ((gt (gt a0_3572 v21_3672) v33_3686).B)]) E_good rfl rfl rfl rfl rfl rfl rfl rfl rfl (.own rfl) (.own rfl) (fun _ => rfl) hb3690 ?_
        refine SafeOps.quiet0 E_good rfl rfl rfl (v := V.ref [52] 0 (rws (fun n => [V.int .u8 n]) (v5_3685 ++ [IntKind.u8.wrap ((gt (gt a0_3572 v21_3672) v33_3686).Op), IntKind.u8.wrap (Int.fdiv ((gt (gt a0_3572 v21_3672) v33_3686).A) (2 ^ (min (Int.toNat 8) IntKind.i64.bits))), IntKind.u8.wrap ((gt (gt a0_3572 v21_3672) v33_3686).A), IntKind.u8.wrap ((gt (gt a0_3572 v21_3672) v33_3686).B)])).length) (.fn rfl) ?_
        refine SafeOps.nil ?_
        repeat (first | refine Safe.seq ?_ | refine Safe.skip ?_ | with_reducible refine thenQ.n ?_ | with_reducible refine blockQ.n ?_)
        refine Safe.region ?_
        refine SafeOps.quiet0 E_good rfl rfl rfl (v := V.int .i64 (IntKind.i64.wrap (v33_3686 + 1))) (.fn rfl) ?_
        refine SafeOps.quiet0 E_good rfl rfl rfl (v := V.int .i64 (IntKind.i64.wrap (v33_3686 + 1))) (.fn rfl) ?_
        refine SafeOps.nil ?_
        repeat (first | refine Safe.seq ?_ | refine Safe.skip ?_ | with_reducible refine thenQ.n ?_ | with_reducible refine blockQ.n ?_)
        exact ⟨_, next_out h, (.ren [52] [7000, 118, 5] (.cov ⟨rfl, rfl, (upT_cons (.refl _) (upT_cons (.refl _) (upT_cons (.refl _) (upT_cons (.refl _) (upT_cons (.refl _) (upT_cons (.refl _) (upT_cons (.refl _) upT_nil))))))), (upOb_cons rfl (.refl _) upOb_nil), upOut_nil, rfl⟩))⟩
      · skip
        refine Safe.condN rfl hc3688 ?_
        repeat (first | refine Safe.seq ?_ | refine Safe.skip ?_ | with_reducible refine thenQ.n ?_ | with_reducible refine blockQ.n ?_)
        refine Safe.exit ?_
        repeat (first | with_reducible refine thenQ.e ?_ | with_reducible refine blockQ.x rfl ?_ | with_reducible refine blockQ.y rfl ?_)
        replace h := inr_out h hr3687
        repeat (first | refine Safe.seq ?_ | refine Safe.skip ?_ | with_reducible refine thenQ.n ?_ | with_reducible refine blockQ.n ?_)
        refine Safe.region ?_
        refine SafeOps.quiet0 E_good rfl rfl rfl (v := V.int .i64 (IntKind.i64.wrap (v21_3672 + 1))) (.fn rfl) ?_
        refine SafeOps.quiet0 E_good rfl rfl rfl (v := V.int .i64 (IntKind.i64.wrap (v21_3672 + 1))) (.fn rfl) ?_
        refine SafeOps.nil ?_
        repeat (first | refine Safe.seq ?_ | refine Safe.skip ?_ | with_reducible refine thenQ.n ?_ | with_reducible refine blockQ.n ?_)
        exact ⟨_, next_out h, (.cov ⟨rfl, rfl, (upT_cons (.refl _) (upT_cons (.refl _) (upT_cons (.refl _) (upT_cons (.refl _) upT_nil)))), (upOb_cons rfl (.refl _) upOb_nil), upOut_nil, rfl⟩)⟩
    · skip
      refine Safe.condN rfl hc3674 ?_
      repeat (first | refine Safe.seq ?_ | refine Safe.skip ?_ | with_reducible refine thenQ.n ?_ | with_reducible refine blockQ.n ?_)
      refine Safe.exit ?_
      repeat (first | with_reducible refine thenQ.e ?_ | with_reducible refine blockQ.x rfl ?_ | with_reducible refine blockQ.y rfl ?_)
      replace h := inr_out h hr3673
      repeat (first | refine Safe.seq ?_ | refine Safe.skip ?_ | with_reducible refine thenQ.n ?_ | with_reducible refine blockQ.n ?_)
      refine Safe.region ?_
      refine SafeOps.quiet0 E_good rfl rfl rfl (v := V.ref [7000, 118, 5] 0 (rws (fun n => [V.int .u8 n]) v5_3671).length) (.fn rfl) ?_
      refine SafeOps.quiet0 E_good rfl rfl rfl (v := V.ref [7000, 118, 5] 0 (rws (fun n => [V.int .u8 n]) v5_3671).length) (.fn rfl) ?_
      refine SafeOps.quiet0 E_good rfl rfl rfl (v := V.int .i64 0) (.fn rfl) ?_
      refine SafeOps.nil ?_
      repeat (first | refine Safe.seq ?_ | refine Safe.skip ?_ | with_reducible refine thenQ.n ?_ | with_reducible refine blockQ.n ?_)
      refine Safe.ret ?_
      repeat (first | with_reducible refine thenQ.r ?_ | with_reducible refine blockQ.r ?_)
      obtain rfl := Option.some.inj h
      exact retQ.gen (vs := [V.ref [7000, 118, 5] 0 (rws (fun n => [V.int .u8 n]) v5_3671).length, V.int .i64 0]) rfl (.tmp (v := V.ref [7000, 118, 5] 0 (rws (fun n => [V.int .u8 n]) v5_3671).length) rfl (.tmp (v := V.int .i64 0) rfl .nil)) (by exact (.tup (.cons (.own rfl rfl) (.cons (.free rfl) .nil)))) (by simp) (.inr rfl)

end Go.Proofs.Ytdlpecjbafadkaa
