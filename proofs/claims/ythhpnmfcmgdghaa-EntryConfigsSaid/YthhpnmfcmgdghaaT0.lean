/- Helper lemmas for the claim's theorem: an abstract machine over the model, proved sound; no condition beyond each lemma's own. -/
import Derived.Test.YthhpnmfcmgdghaaSEnv
set_option linter.unusedVariables false
set_option linter.unusedSimpArgs false
set_option linter.unnecessarySimpa false
set_option linter.unusedSectionVars false
namespace Go.Proofs.Ythhpnmfcmgdghaa
open Go Go.AM
set_option maxRecDepth 100000
set_option maxHeartbeats 1000000
set_option linter.unusedVariables false
set_option linter.unusedSimpArgs false
variable {gl : List (Nat × List V)}
@[ext] structure api_Entry where
  Kind : Int
  A : Int
  B : Int
  deriving Inhabited
def api_Entry.cells (x : api_Entry) : List V := [V.int .i64 x.Kind, V.int .i64 x.A, V.int .i64 x.B]
def api_Entry.zero : api_Entry := ⟨0, 0, 0⟩
def api_Entry.beq (x y : api_Entry) : Bool := ((x.Kind == y.Kind) && ((x.A == y.A) && ((x.B == y.B) && true)))

def go_entry_within (a0_9 : Int) (a1_10 : Int) (a2_11 : Int) : Bool :=
  ((decide (a0_9 ≥ a1_10)) && (decide (a0_9 ≤ a2_11)))

theorem go_entry_within_sc (a0_9 : Int) (a1_10 : Int) (a2_11 : Int) (r : Bool) (h : go_entry_within a0_9 a1_10 a2_11 = r) : SC Try.prog gl 25 [V.int .i64 a0_9, V.int .i64 a1_10, V.int .i64 a2_11] (V.bool r) := by
  rw [go_entry_within] at h
  refine SC.of E_good Try.func25 rfl (fun _ _ => Try.call25 _ _) rfl ?_
  repeat (first | refine Safe.seq ?_ | refine Safe.skip ?_ | with_reducible refine thenQ.n ?_ | with_reducible refine blockQ.n ?_)
  refine Safe.region ?_
  refine SafeOps.quiet0 E_good rfl rfl rfl (v := V.bool false) (.fn rfl) ?_
  refine SafeOps.nil ?_
  repeat (first | refine Safe.seq ?_ | refine Safe.skip ?_ | with_reducible refine thenQ.n ?_ | with_reducible refine blockQ.n ?_)
  refine Safe.region ?_
  refine SafeOps.quiet0 E_good rfl rfl rfl (v := V.int .i64 a0_9) (.fn rfl) ?_
  refine SafeOps.quiet0 E_good rfl rfl rfl (v := V.int .i64 a1_10) (.fn rfl) ?_
  refine SafeOps.quiet0 E_good rfl rfl rfl (v := V.bool (decide (a0_9 ≥ a1_10))) (.fn rfl) ?_
  refine SafeOps.quiet0 E_good rfl rfl rfl (v := V.bool (decide (a0_9 ≥ a1_10))) (.fn rfl) ?_
  refine SafeOps.bjoin 4 14 (b := ((decide (a0_9 ≥ a1_10)) && (decide (a0_9 ≤ a2_11)))) (b1 := decide (a0_9 ≤ a2_11)) (b0 := false) (fun hc13 K => ?_) (fun hc13 K => ?_) bj_and ?_
  · skip
    refine SafeOps.quiet0 E_good (congrArg some hc13) rfl rfl (v := V.int .i64 a0_9) (.fn rfl) ?_
    refine SafeOps.quiet0 E_good (congrArg some hc13) rfl rfl (v := V.int .i64 a2_11) (.fn rfl) ?_
    refine SafeOps.quiet0 E_good (congrArg some hc13) rfl rfl (v := V.bool (decide (a0_9 ≤ a2_11))) (.fn rfl) ?_
    refine SafeOps.quiet0 E_good rfl rfl rfl (v := V.bool (decide (a0_9 ≤ a2_11))) (.pickK rfl hc13 rfl) ?_
    exact SafeOps.drop' 4 rfl rfl rfl K
  · skip
    refine SafeOps.skip (congrArg some hc13) rfl rfl ?_
    refine SafeOps.skip (congrArg some hc13) rfl rfl ?_
    refine SafeOps.skip (congrArg some hc13) rfl rfl ?_
    refine SafeOps.quiet0 E_good rfl rfl rfl (v := V.bool false) (.pickK rfl hc13 rfl) ?_
    exact SafeOps.drop' 4 rfl rfl rfl K
  refine SafeOps.quiet0 E_good rfl rfl rfl (v := V.bool ((decide (a0_9 ≥ a1_10)) && (decide (a0_9 ≤ a2_11)))) (.fn rfl) ?_
  refine SafeOps.nil ?_
  repeat (first | refine Safe.seq ?_ | refine Safe.skip ?_ | with_reducible refine thenQ.n ?_ | with_reducible refine blockQ.n ?_)
  refine Safe.ret ?_
  repeat (first | with_reducible refine thenQ.r ?_ | with_reducible refine blockQ.r ?_)
  obtain rfl := h
  exact retQ.gen (vs := [V.bool ((decide (a0_9 ≥ a1_10)) && (decide (a0_9 ≤ a2_11)))]) rfl (.tmp (v := V.bool ((decide (a0_9 ≥ a1_10)) && (decide (a0_9 ≤ a2_11)))) rfl .nil) (.free rfl) (by simp) (.inr rfl)

noncomputable def go_entry_Only_s1 (a0_20 : List api_Entry) (a1_21 : Int) : ((List api_Entry) × Int) → Option (((List api_Entry) × Int) ⊕ (List api_Entry))
  | (v4_50, v9_51) =>
    if (decide (v9_51 < (a0_20.length : Int))) = true then
      if 0 ≤ v9_51 ∧ v9_51 < (a0_20.length : Int) then
        if (((gt a0_20 v9_51).Kind) == a1_21) = true then
          if few (v4_50 ++ [(gt a0_20 v9_51)]).length then
            nextO (v4_50 ++ [(gt a0_20 v9_51)], IntKind.i64.wrap (v9_51 + 1))
          else none
        else
          nextO (v4_50, IntKind.i64.wrap (v9_51 + 1))
      else none
    else
      inrO (
        some v4_50)

noncomputable def go_entry_Only (a0_20 : List api_Entry) (a1_21 : Int) : Option (List api_Entry) :=
  whileO (go_entry_Only_s1 a0_20 a1_21) ([], 0)

theorem go_entry_Only_sc (a0_20 : List api_Entry) (a1_21 : Int) (r : List api_Entry) (h : go_entry_Only a0_20 a1_21 = some r) : SC Try.prog gl 10 [V.sl 3 (rws api_Entry.cells a0_20), V.int .i64 a1_21] (V.own 3 (rws api_Entry.cells r)) := by
  rw [go_entry_Only] at h
  refine SC.of E_good Try.func10 rfl (fun _ _ => Try.call10 _ _) rfl ?_
  repeat (first | refine Safe.seq ?_ | refine Safe.skip ?_ | with_reducible refine thenQ.n ?_ | with_reducible refine blockQ.n ?_)
  refine Safe.region ?_
  refine SafeOps.quiet0 E_good rfl rfl rfl (v := V.nils) (.fn rfl) ?_
  refine SafeOps.nil ?_
  repeat (first | refine Safe.seq ?_ | refine Safe.skip ?_ | with_reducible refine thenQ.n ?_ | with_reducible refine blockQ.n ?_)
  refine Safe.region ?_
  refine SafeOps.quiet0 E_good rfl rfl rfl (v := V.sl 3 (rws api_Entry.cells a0_20)) (.fn rfl) ?_
  refine SafeOps.quiet0 E_good rfl rfl rfl (v := V.int .i64 (a0_20.length : Int)) (.fnE rfl lenE) ?_
  refine SafeOps.quiet0 E_good rfl rfl rfl (v := V.int .i64 0) (.fn rfl) ?_
  refine SafeOps.nil ?_
  repeat (first | refine Safe.seq ?_ | refine Safe.skip ?_ | with_reducible refine thenQ.n ?_ | with_reducible refine blockQ.n ?_)
  refine Safe.block ?_
  repeat (first | refine Safe.seq ?_ | refine Safe.skip ?_ | with_reducible refine thenQ.n ?_ | with_reducible refine blockQ.n ?_)
  refine Safe.loopW (fun ((v4_50, v9_51) : (List api_Entry) × Int) => ⟨Try.f10.ntmps, [(1, V.int .i64 a1_21), (4, V.ref [7000, 118, 4] 0 (rws api_Entry.cells v4_50).length), (7, V.sl 3 (rws api_Entry.cells a0_20)), (8, V.int .i64 (a0_20.length : Int)), (9, V.int .i64 v9_51)], [([7000, 118, 4], Obj.rows 3 (rws api_Entry.cells v4_50) false)], [], []⟩) h (.empty [7000, 118, 4] 3 rfl (.cov ⟨rfl, rfl, (upT_cons (.refl _) (upT_cons (.nilref _) (upT_cons (.refl _) (upT_cons (.refl _) (upT_cons (.refl _) upT_nil))))), (upOb_cons rfl (.refl _) upOb_nil), upOut_nil, rfl⟩)) ?_
  rintro ⟨v4_50, v9_51⟩ ohr52 h hr52
  replace h : go_entry_Only_s1 a0_20 a1_21 (v4_50, v9_51) = some ohr52 := h
  rw [go_entry_Only_s1] at h
  repeat (first | refine Safe.seq ?_ | refine Safe.skip ?_ | with_reducible refine thenQ.n ?_ | with_reducible refine blockQ.n ?_)
  refine Safe.region ?_
  refine SafeOps.quiet0 E_good rfl rfl rfl (v := V.bool (decide (v9_51 < (a0_20.length : Int)))) (.fn rfl) ?_
  refine SafeOps.nil ?_
  repeat (first | refine Safe.seq ?_ | refine Safe.skip ?_ | with_reducible refine thenQ.n ?_ | with_reducible refine blockQ.n ?_)
  refine ifG h (fun hc53 h => ?_) (fun hc53 h => ?_)
  · skip
    refine Safe.condK rfl hc53 ?_
    repeat (first | refine Safe.seq ?_ | refine Safe.skip ?_ | with_reducible refine thenQ.n ?_ | with_reducible refine blockQ.n ?_)
    refine Safe.block ?_
    repeat (first | refine Safe.seq ?_ | refine Safe.skip ?_ | with_reducible refine thenQ.n ?_ | with_reducible refine blockQ.n ?_)
    refine Safe.region ?_
    refine okG h (fun hb54 h => ?_)
    refine SafeOps.quiet0 E_good rfl rfl rfl (v := V.spt 3 (rws api_Entry.cells a0_20) (Int.toNat v9_51) 0) (.idxSlM (f := api_Entry.cells) rfl rfl rfl rfl rfl hb54) ?_
    refine SafeOps.quiet0 E_good rfl rfl rfl (v := V.agg [V.int .i64 ((gt a0_20 v9_51).Kind), V.int .i64 ((gt a0_20 v9_51).A), V.int .i64 ((gt a0_20 v9_51).B)]) (.load rfl rfl (.sptM (f := api_Entry.cells) hb54 rfl) rfl) ?_
    refine SafeOps.quiet1 E_good rfl rfl rfl (.alloc rfl rfl) rfl ?_
    refine SafeOps.store (z := Obj.box [V.int .i64 ((gt a0_20 v9_51).Kind), V.int .i64 ((gt a0_20 v9_51).A), V.int .i64 ((gt a0_20 v9_51).B)]) E_good rfl rfl rfl rfl rfl rfl rfl (.boxM (c := 3) rfl rfl (Nat.le_of_ble_eq_true rfl) rfl) ?_
    refine SafeOps.nil ?_
    repeat (first | refine Safe.seq ?_ | refine Safe.skip ?_ | with_reducible refine thenQ.n ?_ | with_reducible refine blockQ.n ?_)
    refine Safe.region ?_
    refine SafeOps.quiet0 E_good rfl rfl rfl (v := V.ptr [6] 0 0) (.fn rfl) ?_
    refine SafeOps.quiet0 E_good rfl rfl rfl (v := V.int .i64 ((gt a0_20 v9_51).Kind)) (.load rfl rfl (.box rfl rfl) rfl) ?_
    refine SafeOps.quiet0 E_good rfl rfl rfl (v := V.int .i64 a1_21) (.fn rfl) ?_
    refine SafeOps.quiet0 E_good rfl rfl rfl (v := V.bool (((gt a0_20 v9_51).Kind) == a1_21)) (.fn rfl) ?_
    refine SafeOps.nil ?_
    repeat (first | refine Safe.seq ?_ | refine Safe.skip ?_ | with_reducible refine thenQ.n ?_ | with_reducible refine blockQ.n ?_)
    refine ifG h (fun hc55 h => ?_) (fun hc55 h => ?_)
    · skip
      refine Safe.condK rfl hc55 ?_
      repeat (first | refine Safe.seq ?_ | refine Safe.skip ?_ | with_reducible refine thenQ.n ?_ | with_reducible refine blockQ.n ?_)
      refine Safe.region ?_
      refine SafeOps.quiet0 E_good rfl rfl rfl (v := V.ref [7000, 118, 4] 0 (rws api_Entry.cells v4_50).length) (.fn rfl) ?_
      refine SafeOps.quiet0 E_good rfl rfl rfl (v := V.agg [V.int .i64 ((gt a0_20 v9_51).Kind), V.int .i64 ((gt a0_20 v9_51).A), V.int .i64 ((gt a0_20 v9_51).B)]) (.load rfl rfl (.box rfl rfl) rfl) ?_
      refine SafeOps.quiet1 E_good rfl rfl rfl (.litM (f := api_Entry.cells) (xs := [(gt a0_20 v9_51)]) rfl rfl (by decide) rfl rfl rfl rfl rfl) rfl ?_
      refine okG h (fun hb56 h => ?_)
      refine SafeOps.appendM api_Entry.cells (xs := v4_50) (ys := [(gt a0_20 v9_51)]) E_good rfl rfl rfl rfl rfl rfl rfl rfl rfl (.own rfl) (.own rfl) (fun _ => rfl) hb56 ?_
      refine SafeOps.quiet0 E_good rfl rfl rfl (v := V.ref [20] 0 (rws api_Entry.cells (v4_50 ++ [(gt a0_20 v9_51)])).length) (.fn rfl) ?_
      refine SafeOps.nil ?_
      repeat (first | refine Safe.seq ?_ | refine Safe.skip ?_ | with_reducible refine thenQ.n ?_ | with_reducible refine blockQ.n ?_)
      refine Safe.region ?_
      refine SafeOps.quiet0 E_good rfl rfl rfl (v := V.int .i64 (IntKind.i64.wrap (v9_51 + 1))) (.fn rfl) ?_
      refine SafeOps.quiet0 E_good rfl rfl rfl (v := V.int .i64 (IntKind.i64.wrap (v9_51 + 1))) (.fn rfl) ?_
      refine SafeOps.nil ?_
      repeat (first | refine Safe.seq ?_ | refine Safe.skip ?_ | with_reducible refine thenQ.n ?_ | with_reducible refine blockQ.n ?_)
      exact ⟨_, next_out h, (.ren [20] [7000, 118, 4] (.cov ⟨rfl, rfl, (upT_cons (.refl _) (upT_cons (.refl _) (upT_cons (.refl _) (upT_cons (.refl _) (upT_cons (.refl _) upT_nil))))), (upOb_cons rfl (.refl _) upOb_nil), upOut_nil, rfl⟩))⟩
    · skip
      refine Safe.condN rfl hc55 ?_
      repeat (first | refine Safe.seq ?_ | refine Safe.skip ?_ | with_reducible refine thenQ.n ?_ | with_reducible refine blockQ.n ?_)
      refine Safe.region ?_
      refine SafeOps.quiet0 E_good rfl rfl rfl (v := V.int .i64 (IntKind.i64.wrap (v9_51 + 1))) (.fn rfl) ?_
      refine SafeOps.quiet0 E_good rfl rfl rfl (v := V.int .i64 (IntKind.i64.wrap (v9_51 + 1))) (.fn rfl) ?_
      refine SafeOps.nil ?_
      repeat (first | refine Safe.seq ?_ | refine Safe.skip ?_ | with_reducible refine thenQ.n ?_ | with_reducible refine blockQ.n ?_)
      exact ⟨_, next_out h, (.cov ⟨rfl, rfl, (upT_cons (.refl _) (upT_cons (.refl _) (upT_cons (.refl _) (upT_cons (.refl _) (upT_cons (.refl _) upT_nil))))), (upOb_cons rfl (.refl _) upOb_nil), upOut_nil, rfl⟩)⟩
  · skip
    refine Safe.condN rfl hc53 ?_
    repeat (first | refine Safe.seq ?_ | refine Safe.skip ?_ | with_reducible refine thenQ.n ?_ | with_reducible refine blockQ.n ?_)
    refine Safe.exit ?_
    repeat (first | with_reducible refine thenQ.e ?_ | with_reducible refine blockQ.x rfl ?_ | with_reducible refine blockQ.y rfl ?_)
    replace h := inr_out h hr52
    repeat (first | refine Safe.seq ?_ | refine Safe.skip ?_ | with_reducible refine thenQ.n ?_ | with_reducible refine blockQ.n ?_)
    refine Safe.region ?_
    refine SafeOps.quiet0 E_good rfl rfl rfl (v := V.ref [7000, 118, 4] 0 (rws api_Entry.cells v4_50).length) (.fn rfl) ?_
    refine SafeOps.quiet0 E_good rfl rfl rfl (v := V.ref [7000, 118, 4] 0 (rws api_Entry.cells v4_50).length) (.fn rfl) ?_
    refine SafeOps.nil ?_
    repeat (first | refine Safe.seq ?_ | refine Safe.skip ?_ | with_reducible refine thenQ.n ?_ | with_reducible refine blockQ.n ?_)
    refine Safe.ret ?_
    repeat (first | with_reducible refine thenQ.r ?_ | with_reducible refine blockQ.r ?_)
    obtain rfl := Option.some.inj h
    exact retQ.gen (vs := [V.ref [7000, 118, 4] 0 (rws api_Entry.cells v4_50).length]) rfl (.tmp (v := V.ref [7000, 118, 4] 0 (rws api_Entry.cells v4_50).length) rfl .nil) (by exact (.own rfl rfl)) (by simp) (.inr rfl)

noncomputable def go_slices_Max_int_int_s1 (a0_93 : List Int) : (Int × Int) → Option ((Int × Int) ⊕ (Int))
  | (v3_115, v4_116) =>
    if (decide (v4_116 < (a0_93.length : Int))) = true then
      if 0 ≤ v4_116 ∧ v4_116 < (a0_93.length : Int) then
        nextO ((if (gt a0_93 v4_116) > v3_115 then (gt a0_93 v4_116) else v3_115), IntKind.i64.wrap (v4_116 + 1))
      else none
    else
      inrO (
        some v3_115)

noncomputable def go_slices_Max_int_int (a0_93 : List Int) : Option Int :=
  if (decide ((a0_93.length : Int) < 1)) = true then
    none
  else
    if 0 ≤ (0 : Int) ∧ (0 : Int) < (a0_93.length : Int) then
      whileO (go_slices_Max_int_int_s1 a0_93) ((gt a0_93 0), 1)
    else none

theorem go_slices_Max_int_int_sc (a0_93 : List Int) (r : Int) (h : go_slices_Max_int_int a0_93 = some r) : SC Try.prog gl 26 [V.sl 1 (rws (fun n => [V.int .i64 n]) a0_93)] (V.int .i64 r) := by
  rw [go_slices_Max_int_int] at h
  refine SC.of E_good Try.func26 rfl (fun _ _ => Try.call26 _ _) rfl ?_
  repeat (first | refine Safe.seq ?_ | refine Safe.skip ?_ | with_reducible refine thenQ.n ?_ | with_reducible refine blockQ.n ?_)
  refine Safe.region ?_
  refine SafeOps.quiet0 E_good rfl rfl rfl (v := V.int .i64 0) (.fn rfl) ?_
  refine SafeOps.nil ?_
  repeat (first | refine Safe.seq ?_ | refine Safe.skip ?_ | with_reducible refine thenQ.n ?_ | with_reducible refine blockQ.n ?_)
  refine Safe.region ?_
  refine SafeOps.quiet0 E_good rfl rfl rfl (v := V.sl 1 (rws (fun n => [V.int .i64 n]) a0_93)) (.fn rfl) ?_
  refine SafeOps.quiet0 E_good rfl rfl rfl (v := V.int .i64 (a0_93.length : Int)) (.fnE rfl lenE) ?_
  refine SafeOps.quiet0 E_good rfl rfl rfl (v := V.bool (decide ((a0_93.length : Int) < 1))) (.fn rfl) ?_
  refine SafeOps.nil ?_
  repeat (first | refine Safe.seq ?_ | refine Safe.skip ?_ | with_reducible refine thenQ.n ?_ | with_reducible refine blockQ.n ?_)
  refine ifG h (fun hc107 h => ?_) (fun hc107 h => ?_)
  · skip
    refine Safe.condK rfl hc107 ?_
    repeat (first | refine Safe.seq ?_ | refine Safe.skip ?_ | with_reducible refine thenQ.n ?_ | with_reducible refine blockQ.n ?_)
    refine Safe.region ?_
    cases h
  · skip
    refine Safe.condN rfl hc107 ?_
    repeat (first | refine Safe.seq ?_ | refine Safe.skip ?_ | with_reducible refine thenQ.n ?_ | with_reducible refine blockQ.n ?_)
    refine Safe.region ?_
    refine SafeOps.quiet0 E_good rfl rfl rfl (v := V.sl 1 (rws (fun n => [V.int .i64 n]) a0_93)) (.fn rfl) ?_
    refine okG h (fun hb108 h => ?_)
    refine SafeOps.quiet0 E_good rfl rfl rfl (v := V.spt 1 (rws (fun n => [V.int .i64 n]) a0_93) (Int.toNat 0) 0) (.idxSlM (f := (fun n => [V.int .i64 n])) rfl rfl rfl rfl rfl hb108) ?_
    refine SafeOps.quiet0 E_good rfl rfl rfl (v := V.int .i64 (gt a0_93 0)) (.load rfl rfl (.sptM (f := (fun n => [V.int .i64 n])) hb108 rfl) rfl) ?_
    refine SafeOps.quiet0 E_good rfl rfl rfl (v := V.int .i64 (gt a0_93 0)) (.fn rfl) ?_
    refine SafeOps.nil ?_
    repeat (first | refine Safe.seq ?_ | refine Safe.skip ?_ | with_reducible refine thenQ.n ?_ | with_reducible refine blockQ.n ?_)
    refine Safe.region ?_
    refine SafeOps.quiet0 E_good rfl rfl rfl (v := V.int .i64 1) (.fn rfl) ?_
    refine SafeOps.nil ?_
    repeat (first | refine Safe.seq ?_ | refine Safe.skip ?_ | with_reducible refine thenQ.n ?_ | with_reducible refine blockQ.n ?_)
    refine Safe.block ?_
    repeat (first | refine Safe.seq ?_ | refine Safe.skip ?_ | with_reducible refine thenQ.n ?_ | with_reducible refine blockQ.n ?_)
    refine Safe.loopW (fun ((v3_115, v4_116) : Int × Int) => ⟨Try.f26.ntmps, [(0, V.sl 1 (rws (fun n => [V.int .i64 n]) a0_93)), (3, V.int .i64 v3_115), (4, V.int .i64 v4_116)], [], [], []⟩) h (.cov ⟨rfl, rfl, (upT_cons (.refl _) (upT_cons (.refl _) (upT_cons (.refl _) upT_nil))), upOb_nil, upOut_nil, rfl⟩) ?_
    rintro ⟨v3_115, v4_116⟩ ohr117 h hr117
    replace h : go_slices_Max_int_int_s1 a0_93 (v3_115, v4_116) = some ohr117 := h
    rw [go_slices_Max_int_int_s1] at h
    repeat (first | refine Safe.seq ?_ | refine Safe.skip ?_ | with_reducible refine thenQ.n ?_ | with_reducible refine blockQ.n ?_)
    refine Safe.region ?_
    refine SafeOps.quiet0 E_good rfl rfl rfl (v := V.int .i64 v4_116) (.fn rfl) ?_
    refine SafeOps.quiet0 E_good rfl rfl rfl (v := V.sl 1 (rws (fun n => [V.int .i64 n]) a0_93)) (.fn rfl) ?_
    refine SafeOps.quiet0 E_good rfl rfl rfl (v := V.int .i64 (a0_93.length : Int)) (.fnE rfl lenE) ?_
    refine SafeOps.quiet0 E_good rfl rfl rfl (v := V.bool (decide (v4_116 < (a0_93.length : Int)))) (.fn rfl) ?_
    refine SafeOps.nil ?_
    repeat (first | refine Safe.seq ?_ | refine Safe.skip ?_ | with_reducible refine thenQ.n ?_ | with_reducible refine blockQ.n ?_)
    refine ifG h (fun hc118 h => ?_) (fun hc118 h => ?_)
    · skip
      refine Safe.condK rfl hc118 ?_
      repeat (first | refine Safe.seq ?_ | refine Safe.skip ?_ | with_reducible refine thenQ.n ?_ | with_reducible refine blockQ.n ?_)
      refine Safe.block ?_
      repeat (first | refine Safe.seq ?_ | refine Safe.skip ?_ | with_reducible refine thenQ.n ?_ | with_reducible refine blockQ.n ?_)
      refine Safe.region ?_
      refine SafeOps.quiet0 E_good rfl rfl rfl (v := V.int .i64 v3_115) (.fn rfl) ?_
      refine SafeOps.quiet0 E_good rfl rfl rfl (v := V.sl 1 (rws (fun n => [V.int .i64 n]) a0_93)) (.fn rfl) ?_
      refine SafeOps.quiet0 E_good rfl rfl rfl (v := V.int .i64 v4_116) (.fn rfl) ?_
      refine okG h (fun hb119 h => ?_)
      refine SafeOps.quiet0 E_good rfl rfl rfl (v := V.spt 1 (rws (fun n => [V.int .i64 n]) a0_93) (Int.toNat v4_116) 0) (.idxSlM (f := (fun n => [V.int .i64 n])) rfl rfl rfl rfl rfl hb119) ?_
      refine SafeOps.quiet0 E_good rfl rfl rfl (v := V.int .i64 (gt a0_93 v4_116)) (.load rfl rfl (.sptM (f := (fun n => [V.int .i64 n])) hb119 rfl) rfl) ?_
      refine SafeOps.quiet0 E_good rfl rfl rfl (v := V.int .i64 (if (gt a0_93 v4_116) > v3_115 then (gt a0_93 v4_116) else v3_115)) (.fn rfl) ?_
      refine SafeOps.quiet0 E_good rfl rfl rfl (v := V.int .i64 (if (gt a0_93 v4_116) > v3_115 then (gt a0_93 v4_116) else v3_115)) (.fn rfl) ?_
      refine SafeOps.nil ?_
      repeat (first | refine Safe.seq ?_ | refine Safe.skip ?_ | with_reducible refine thenQ.n ?_ | with_reducible refine blockQ.n ?_)
      refine Safe.region ?_
      refine SafeOps.quiet0 E_good rfl rfl rfl (v := V.int .i64 v4_116) (.fn rfl) ?_
      refine SafeOps.quiet0 E_good rfl rfl rfl (v := V.int .i64 (IntKind.i64.wrap (v4_116 + 1))) (.fn rfl) ?_
      refine SafeOps.quiet0 E_good rfl rfl rfl (v := V.int .i64 (IntKind.i64.wrap (v4_116 + 1))) (.fn rfl) ?_
      refine SafeOps.nil ?_
      repeat (first | refine Safe.seq ?_ | refine Safe.skip ?_ | with_reducible refine thenQ.n ?_ | with_reducible refine blockQ.n ?_)
      exact ⟨_, next_out h, (.cov ⟨rfl, rfl, (upT_cons (.refl _) (upT_cons (.refl _) (upT_cons (.refl _) upT_nil))), upOb_nil, upOut_nil, rfl⟩)⟩
    · skip
      refine Safe.condN rfl hc118 ?_
      repeat (first | refine Safe.seq ?_ | refine Safe.skip ?_ | with_reducible refine thenQ.n ?_ | with_reducible refine blockQ.n ?_)
      refine Safe.exit ?_
      repeat (first | with_reducible refine thenQ.e ?_ | with_reducible refine blockQ.x rfl ?_ | with_reducible refine blockQ.y rfl ?_)
      replace h := inr_out h hr117
      repeat (first | refine Safe.seq ?_ | refine Safe.skip ?_ | with_reducible refine thenQ.n ?_ | with_reducible refine blockQ.n ?_)
      refine Safe.region ?_
      refine SafeOps.quiet0 E_good rfl rfl rfl (v := V.int .i64 v3_115) (.fn rfl) ?_
      refine SafeOps.quiet0 E_good rfl rfl rfl (v := V.int .i64 v3_115) (.fn rfl) ?_
      refine SafeOps.nil ?_
      repeat (first | refine Safe.seq ?_ | refine Safe.skip ?_ | with_reducible refine thenQ.n ?_ | with_reducible refine blockQ.n ?_)
      refine Safe.ret ?_
      repeat (first | with_reducible refine thenQ.r ?_ | with_reducible refine blockQ.r ?_)
      obtain rfl := Option.some.inj h
      exact retQ.gen (vs := [V.int .i64 v3_115]) rfl (.tmp (v := V.int .i64 v3_115) rfl .nil) (.free rfl) (by simp) (.inr rfl)

noncomputable def go_entry_Fair_j10 (x_221 : List api_Entry) (v9_310 : Int) (v10_311 : Bool) (v26_312 : Int) (v8_340 : List Int) (b_350 : Bool) : Option (((List Int) × Int × Bool × Int) ⊕ (Bool × Int)) :=
  if b_350 = true then
    nextO (st v8_340 ((gt x_221 v26_312).A) 0, IntKind.i64.wrap (v9_310 + 1), false, IntKind.i64.wrap (v26_312 + 1))
  else
    nextO (st v8_340 ((gt x_221 v26_312).A) 0, IntKind.i64.wrap (v9_310 + 1), v10_311, IntKind.i64.wrap (v26_312 + 1))

noncomputable def go_entry_Fair_s9 (a2_8 : Int) (x_221 : List api_Entry) (v8_309 : List Int) (v9_310 : Int) (v10_311 : Bool) (v26_312 : Int) : ((List Int) × Int) → Option (((List Int) × Int) ⊕ (((List Int) × Int × Bool × Int) ⊕ (Bool × Int)))
  | (v8_340, v43_341) =>
    if (decide (v43_341 < (v8_309.length : Int))) = true then
      if 0 ≤ v43_341 ∧ v43_341 < (v8_340.length : Int) then
        if 0 ≤ v43_341 ∧ v43_341 < (v8_340.length : Int) then
          nextO (st v8_340 v43_341 (IntKind.i64.wrap ((gt v8_340 v43_341) + 1)), IntKind.i64.wrap (v43_341 + 1))
        else none
      else none
    else
      inrO (
        if 0 ≤ ((gt x_221 v26_312).A) ∧ ((gt x_221 v26_312).A) < (v8_340.length : Int) then
          if (decide ((IntKind.i64.wrap (v9_310 + 1)) ≥ a2_8)) = true then
            (go_slices_Max_int_int (st v8_340 ((gt x_221 v26_312).A) 0)).bind fun x_353 =>
            go_entry_Fair_j10 x_221 v9_310 v10_311 v26_312 v8_340 (decide (x_353 ≥ a2_8))
          else
            go_entry_Fair_j10 x_221 v9_310 v10_311 v26_312 v8_340 false
        else none)

noncomputable def go_entry_Fair_s7 (a1_7 : Int) (a2_8 : Int) (x_221 : List api_Entry) : ((List Int) × Int × Bool × Int) → Option (((List Int) × Int × Bool × Int) ⊕ (Bool × Int))
  | (v8_309, v9_310, v10_311, v26_312) =>
    if (decide (v26_312 < (x_221.length : Int))) = true then
      if 0 ≤ v26_312 ∧ v26_312 < (x_221.length : Int) then
        if ((decide (((gt x_221 v26_312).A) < 0)) || (decide (((gt x_221 v26_312).A) ≥ a1_7))) = true then
          inrO (
            some (false, 0))
        else
          whileO (go_entry_Fair_s9 a2_8 x_221 v8_309 v9_310 v10_311 v26_312) (v8_309, 0)
      else none
    else
      inrO (
        some (v10_311, 0))

noncomputable def go_entry_Fair (a0_6 : List api_Entry) (a1_7 : Int) (a2_8 : Int) : Option (Bool × Int) :=
  if ((!(go_entry_within a1_7 1 64)) || (decide (a2_8 < 1))) = true then
    some (false, 1)
  else
    if 0 ≤ a1_7 ∧ a1_7 ≤ a1_7 ∧ a1_7 ≤ 549755813888 then
      (go_entry_Only a0_6 0).bind fun x_221 =>
      whileO (go_entry_Fair_s7 a1_7 a2_8 x_221) (List.replicate (Int.toNat a1_7) (0 : Int), 0, true, 0)
    else none

theorem go_entry_Fair_sc (a0_6 : List api_Entry) (a1_7 : Int) (a2_8 : Int) (r : Bool × Int) (h : go_entry_Fair a0_6 a1_7 a2_8 = some r) : SC Try.prog gl 9 [V.sl 3 (rws api_Entry.cells a0_6), V.int .i64 a1_7, V.int .i64 a2_8] (V.tup [V.bool r.1, V.int .i64 r.2]) := by
  rw [go_entry_Fair] at h
  refine SC.of E_good Try.func9 rfl (fun _ _ => Try.call9 _ _) rfl ?_
  repeat (first | refine Safe.seq ?_ | refine Safe.skip ?_ | with_reducible refine thenQ.n ?_ | with_reducible refine blockQ.n ?_)
  refine Safe.region ?_
  refine SafeOps.quiet0 E_good rfl rfl rfl (v := V.bool false) (.fn rfl) ?_
  refine SafeOps.quiet0 E_good rfl rfl rfl (v := V.int .i64 0) (.fn rfl) ?_
  refine SafeOps.nil ?_
  repeat (first | refine Safe.seq ?_ | refine Safe.skip ?_ | with_reducible refine thenQ.n ?_ | with_reducible refine blockQ.n ?_)
  refine Safe.region ?_
  refine SafeOps.quiet0 E_good rfl rfl rfl (v := V.int .i64 a1_7) (.fn rfl) ?_
  refine SafeOps.quiet0 E_good rfl rfl rfl (v := V.bool (go_entry_within a1_7 1 64)) (.callP rfl rfl (go_entry_within_sc a1_7 1 64 _ rfl) rfl) ?_
  refine SafeOps.quiet0 E_good rfl rfl rfl (v := V.bool (!(go_entry_within a1_7 1 64))) (.fn rfl) ?_
  refine SafeOps.quiet0 E_good rfl rfl rfl (v := V.bool (!(go_entry_within a1_7 1 64))) (.fn rfl) ?_
  refine SafeOps.bjoin 3 20 (b := ((!(go_entry_within a1_7 1 64)) || (decide (a2_8 < 1)))) (b1 := true) (b0 := decide (a2_8 < 1)) (fun hc218 K => ?_) (fun hc218 K => ?_) bj_or ?_
  · skip
    refine SafeOps.skip (congrArg (fun b => some (!b)) hc218) rfl rfl ?_
    refine SafeOps.skip (congrArg (fun b => some (!b)) hc218) rfl rfl ?_
    refine SafeOps.quiet0 E_good rfl rfl rfl (v := V.bool true) (.pickK rfl hc218 rfl) ?_
    exact SafeOps.drop' 3 rfl rfl rfl K
  · skip
    refine SafeOps.quiet0 E_good (congrArg (fun b => some (!b)) hc218) rfl rfl (v := V.int .i64 a2_8) (.fn rfl) ?_
    refine SafeOps.quiet0 E_good (congrArg (fun b => some (!b)) hc218) rfl rfl (v := V.bool (decide (a2_8 < 1))) (.fn rfl) ?_
    refine SafeOps.quiet0 E_good rfl rfl rfl (v := V.bool (decide (a2_8 < 1))) (.pickK rfl hc218 rfl) ?_
    exact SafeOps.drop' 3 rfl rfl rfl K
  refine SafeOps.nil ?_
  repeat (first | refine Safe.seq ?_ | refine Safe.skip ?_ | with_reducible refine thenQ.n ?_ | with_reducible refine blockQ.n ?_)
  refine ifG h (fun hc219 h => ?_) (fun hc219 h => ?_)
  · skip
    refine Safe.condK rfl hc219 ?_
    repeat (first | refine Safe.seq ?_ | refine Safe.skip ?_ | with_reducible refine thenQ.n ?_ | with_reducible refine blockQ.n ?_)
    refine Safe.region ?_
    refine SafeOps.quiet0 E_good rfl rfl rfl (v := V.bool false) (.fn rfl) ?_
    refine SafeOps.quiet0 E_good rfl rfl rfl (v := V.int .i64 1) (.fn rfl) ?_
    refine SafeOps.nil ?_
    repeat (first | refine Safe.seq ?_ | refine Safe.skip ?_ | with_reducible refine thenQ.n ?_ | with_reducible refine blockQ.n ?_)
    refine Safe.ret ?_
    repeat (first | with_reducible refine thenQ.r ?_ | with_reducible refine blockQ.r ?_)
    obtain rfl := Option.some.inj h
    exact retQ.gen (vs := [V.bool false, V.int .i64 1]) rfl (.tmp (v := V.bool false) rfl (.tmp (v := V.int .i64 1) rfl .nil)) (.free rfl) (by simp) (.inr rfl)
  · skip
    refine Safe.condN rfl hc219 ?_
    repeat (first | refine Safe.seq ?_ | refine Safe.skip ?_ | with_reducible refine thenQ.n ?_ | with_reducible refine blockQ.n ?_)
    refine Safe.region ?_
    refine SafeOps.quiet0 E_good rfl rfl rfl (v := V.int .i64 a1_7) (.fn rfl) ?_
    refine okG h (fun hb220 h => ?_)
    refine SafeOps.quiet1 E_good rfl rfl rfl (.makeM (f := (fun n => [V.int .i64 n])) (d := (0 : Int)) rfl rfl rfl rfl hb220 rfl rfl rfl) rfl ?_
    refine SafeOps.quiet0 E_good rfl rfl rfl (v := V.ref [22] 0 (rws (fun n => [V.int .i64 n]) (List.replicate (Int.toNat a1_7) (0 : Int))).length) (.fn rfl) ?_
    refine SafeOps.quiet0 E_good rfl rfl rfl (v := V.int .i64 0) (.fn rfl) ?_
    refine SafeOps.nil ?_
    repeat (first | refine Safe.seq ?_ | refine Safe.skip ?_ | with_reducible refine thenQ.n ?_ | with_reducible refine blockQ.n ?_)
    refine Safe.region ?_
    refine SafeOps.quiet0 E_good rfl rfl rfl (v := V.bool true) (.fn rfl) ?_
    refine SafeOps.nil ?_
    repeat (first | refine Safe.seq ?_ | refine Safe.skip ?_ | with_reducible refine thenQ.n ?_ | with_reducible refine blockQ.n ?_)
    refine Safe.region ?_
    refine SafeOps.quiet0 E_good rfl rfl rfl (v := V.sl 3 (rws api_Entry.cells a0_6)) (.fn rfl) ?_
    refine bindG h ?_
    intro x_221 he222 h
    refine SafeOps.quiet E_good rfl rfl rfl (v := V.ref [24, 0] 0 (rws api_Entry.cells x_221).length) (.callP rfl rfl (go_entry_Only_sc a0_6 0 _ he222) rfl) rfl ?_
    refine SafeOps.quiet0 E_good rfl rfl rfl (v := V.int .i64 (x_221.length : Int)) (.fnE rfl lenE) ?_
    refine SafeOps.quiet0 E_good rfl rfl rfl (v := V.int .i64 0) (.fn rfl) ?_
    refine SafeOps.nil ?_
    repeat (first | refine Safe.seq ?_ | refine Safe.skip ?_ | with_reducible refine thenQ.n ?_ | with_reducible refine blockQ.n ?_)
    refine Safe.block ?_
    repeat (first | refine Safe.seq ?_ | refine Safe.skip ?_ | with_reducible refine thenQ.n ?_ | with_reducible refine blockQ.n ?_)
    refine Safe.loopW (fun ((v8_309, v9_310, v10_311, v26_312) : (List Int) × Int × Bool × Int) => ⟨Try.f9.ntmps, [(1, V.int .i64 a1_7), (2, V.int .i64 a2_8), (8, V.ref [22] 0 (rws (fun n => [V.int .i64 n]) v8_309).length), (9, V.int .i64 v9_310), (10, V.bool v10_311), (24, V.ref [24, 0] 0 (rws api_Entry.cells x_221).length), (25, V.int .i64 (x_221.length : Int)), (26, V.int .i64 v26_312)], [([22], Obj.rows 1 (rws (fun n => [V.int .i64 n]) v8_309) false), ([24, 0], Obj.rows 3 (rws api_Entry.cells x_221) false)], [], []⟩) h (.cov ⟨rfl, rfl, (upT_cons (.refl _) (upT_cons (.refl _) (upT_cons (.refl _) (upT_cons (.refl _) (upT_cons (.refl _) (upT_cons (.refl _) (upT_cons (.refl _) (upT_cons (.refl _) upT_nil)))))))), (upOb_cons rfl (.refl _) (upOb_cons rfl (.refl _) upOb_nil)), upOut_nil, rfl⟩) ?_
    rintro ⟨v8_309, v9_310, v10_311, v26_312⟩ ohr313 h hr313
    replace h : go_entry_Fair_s7 a1_7 a2_8 x_221 (v8_309, v9_310, v10_311, v26_312) = some ohr313 := h
    rw [go_entry_Fair_s7] at h
    repeat (first | refine Safe.seq ?_ | refine Safe.skip ?_ | with_reducible refine thenQ.n ?_ | with_reducible refine blockQ.n ?_)
    refine Safe.region ?_
    refine SafeOps.quiet0 E_good rfl rfl rfl (v := V.bool (decide (v26_312 < (x_221.length : Int)))) (.fn rfl) ?_
    refine SafeOps.nil ?_
    repeat (first | refine Safe.seq ?_ | refine Safe.skip ?_ | with_reducible refine thenQ.n ?_ | with_reducible refine blockQ.n ?_)
    refine ifG h (fun hc314 h => ?_) (fun hc314 h => ?_)
    · skip
      refine Safe.condK rfl hc314 ?_
      repeat (first | refine Safe.seq ?_ | refine Safe.skip ?_ | with_reducible refine thenQ.n ?_ | with_reducible refine blockQ.n ?_)
      refine Safe.block ?_
      repeat (first | refine Safe.seq ?_ | refine Safe.skip ?_ | with_reducible refine thenQ.n ?_ | with_reducible refine blockQ.n ?_)
      refine Safe.region ?_
      refine okG h (fun hb315 h => ?_)
      refine SafeOps.quiet0 E_good rfl rfl rfl (v := V.ptr [24, 0] (0 + Int.toNat v26_312) 0) (.idxRefM (f := api_Entry.cells) (xs := x_221) rfl rfl rfl rfl rfl rfl hb315) ?_
      refine SafeOps.quiet0 E_good rfl rfl rfl (v := V.agg [V.int .i64 ((gt x_221 v26_312).Kind), V.int .i64 ((gt x_221 v26_312).A), V.int .i64 ((gt x_221 v26_312).B)]) (.load rfl rfl (.rowsM (f := api_Entry.cells) (xs := x_221) hb315 rfl rfl) rfl) ?_
      refine SafeOps.quiet1 E_good rfl rfl rfl (.alloc rfl rfl) rfl ?_
      refine SafeOps.store (z := Obj.box [V.int .i64 ((gt x_221 v26_312).Kind), V.int .i64 ((gt x_221 v26_312).A), V.int .i64 ((gt x_221 v26_312).B)]) E_good rfl rfl rfl rfl rfl rfl rfl (.boxM (c := 3) rfl rfl (Nat.le_of_ble_eq_true rfl) rfl) ?_
      refine SafeOps.nil ?_
      repeat (first | refine Safe.seq ?_ | refine Safe.skip ?_ | with_reducible refine thenQ.n ?_ | with_reducible refine blockQ.n ?_)
      refine Safe.region ?_
      refine SafeOps.quiet0 E_good rfl rfl rfl (v := V.ptr [12] 0 1) (.fn rfl) ?_
      refine SafeOps.quiet0 E_good rfl rfl rfl (v := V.int .i64 ((gt x_221 v26_312).A)) (.load rfl rfl (.box rfl rfl) rfl) ?_
      refine SafeOps.quiet0 E_good rfl rfl rfl (v := V.bool (decide (((gt x_221 v26_312).A) < 0))) (.fn rfl) ?_
      refine SafeOps.quiet0 E_good rfl rfl rfl (v := V.bool (decide (((gt x_221 v26_312).A) < 0))) (.fn rfl) ?_
      refine SafeOps.bjoin 5 38 (b := ((decide (((gt x_221 v26_312).A) < 0)) || (decide (((gt x_221 v26_312).A) ≥ a1_7)))) (b1 := true) (b0 := decide (((gt x_221 v26_312).A) ≥ a1_7)) (fun hc316 K => ?_) (fun hc316 K => ?_) bj_or ?_
      · skip
        refine SafeOps.skip (congrArg (fun b => some (!b)) hc316) rfl rfl ?_
        refine SafeOps.skip (congrArg (fun b => some (!b)) hc316) rfl rfl ?_
        refine SafeOps.skip (congrArg (fun b => some (!b)) hc316) rfl rfl ?_
        refine SafeOps.skip (congrArg (fun b => some (!b)) hc316) rfl rfl ?_
        refine SafeOps.quiet0 E_good rfl rfl rfl (v := V.bool true) (.pickK rfl hc316 rfl) ?_
        exact SafeOps.drop' 5 rfl rfl rfl K
      · skip
        refine SafeOps.quiet0 E_good (congrArg (fun b => some (!b)) hc316) rfl rfl (v := V.ptr [12] 0 1) (.fn rfl) ?_
        refine SafeOps.quiet0 E_good (congrArg (fun b => some (!b)) hc316) rfl rfl (v := V.int .i64 ((gt x_221 v26_312).A)) (.load rfl rfl (.box rfl rfl) rfl) ?_
        refine SafeOps.quiet0 E_good (congrArg (fun b => some (!b)) hc316) rfl rfl (v := V.int .i64 a1_7) (.fn rfl) ?_
        refine SafeOps.quiet0 E_good (congrArg (fun b => some (!b)) hc316) rfl rfl (v := V.bool (decide (((gt x_221 v26_312).A) ≥ a1_7))) (.fn rfl) ?_
        refine SafeOps.quiet0 E_good rfl rfl rfl (v := V.bool (decide (((gt x_221 v26_312).A) ≥ a1_7))) (.pickK rfl hc316 rfl) ?_
        exact SafeOps.drop' 5 rfl rfl rfl K
      refine SafeOps.nil ?_
      repeat (first | refine Safe.seq ?_ | refine Safe.skip ?_ | with_reducible refine thenQ.n ?_ | with_reducible refine blockQ.n ?_)
      refine ifG h (fun hc317 h => ?_) (fun hc317 h => ?_)
      · skip
        refine Safe.condK rfl hc317 ?_
        repeat (first | refine Safe.seq ?_ | refine Safe.skip ?_ | with_reducible refine thenQ.n ?_ | with_reducible refine blockQ.n ?_)
        refine Safe.region ?_
        refine SafeOps.quiet0 E_good rfl rfl rfl (v := V.bool false) (.fn rfl) ?_
        refine SafeOps.quiet0 E_good rfl rfl rfl (v := V.int .i64 0) (.fn rfl) ?_
        refine SafeOps.nil ?_
        repeat (first | refine Safe.seq ?_ | refine Safe.skip ?_ | with_reducible refine thenQ.n ?_ | with_reducible refine blockQ.n ?_)
        refine Safe.ret ?_
        repeat (first | with_reducible refine thenQ.r ?_ | with_reducible refine blockQ.r ?_)
        replace h := inr_out h hr313
        obtain rfl := Option.some.inj h
        exact retQ.gen (vs := [V.bool false, V.int .i64 0]) rfl (.tmp (v := V.bool false) rfl (.tmp (v := V.int .i64 0) rfl .nil)) (.free rfl) (by simp) (.inr rfl)
      · skip
        refine Safe.condN rfl hc317 ?_
        repeat (first | refine Safe.seq ?_ | refine Safe.skip ?_ | with_reducible refine thenQ.n ?_ | with_reducible refine blockQ.n ?_)
        refine Safe.region ?_
        refine SafeOps.quiet0 E_good rfl rfl rfl (v := V.int .i64 v9_310) (.fn rfl) ?_
        refine SafeOps.quiet0 E_good rfl rfl rfl (v := V.int .i64 (IntKind.i64.wrap (v9_310 + 1))) (.fn rfl) ?_
        refine SafeOps.quiet0 E_good rfl rfl rfl (v := V.int .i64 (IntKind.i64.wrap (v9_310 + 1))) (.fn rfl) ?_
        refine SafeOps.nil ?_
        repeat (first | refine Safe.seq ?_ | refine Safe.skip ?_ | with_reducible refine thenQ.n ?_ | with_reducible refine blockQ.n ?_)
        refine Safe.region ?_
        refine SafeOps.quiet0 E_good rfl rfl rfl (v := V.ref [22] 0 (rws (fun n => [V.int .i64 n]) v8_309).length) (.fn rfl) ?_
        refine SafeOps.quiet0 E_good rfl rfl rfl (v := V.int .i64 (v8_309.length : Int)) (.fnE rfl lenE) ?_
        refine SafeOps.quiet0 E_good rfl rfl rfl (v := V.int .i64 0) (.fn rfl) ?_
        refine SafeOps.nil ?_
        repeat (first | refine Safe.seq ?_ | refine Safe.skip ?_ | with_reducible refine thenQ.n ?_ | with_reducible refine blockQ.n ?_)
        refine Safe.block ?_
        repeat (first | refine Safe.seq ?_ | refine Safe.skip ?_ | with_reducible refine thenQ.n ?_ | with_reducible refine blockQ.n ?_)
        refine Safe.loopW (fun ((v8_340, v43_341) : (List Int) × Int) => ⟨Try.f9.ntmps, [(1, V.int .i64 a1_7), (2, V.int .i64 a2_8), (8, V.ref [22] 0 (rws (fun n => [V.int .i64 n]) v8_340).length), (9, V.int .i64 (IntKind.i64.wrap (v9_310 + 1))), (10, V.bool v10_311), (12, V.ptr [12] 0 0), (24, V.ref [24, 0] 0 (rws api_Entry.cells x_221).length), (25, V.int .i64 (x_221.length : Int)), (26, V.int .i64 v26_312), (42, V.int .i64 (v8_309.length : Int)), (43, V.int .i64 v43_341)], [([12], Obj.box [V.int .i64 ((gt x_221 v26_312).Kind), V.int .i64 ((gt x_221 v26_312).A), V.int .i64 ((gt x_221 v26_312).B)]), ([22], Obj.rows 1 (rws (fun n => [V.int .i64 n]) v8_340) false), ([24, 0], Obj.rows 3 (rws api_Entry.cells x_221) false)], [], []⟩) h (.cov ⟨rfl, rfl, (upT_cons (.refl _) (upT_cons (.refl _) (upT_cons (.refl _) (upT_cons (.refl _) (upT_cons (.refl _) (upT_cons (.refl _) (upT_cons (.refl _) (upT_cons (.refl _) (upT_cons (.refl _) (upT_cons (.refl _) (upT_cons (.refl _) upT_nil))))))))))), (upOb_cons rfl (.refl _) (upOb_cons rfl (.refl _) (upOb_cons rfl (.refl _) upOb_nil))), upOut_nil, rfl⟩) ?_
        rintro ⟨v8_340, v43_341⟩ ohr342 h hr342
        replace h : go_entry_Fair_s9 a2_8 x_221 v8_309 v9_310 v10_311 v26_312 (v8_340, v43_341) = some ohr342 := h
        rw [go_entry_Fair_s9] at h
        repeat (first | refine Safe.seq ?_ | refine Safe.skip ?_ | with_reducible refine thenQ.n ?_ | with_reducible refine blockQ.n ?_)
        refine Safe.region ?_
        refine SafeOps.quiet0 E_good rfl rfl rfl (v := V.bool (decide (v43_341 < (v8_309.length : Int)))) (.fn rfl) ?_
        refine SafeOps.nil ?_
        repeat (first | refine Safe.seq ?_ | refine Safe.skip ?_ | with_reducible refine thenQ.n ?_ | with_reducible refine blockQ.n ?_)
        refine ifG h (fun hc343 h => ?_) (fun hc343 h => ?_)
        · skip
          refine Safe.condK rfl hc343 ?_
          repeat (first | refine Safe.seq ?_ | refine Safe.skip ?_ | with_reducible refine thenQ.n ?_ | with_reducible refine blockQ.n ?_)
          refine Safe.block ?_
          repeat (first | refine Safe.seq ?_ | refine Safe.skip ?_ | with_reducible refine thenQ.n ?_ | with_reducible refine blockQ.n ?_)
          refine Safe.region ?_
          refine SafeOps.quiet0 E_good rfl rfl rfl (v := V.int .i64 v43_341) (.fn rfl) ?_
          refine SafeOps.quiet0 E_good rfl rfl rfl (v := V.int .i64 v43_341) (.fn rfl) ?_
          refine SafeOps.nil ?_
          repeat (first | refine Safe.seq ?_ | refine Safe.skip ?_ | with_reducible refine thenQ.n ?_ | with_reducible refine blockQ.n ?_)
          refine Safe.region ?_
          refine SafeOps.quiet0 E_good rfl rfl rfl (v := V.ref [22] 0 (rws (fun n => [V.int .i64 n]) v8_340).length) (.fn rfl) ?_
          refine SafeOps.quiet0 E_good rfl rfl rfl (v := V.int .i64 v43_341) (.fn rfl) ?_
          refine okG h (fun hb344 h => ?_)
          refine SafeOps.quiet0 E_good rfl rfl rfl (v := V.ptr [22] (0 + Int.toNat v43_341) 0) (.idxRefM (f := (fun n => [V.int .i64 n])) (xs := v8_340) rfl rfl rfl rfl rfl rfl hb344) ?_
          refine SafeOps.quiet0 E_good rfl rfl rfl (v := V.int .i64 (gt v8_340 v43_341)) (.load rfl rfl (.rowsM (f := (fun n => [V.int .i64 n])) (xs := v8_340) hb344 rfl rfl) rfl) ?_
          refine SafeOps.quiet0 E_good rfl rfl rfl (v := V.int .i64 (IntKind.i64.wrap ((gt v8_340 v43_341) + 1))) (.fn rfl) ?_
          refine okG h (fun hb345 h => ?_)
          refine SafeOps.quiet0 E_good rfl rfl rfl (v := V.ptr [22] (0 + Int.toNat v43_341) 0) (.idxRefM (f := (fun n => [V.int .i64 n])) (xs := v8_340) rfl rfl rfl rfl rfl rfl hb345) ?_
          refine SafeOps.store (z := Obj.rows 1 (rws (fun n => [V.int .i64 n]) (st v8_340 v43_341 (IntKind.i64.wrap ((gt v8_340 v43_341) + 1)))) false) E_good rfl rfl rfl rfl rfl rfl rfl (.rowsM (f := (fun n => [V.int .i64 n])) (xs := v8_340) (y := IntKind.i64.wrap ((gt v8_340 v43_341) + 1)) hb345 rfl rfl rfl rfl) ?_
          refine SafeOps.see 8 (u := V.ref [22] 0 (rws (fun n => [V.int .i64 n]) (st v8_340 v43_341 (IntKind.i64.wrap ((gt v8_340 v43_341) + 1)))).length) rfl (.len (by simp [rws, st])) ?_
          refine SafeOps.see 46 (u := V.ref [22] 0 (rws (fun n => [V.int .i64 n]) (st v8_340 v43_341 (IntKind.i64.wrap ((gt v8_340 v43_341) + 1)))).length) rfl (.len (by simp [rws, st])) ?_
          refine SafeOps.nil ?_
          repeat (first | refine Safe.seq ?_ | refine Safe.skip ?_ | with_reducible refine thenQ.n ?_ | with_reducible refine blockQ.n ?_)
          refine Safe.region ?_
          refine SafeOps.quiet0 E_good rfl rfl rfl (v := V.int .i64 (IntKind.i64.wrap (v43_341 + 1))) (.fn rfl) ?_
          refine SafeOps.quiet0 E_good rfl rfl rfl (v := V.int .i64 (IntKind.i64.wrap (v43_341 + 1))) (.fn rfl) ?_
          refine SafeOps.nil ?_
          repeat (first | refine Safe.seq ?_ | refine Safe.skip ?_ | with_reducible refine thenQ.n ?_ | with_reducible refine blockQ.n ?_)
          exact ⟨_, next_out h, (.cov ⟨rfl, rfl, (upT_cons (.refl _) (upT_cons (.refl _) (upT_cons (.refl _) (upT_cons (.refl _) (upT_cons (.refl _) (upT_cons (.refl _) (upT_cons (.refl _) (upT_cons (.refl _) (upT_cons (.refl _) (upT_cons (.refl _) (upT_cons (.refl _) upT_nil))))))))))), (upOb_cons rfl (.refl _) (upOb_cons rfl (.refl _) (upOb_cons rfl (.refl _) upOb_nil))), upOut_nil, rfl⟩)⟩
        · skip
          refine Safe.condN rfl hc343 ?_
          repeat (first | refine Safe.seq ?_ | refine Safe.skip ?_ | with_reducible refine thenQ.n ?_ | with_reducible refine blockQ.n ?_)
          refine Safe.exit ?_
          repeat (first | with_reducible refine thenQ.e ?_ | with_reducible refine blockQ.x rfl ?_ | with_reducible refine blockQ.y rfl ?_)
          replace h := inr_out h hr342
          repeat (first | refine Safe.seq ?_ | refine Safe.skip ?_ | with_reducible refine thenQ.n ?_ | with_reducible refine blockQ.n ?_)
          refine Safe.region ?_
          refine SafeOps.quiet0 E_good rfl rfl rfl (v := V.ref [22] 0 (rws (fun n => [V.int .i64 n]) v8_340).length) (.fn rfl) ?_
          refine SafeOps.quiet0 E_good rfl rfl rfl (v := V.ptr [12] 0 1) (.fn rfl) ?_
          refine SafeOps.quiet0 E_good rfl rfl rfl (v := V.int .i64 ((gt x_221 v26_312).A)) (.load rfl rfl (.box rfl rfl) rfl) ?_
          refine okG h (fun hb346 h => ?_)
          refine SafeOps.quiet0 E_good rfl rfl rfl (v := V.ptr [22] (0 + Int.toNat ((gt x_221 v26_312).A)) 0) (.idxRefM (f := (fun n => [V.int .i64 n])) (xs := v8_340) rfl rfl rfl rfl rfl rfl hb346) ?_
          refine SafeOps.store (z := Obj.rows 1 (rws (fun n => [V.int .i64 n]) (st v8_340 ((gt x_221 v26_312).A) 0)) false) E_good rfl rfl rfl rfl rfl rfl rfl (.rowsM (f := (fun n => [V.int .i64 n])) (xs := v8_340) (y := 0) hb346 rfl rfl rfl rfl) ?_
          refine SafeOps.see 8 (u := V.ref [22] 0 (rws (fun n => [V.int .i64 n]) (st v8_340 ((gt x_221 v26_312).A) 0)).length) rfl (.len (by simp [rws, st])) ?_
          refine SafeOps.see 53 (u := V.ref [22] 0 (rws (fun n => [V.int .i64 n]) (st v8_340 ((gt x_221 v26_312).A) 0)).length) rfl (.len (by simp [rws, st])) ?_
          refine SafeOps.nil ?_
          repeat (first | refine Safe.seq ?_ | refine Safe.skip ?_ | with_reducible refine thenQ.n ?_ | with_reducible refine blockQ.n ?_)
          refine Safe.region ?_
          refine SafeOps.quiet0 E_good rfl rfl rfl (v := V.int .i64 (IntKind.i64.wrap (v9_310 + 1))) (.fn rfl) ?_
          refine SafeOps.quiet0 E_good rfl rfl rfl (v := V.int .i64 a2_8) (.fn rfl) ?_
          refine SafeOps.quiet0 E_good rfl rfl rfl (v := V.bool (decide ((IntKind.i64.wrap (v9_310 + 1)) ≥ a2_8))) (.fn rfl) ?_
          refine SafeOps.quiet0 E_good rfl rfl rfl (v := V.bool (decide ((IntKind.i64.wrap (v9_310 + 1)) ≥ a2_8))) (.fn rfl) ?_
          refine SafeOps.bsplit 5 65 (fun b_350 => go_entry_Fair_j10 x_221 v9_310 v10_311 v26_312 v8_340 b_350 = some ohr313) (fun HJ351 => ?_) (fun b_350 h => ?_)
          · refine ifG h (fun hc347 h => ?_) (fun hc347 h => ?_)
            · skip
              refine SafeOps.quiet0 E_good (congrArg some hc347) rfl rfl (v := V.ref [22] 0 (rws (fun n => [V.int .i64 n]) (st v8_340 ((gt x_221 v26_312).A) 0)).length) (.fn rfl) ?_
              refine bindG h ?_
              intro x_353 he354 h
              refine SafeOps.quiet0 E_good (congrArg some hc347) rfl rfl (v := V.int .i64 x_353) (.callS rfl (.cons (.full rfl rfl) .nil) (go_slices_Max_int_int_sc (st v8_340 ((gt x_221 v26_312).A) 0) _ he354) (.plain rfl) rfl) ?_
              refine SafeOps.quiet0 E_good (congrArg some hc347) rfl rfl (v := V.int .i64 a2_8) (.fn rfl) ?_
              refine SafeOps.quiet0 E_good (congrArg some hc347) rfl rfl (v := V.bool (decide (x_353 ≥ a2_8))) (.fn rfl) ?_
              refine SafeOps.quiet0 E_good rfl rfl rfl (v := V.bool (decide (x_353 ≥ a2_8))) (.pickK rfl hc347 rfl) ?_
              exact SafeOps.drop' 5 rfl rfl rfl (HJ351 _ h)
            · skip
              refine SafeOps.skip (congrArg some hc347) rfl rfl ?_
              refine SafeOps.skip (congrArg some hc347) rfl rfl ?_
              refine SafeOps.skip (congrArg some hc347) rfl rfl ?_
              refine SafeOps.skip (congrArg some hc347) rfl rfl ?_
              refine SafeOps.quiet0 E_good rfl rfl rfl (v := V.bool false) (.pickK rfl hc347 rfl) ?_
              exact SafeOps.drop' 5 rfl rfl rfl (HJ351 _ h)
          · replace h : go_entry_Fair_j10 x_221 v9_310 v10_311 v26_312 v8_340 b_350 = some ohr313 := h
            rw [go_entry_Fair_j10] at h
            refine SafeOps.nil ?_
            repeat (first | refine Safe.seq ?_ | refine Safe.skip ?_ | with_reducible refine thenQ.n ?_ | with_reducible refine blockQ.n ?_)
            refine ifG h (fun hc352 h => ?_) (fun hc352 h => ?_)
            · skip
              refine Safe.condK rfl hc352 ?_
              repeat (first | refine Safe.seq ?_ | refine Safe.skip ?_ | with_reducible refine thenQ.n ?_ | with_reducible refine blockQ.n ?_)
              refine Safe.region ?_
              refine SafeOps.quiet0 E_good rfl rfl rfl (v := V.bool false) (.fn rfl) ?_
              refine SafeOps.nil ?_
              repeat (first | refine Safe.seq ?_ | refine Safe.skip ?_ | with_reducible refine thenQ.n ?_ | with_reducible refine blockQ.n ?_)
              refine Safe.region ?_
              refine SafeOps.quiet0 E_good rfl rfl rfl (v := V.int .i64 (IntKind.i64.wrap (v26_312 + 1))) (.fn rfl) ?_
              refine SafeOps.quiet0 E_good rfl rfl rfl (v := V.int .i64 (IntKind.i64.wrap (v26_312 + 1))) (.fn rfl) ?_
              refine SafeOps.nil ?_
              repeat (first | refine Safe.seq ?_ | refine Safe.skip ?_ | with_reducible refine thenQ.n ?_ | with_reducible refine blockQ.n ?_)
              exact ⟨_, next_out h, (.cov ⟨rfl, rfl, (upT_cons (.refl _) (upT_cons (.refl _) (upT_cons (.refl _) (upT_cons (.refl _) (upT_cons (.refl _) (upT_cons (.refl _) (upT_cons (.refl _) (upT_cons (.refl _) upT_nil)))))))), (upOb_cons rfl (.refl _) (upOb_cons rfl (.refl _) upOb_nil)), upOut_nil, rfl⟩)⟩
            · skip
              refine Safe.condN rfl hc352 ?_
              repeat (first | refine Safe.seq ?_ | refine Safe.skip ?_ | with_reducible refine thenQ.n ?_ | with_reducible refine blockQ.n ?_)
              refine Safe.region ?_
              refine SafeOps.quiet0 E_good rfl rfl rfl (v := V.int .i64 (IntKind.i64.wrap (v26_312 + 1))) (.fn rfl) ?_
              refine SafeOps.quiet0 E_good rfl rfl rfl (v := V.int .i64 (IntKind.i64.wrap (v26_312 + 1))) (.fn rfl) ?_
              refine SafeOps.nil ?_
              repeat (first | refine Safe.seq ?_ | refine Safe.skip ?_ | with_reducible refine thenQ.n ?_ | with_reducible refine blockQ.n ?_)
              exact ⟨_, next_out h, (.cov ⟨rfl, rfl, (upT_cons (.refl _) (upT_cons (.refl _) (upT_cons (.refl _) (upT_cons (.refl _) (upT_cons (.refl _) (upT_cons (.refl _) (upT_cons (.refl _) (upT_cons (.refl _) upT_nil)))))))), (upOb_cons rfl (.refl _) (upOb_cons rfl (.refl _) upOb_nil)), upOut_nil, rfl⟩)⟩
    · skip
      refine Safe.condN rfl hc314 ?_
      repeat (first | refine Safe.seq ?_ | refine Safe.skip ?_ | with_reducible refine thenQ.n ?_ | with_reducible refine blockQ.n ?_)
      refine Safe.exit ?_
      repeat (first | with_reducible refine thenQ.e ?_ | with_reducible refine blockQ.x rfl ?_ | with_reducible refine blockQ.y rfl ?_)
      replace h := inr_out h hr313
      repeat (first | refine Safe.seq ?_ | refine Safe.skip ?_ | with_reducible refine thenQ.n ?_ | with_reducible refine blockQ.n ?_)
      refine Safe.region ?_
      refine SafeOps.quiet0 E_good rfl rfl rfl (v := V.bool v10_311) (.fn rfl) ?_
      refine SafeOps.quiet0 E_good rfl rfl rfl (v := V.bool v10_311) (.fn rfl) ?_
      refine SafeOps.quiet0 E_good rfl rfl rfl (v := V.int .i64 0) (.fn rfl) ?_
      refine SafeOps.nil ?_
      repeat (first | refine Safe.seq ?_ | refine Safe.skip ?_ | with_reducible refine thenQ.n ?_ | with_reducible refine blockQ.n ?_)
      refine Safe.ret ?_
      repeat (first | with_reducible refine thenQ.r ?_ | with_reducible refine blockQ.r ?_)
      obtain rfl := Option.some.inj h
      exact retQ.gen (vs := [V.bool v10_311, V.int .i64 0]) rfl (.tmp (v := V.bool v10_311) rfl (.tmp (v := V.int .i64 0) rfl .nil)) (.free rfl) (by simp) (.inr rfl)

def go_entry_bad_j2 (a0_366 : api_Entry) (v7_376 : Bool) : Bool :=
  if v7_376 = true then
    (((!(go_entry_within a0_366.Kind 0 7)) || (!(go_entry_within a0_366.A 0 255))) || (!(go_entry_within a0_366.B 0 255)))
  else
    if (a0_366.Kind == 7) = true then
      (((!(go_entry_within a0_366.Kind 0 7)) || (!(go_entry_within a0_366.A 0 0))) || (!(go_entry_within a0_366.B 0 0)))
    else
      (((!(go_entry_within a0_366.Kind 0 7)) || (!(go_entry_within a0_366.A 0 255))) || (!(go_entry_within a0_366.B 0 0)))

def go_entry_bad (a0_366 : api_Entry) : Bool :=
  if (a0_366.Kind == 1) = true then
    go_entry_bad_j2 a0_366 (a0_366.Kind == 1)
  else
    go_entry_bad_j2 a0_366 (a0_366.Kind == 4)

theorem go_entry_bad_sc (a0_366 : api_Entry) (r : Bool) (h : go_entry_bad a0_366 = r) : SC Try.prog gl 28 [V.agg [V.int .i64 a0_366.Kind, V.int .i64 a0_366.A, V.int .i64 a0_366.B]] (V.bool r) := by
  rw [go_entry_bad] at h
  refine SC.of E_good Try.func28 rfl (fun _ _ => Try.call28 _ _) rfl ?_
  repeat (first | refine Safe.seq ?_ | refine Safe.skip ?_ | with_reducible refine thenQ.n ?_ | with_reducible refine blockQ.n ?_)
  refine Safe.region ?_
  refine SafeOps.quiet1 E_good rfl rfl rfl (.box rfl rfl) rfl ?_
  refine SafeOps.quiet0 E_good rfl rfl rfl (v := V.bool false) (.fn rfl) ?_
  refine SafeOps.nil ?_
  repeat (first | refine Safe.seq ?_ | refine Safe.skip ?_ | with_reducible refine thenQ.n ?_ | with_reducible refine blockQ.n ?_)
  refine Safe.region ?_
  refine SafeOps.quiet0 E_good rfl rfl rfl (v := V.int .i64 255) (.fn rfl) ?_
  refine SafeOps.quiet0 E_good rfl rfl rfl (v := V.int .i64 0) (.fn rfl) ?_
  refine SafeOps.nil ?_
  repeat (first | refine Safe.seq ?_ | refine Safe.skip ?_ | with_reducible refine thenQ.n ?_ | with_reducible refine blockQ.n ?_)
  refine Safe.region ?_
  refine SafeOps.quiet0 E_good rfl rfl rfl (v := V.ptr [1] 0 0) (.fn rfl) ?_
  refine SafeOps.quiet0 E_good rfl rfl rfl (v := V.int .i64 a0_366.Kind) (.load rfl rfl (.box rfl rfl) rfl) ?_
  refine SafeOps.nil ?_
  repeat (first | refine Safe.seq ?_ | refine Safe.skip ?_ | with_reducible refine thenQ.n ?_ | with_reducible refine blockQ.n ?_)
  refine Safe.block ?_
  repeat (first | refine Safe.seq ?_ | refine Safe.skip ?_ | with_reducible refine thenQ.n ?_ | with_reducible refine blockQ.n ?_)
  refine Safe.region ?_
  refine SafeOps.quiet0 E_good rfl rfl rfl (v := V.bool (a0_366.Kind == 1)) (.fn rfl) ?_
  refine SafeOps.quiet0 E_good rfl rfl rfl (v := V.bool (a0_366.Kind == 1)) (.fn rfl) ?_
  refine SafeOps.nil ?_
  repeat (first | refine Safe.seq ?_ | refine Safe.skip ?_ | with_reducible refine thenQ.n ?_ | with_reducible refine blockQ.n ?_)
  refine Safe.joinT (fun (v7_376 : Bool) => go_entry_bad_j2 a0_366 v7_376 = r) (fun (v7_376 : Bool) => ⟨Try.f28.ntmps, [(1, V.ptr [1] 0 0), (3, V.int .i64 255), (4, V.int .i64 0), (6, V.int .i64 a0_366.Kind), (7, V.bool v7_376)], [([1], Obj.box [V.int .i64 a0_366.Kind, V.int .i64 a0_366.A, V.int .i64 a0_366.B])], [], []⟩) ?_ (fun HJ377 => ?_)
  · intro v7_376 h
    replace h : go_entry_bad_j2 a0_366 v7_376 = r := h
    rw [go_entry_bad_j2] at h
    repeat (first | refine Safe.seq ?_ | refine Safe.skip ?_ | with_reducible refine thenQ.n ?_ | with_reducible refine blockQ.n ?_)
    refine ifG h (fun hc378 h => ?_) (fun hc378 h => ?_)
    · skip
      refine Safe.condK rfl hc378 ?_
      repeat (first | refine Safe.seq ?_ | refine Safe.skip ?_ | with_reducible refine thenQ.n ?_ | with_reducible refine blockQ.n ?_)
      refine Safe.region ?_
      refine SafeOps.quiet0 E_good rfl rfl rfl (v := V.int .i64 255) (.fn rfl) ?_
      refine SafeOps.nil ?_
      repeat (first | refine Safe.seq ?_ | refine Safe.skip ?_ | with_reducible refine thenQ.n ?_ | with_reducible refine blockQ.n ?_)
      refine Safe.region ?_
      refine SafeOps.quiet0 E_good rfl rfl rfl (v := V.ptr [1] 0 0) (.fn rfl) ?_
      refine SafeOps.quiet0 E_good rfl rfl rfl (v := V.int .i64 a0_366.Kind) (.load rfl rfl (.box rfl rfl) rfl) ?_
      refine SafeOps.quiet0 E_good rfl rfl rfl (v := V.bool (go_entry_within a0_366.Kind 0 7)) (.callP rfl rfl (go_entry_within_sc a0_366.Kind 0 7 _ rfl) rfl) ?_
      refine SafeOps.quiet0 E_good rfl rfl rfl (v := V.bool (!(go_entry_within a0_366.Kind 0 7))) (.fn rfl) ?_
      refine SafeOps.quiet0 E_good rfl rfl rfl (v := V.bool (!(go_entry_within a0_366.Kind 0 7))) (.fn rfl) ?_
      refine SafeOps.bjoin 6 22 (b := ((!(go_entry_within a0_366.Kind 0 7)) || (!(go_entry_within a0_366.A 0 255)))) (b1 := true) (b0 := (!(go_entry_within a0_366.A 0 255))) (fun hc379 K => ?_) (fun hc379 K => ?_) bj_or ?_
      · skip
        refine SafeOps.skip (congrArg (fun b => some (!b)) hc379) rfl rfl ?_
        refine SafeOps.skip (congrArg (fun b => some (!b)) hc379) rfl rfl ?_
        refine SafeOps.skip (congrArg (fun b => some (!b)) hc379) rfl rfl ?_
        refine SafeOps.skip (congrArg (fun b => some (!b)) hc379) rfl rfl ?_
        refine SafeOps.skip (congrArg (fun b => some (!b)) hc379) rfl rfl ?_
        refine SafeOps.quiet0 E_good rfl rfl rfl (v := V.bool true) (.pickK rfl hc379 rfl) ?_
        exact SafeOps.drop' 6 rfl rfl rfl K
      · skip
        refine SafeOps.quiet0 E_good (congrArg (fun b => some (!b)) hc379) rfl rfl (v := V.ptr [1] 0 1) (.fn rfl) ?_
        refine SafeOps.quiet0 E_good (congrArg (fun b => some (!b)) hc379) rfl rfl (v := V.int .i64 a0_366.A) (.load rfl rfl (.box rfl rfl) rfl) ?_
        refine SafeOps.quiet0 E_good (congrArg (fun b => some (!b)) hc379) rfl rfl (v := V.int .i64 255) (.fn rfl) ?_
        refine SafeOps.quiet0 E_good (congrArg (fun b => some (!b)) hc379) rfl rfl (v := V.bool (go_entry_within a0_366.A 0 255)) (.callP rfl rfl (go_entry_within_sc a0_366.A 0 255 _ rfl) rfl) ?_
        refine SafeOps.quiet0 E_good (congrArg (fun b => some (!b)) hc379) rfl rfl (v := V.bool (!(go_entry_within a0_366.A 0 255))) (.fn rfl) ?_
        refine SafeOps.quiet0 E_good rfl rfl rfl (v := V.bool (!(go_entry_within a0_366.A 0 255))) (.pickK rfl hc379 rfl) ?_
        exact SafeOps.drop' 6 rfl rfl rfl K
      refine SafeOps.quiet0 E_good rfl rfl rfl (v := V.bool ((!(go_entry_within a0_366.Kind 0 7)) || (!(go_entry_within a0_366.A 0 255)))) (.fn rfl) ?_
      refine SafeOps.bjoin 6 29 (b := (((!(go_entry_within a0_366.Kind 0 7)) || (!(go_entry_within a0_366.A 0 255))) || (!(go_entry_within a0_366.B 0 255)))) (b1 := true) (b0 := (!(go_entry_within a0_366.B 0 255))) (fun hc380 K => ?_) (fun hc380 K => ?_) bj_or ?_
      · skip
        refine SafeOps.skip (congrArg (fun b => some (!b)) hc380) rfl rfl ?_
        refine SafeOps.skip (congrArg (fun b => some (!b)) hc380) rfl rfl ?_
        refine SafeOps.skip (congrArg (fun b => some (!b)) hc380) rfl rfl ?_
        refine SafeOps.skip (congrArg (fun b => some (!b)) hc380) rfl rfl ?_
        refine SafeOps.skip (congrArg (fun b => some (!b)) hc380) rfl rfl ?_
        refine SafeOps.quiet0 E_good rfl rfl rfl (v := V.bool true) (.pickK rfl hc380 rfl) ?_
        exact SafeOps.drop' 6 rfl rfl rfl K
      · skip
        refine SafeOps.quiet0 E_good (congrArg (fun b => some (!b)) hc380) rfl rfl (v := V.ptr [1] 0 2) (.fn rfl) ?_
        refine SafeOps.quiet0 E_good (congrArg (fun b => some (!b)) hc380) rfl rfl (v := V.int .i64 a0_366.B) (.load rfl rfl (.box rfl rfl) rfl) ?_
        refine SafeOps.quiet0 E_good (congrArg (fun b => some (!b)) hc380) rfl rfl (v := V.int .i64 255) (.fn rfl) ?_
        refine SafeOps.quiet0 E_good (congrArg (fun b => some (!b)) hc380) rfl rfl (v := V.bool (go_entry_within a0_366.B 0 255)) (.callP rfl rfl (go_entry_within_sc a0_366.B 0 255 _ rfl) rfl) ?_
        refine SafeOps.quiet0 E_good (congrArg (fun b => some (!b)) hc380) rfl rfl (v := V.bool (!(go_entry_within a0_366.B 0 255))) (.fn rfl) ?_
        refine SafeOps.quiet0 E_good rfl rfl rfl (v := V.bool (!(go_entry_within a0_366.B 0 255))) (.pickK rfl hc380 rfl) ?_
        exact SafeOps.drop' 6 rfl rfl rfl K
      refine SafeOps.quiet0 E_good rfl rfl rfl (v := V.bool (((!(go_entry_within a0_366.Kind 0 7)) || (!(go_entry_within a0_366.A 0 255))) || (!(go_entry_within a0_366.B 0 255)))) (.fn rfl) ?_
      refine SafeOps.nil ?_
      repeat (first | refine Safe.seq ?_ | refine Safe.skip ?_ | with_reducible refine thenQ.n ?_ | with_reducible refine blockQ.n ?_)
      refine Safe.ret ?_
      repeat (first | with_reducible refine thenQ.r ?_ | with_reducible refine blockQ.r ?_)
      obtain rfl := h
      exact retQ.gen (vs := [V.bool (((!(go_entry_within a0_366.Kind 0 7)) || (!(go_entry_within a0_366.A 0 255))) || (!(go_entry_within a0_366.B 0 255)))]) rfl (.tmp (v := V.bool (((!(go_entry_within a0_366.Kind 0 7)) || (!(go_entry_within a0_366.A 0 255))) || (!(go_entry_within a0_366.B 0 255)))) rfl .nil) (.free rfl) (by simp) (.inr rfl)
    · skip
      refine Safe.condN rfl hc378 ?_
      repeat (first | refine Safe.seq ?_ | refine Safe.skip ?_ | with_reducible refine thenQ.n ?_ | with_reducible refine blockQ.n ?_)
      refine Safe.region ?_
      refine SafeOps.quiet0 E_good rfl rfl rfl (v := V.bool (a0_366.Kind == 7)) (.fn rfl) ?_
      refine SafeOps.quiet0 E_good rfl rfl rfl (v := V.bool (a0_366.Kind == 7)) (.fn rfl) ?_
      refine SafeOps.nil ?_
      repeat (first | refine Safe.seq ?_ | refine Safe.skip ?_ | with_reducible refine thenQ.n ?_ | with_reducible refine blockQ.n ?_)
      refine ifG h (fun hc381 h => ?_) (fun hc381 h => ?_)
      · skip
        refine Safe.condK rfl hc381 ?_
        repeat (first | refine Safe.seq ?_ | refine Safe.skip ?_ | with_reducible refine thenQ.n ?_ | with_reducible refine blockQ.n ?_)
        refine Safe.region ?_
        refine SafeOps.quiet0 E_good rfl rfl rfl (v := V.int .i64 0) (.fn rfl) ?_
        refine SafeOps.nil ?_
        repeat (first | refine Safe.seq ?_ | refine Safe.skip ?_ | with_reducible refine thenQ.n ?_ | with_reducible refine blockQ.n ?_)
        refine Safe.region ?_
        refine SafeOps.quiet0 E_good rfl rfl rfl (v := V.ptr [1] 0 0) (.fn rfl) ?_
        refine SafeOps.quiet0 E_good rfl rfl rfl (v := V.int .i64 a0_366.Kind) (.load rfl rfl (.box rfl rfl) rfl) ?_
        refine SafeOps.quiet0 E_good rfl rfl rfl (v := V.bool (go_entry_within a0_366.Kind 0 7)) (.callP rfl rfl (go_entry_within_sc a0_366.Kind 0 7 _ rfl) rfl) ?_
        refine SafeOps.quiet0 E_good rfl rfl rfl (v := V.bool (!(go_entry_within a0_366.Kind 0 7))) (.fn rfl) ?_
        refine SafeOps.quiet0 E_good rfl rfl rfl (v := V.bool (!(go_entry_within a0_366.Kind 0 7))) (.fn rfl) ?_
        refine SafeOps.bjoin 6 22 (b := ((!(go_entry_within a0_366.Kind 0 7)) || (!(go_entry_within a0_366.A 0 0)))) (b1 := true) (b0 := (!(go_entry_within a0_366.A 0 0))) (fun hc382 K => ?_) (fun hc382 K => ?_) bj_or ?_
        · skip
          refine SafeOps.skip (congrArg (fun b => some (!b)) hc382) rfl rfl ?_
          refine SafeOps.skip (congrArg (fun b => some (!b)) hc382) rfl rfl ?_
          refine SafeOps.skip (congrArg (fun b => some (!b)) hc382) rfl rfl ?_
          refine SafeOps.skip (congrArg (fun b => some (!b)) hc382) rfl rfl ?_
          refine SafeOps.skip (congrArg (fun b => some (!b)) hc382) rfl rfl ?_
          refine SafeOps.quiet0 E_good rfl rfl rfl (v := V.bool true) (.pickK rfl hc382 rfl) ?_
          exact SafeOps.drop' 6 rfl rfl rfl K
        · skip
          refine SafeOps.quiet0 E_good (congrArg (fun b => some (!b)) hc382) rfl rfl (v := V.ptr [1] 0 1) (.fn rfl) ?_
          refine SafeOps.quiet0 E_good (congrArg (fun b => some (!b)) hc382) rfl rfl (v := V.int .i64 a0_366.A) (.load rfl rfl (.box rfl rfl) rfl) ?_
          refine SafeOps.quiet0 E_good (congrArg (fun b => some (!b)) hc382) rfl rfl (v := V.int .i64 0) (.fn rfl) ?_
          refine SafeOps.quiet0 E_good (congrArg (fun b => some (!b)) hc382) rfl rfl (v := V.bool (go_entry_within a0_366.A 0 0)) (.callP rfl rfl (go_entry_within_sc a0_366.A 0 0 _ rfl) rfl) ?_
          refine SafeOps.quiet0 E_good (congrArg (fun b => some (!b)) hc382) rfl rfl (v := V.bool (!(go_entry_within a0_366.A 0 0))) (.fn rfl) ?_
          refine SafeOps.quiet0 E_good rfl rfl rfl (v := V.bool (!(go_entry_within a0_366.A 0 0))) (.pickK rfl hc382 rfl) ?_
          exact SafeOps.drop' 6 rfl rfl rfl K
        refine SafeOps.quiet0 E_good rfl rfl rfl (v := V.bool ((!(go_entry_within a0_366.Kind 0 7)) || (!(go_entry_within a0_366.A 0 0)))) (.fn rfl) ?_
        refine SafeOps.bjoin 6 29 (b := (((!(go_entry_within a0_366.Kind 0 7)) || (!(go_entry_within a0_366.A 0 0))) || (!(go_entry_within a0_366.B 0 0)))) (b1 := true) (b0 := (!(go_entry_within a0_366.B 0 0))) (fun hc383 K => ?_) (fun hc383 K => ?_) bj_or ?_
        · skip
          refine SafeOps.skip (congrArg (fun b => some (!b)) hc383) rfl rfl ?_
          refine SafeOps.skip (congrArg (fun b => some (!b)) hc383) rfl rfl ?_
          refine SafeOps.skip (congrArg (fun b => some (!b)) hc383) rfl rfl ?_
          refine SafeOps.skip (congrArg (fun b => some (!b)) hc383) rfl rfl ?_
          refine SafeOps.skip (congrArg (fun b => some (!b)) hc383) rfl rfl ?_
          refine SafeOps.quiet0 E_good rfl rfl rfl (v := V.bool true) (.pickK rfl hc383 rfl) ?_
          exact SafeOps.drop' 6 rfl rfl rfl K
        · skip
          refine SafeOps.quiet0 E_good (congrArg (fun b => some (!b)) hc383) rfl rfl (v := V.ptr [1] 0 2) (.fn rfl) ?_
          refine SafeOps.quiet0 E_good (congrArg (fun b => some (!b)) hc383) rfl rfl (v := V.int .i64 a0_366.B) (.load rfl rfl (.box rfl rfl) rfl) ?_
          refine SafeOps.quiet0 E_good (congrArg (fun b => some (!b)) hc383) rfl rfl (v := V.int .i64 0) (.fn rfl) ?_
          refine SafeOps.quiet0 E_good (congrArg (fun b => some (!b)) hc383) rfl rfl (v := V.bool (go_entry_within a0_366.B 0 0)) (.callP rfl rfl (go_entry_within_sc a0_366.B 0 0 _ rfl) rfl) ?_
          refine SafeOps.quiet0 E_good (congrArg (fun b => some (!b)) hc383) rfl rfl (v := V.bool (!(go_entry_within a0_366.B 0 0))) (.fn rfl) ?_
          refine SafeOps.quiet0 E_good rfl rfl rfl (v := V.bool (!(go_entry_within a0_366.B 0 0))) (.pickK rfl hc383 rfl) ?_
          exact SafeOps.drop' 6 rfl rfl rfl K
        refine SafeOps.quiet0 E_good rfl rfl rfl (v := V.bool (((!(go_entry_within a0_366.Kind 0 7)) || (!(go_entry_within a0_366.A 0 0))) || (!(go_entry_within a0_366.B 0 0)))) (.fn rfl) ?_
        refine SafeOps.nil ?_
        repeat (first | refine Safe.seq ?_ | refine Safe.skip ?_ | with_reducible refine thenQ.n ?_ | with_reducible refine blockQ.n ?_)
        refine Safe.ret ?_
        repeat (first | with_reducible refine thenQ.r ?_ | with_reducible refine blockQ.r ?_)
        obtain rfl := h
        exact retQ.gen (vs := [V.bool (((!(go_entry_within a0_366.Kind 0 7)) || (!(go_entry_within a0_366.A 0 0))) || (!(go_entry_within a0_366.B 0 0)))]) rfl (.tmp (v := V.bool (((!(go_entry_within a0_366.Kind 0 7)) || (!(go_entry_within a0_366.A 0 0))) || (!(go_entry_within a0_366.B 0 0)))) rfl .nil) (.free rfl) (by simp) (.inr rfl)
      · skip
        refine Safe.condN rfl hc381 ?_
        repeat (first | refine Safe.seq ?_ | refine Safe.skip ?_ | with_reducible refine thenQ.n ?_ | with_reducible refine blockQ.n ?_)
        refine Safe.region ?_
        refine SafeOps.quiet0 E_good rfl rfl rfl (v := V.ptr [1] 0 0) (.fn rfl) ?_
        refine SafeOps.quiet0 E_good rfl rfl rfl (v := V.int .i64 a0_366.Kind) (.load rfl rfl (.box rfl rfl) rfl) ?_
        refine SafeOps.quiet0 E_good rfl rfl rfl (v := V.bool (go_entry_within a0_366.Kind 0 7)) (.callP rfl rfl (go_entry_within_sc a0_366.Kind 0 7 _ rfl) rfl) ?_
        refine SafeOps.quiet0 E_good rfl rfl rfl (v := V.bool (!(go_entry_within a0_366.Kind 0 7))) (.fn rfl) ?_
        refine SafeOps.quiet0 E_good rfl rfl rfl (v := V.bool (!(go_entry_within a0_366.Kind 0 7))) (.fn rfl) ?_
        refine SafeOps.bjoin 6 22 (b := ((!(go_entry_within a0_366.Kind 0 7)) || (!(go_entry_within a0_366.A 0 255)))) (b1 := true) (b0 := (!(go_entry_within a0_366.A 0 255))) (fun hc384 K => ?_) (fun hc384 K => ?_) bj_or ?_
        · skip
          refine SafeOps.skip (congrArg (fun b => some (!b)) hc384) rfl rfl ?_
          refine SafeOps.skip (congrArg (fun b => some (!b)) hc384) rfl rfl ?_
          refine SafeOps.skip (congrArg (fun b => some (!b)) hc384) rfl rfl ?_
          refine SafeOps.skip (congrArg (fun b => some (!b)) hc384) rfl rfl ?_
          refine SafeOps.skip (congrArg (fun b => some (!b)) hc384) rfl rfl ?_
          refine SafeOps.quiet0 E_good rfl rfl rfl (v := V.bool true) (.pickK rfl hc384 rfl) ?_
          exact SafeOps.drop' 6 rfl rfl rfl K
        · skip
          refine SafeOps.quiet0 E_good (congrArg (fun b => some (!b)) hc384) rfl rfl (v := V.ptr [1] 0 1) (.fn rfl) ?_
          refine SafeOps.quiet0 E_good (congrArg (fun b => some (!b)) hc384) rfl rfl (v := V.int .i64 a0_366.A) (.load rfl rfl (.box rfl rfl) rfl) ?_
          refine SafeOps.quiet0 E_good (congrArg (fun b => some (!b)) hc384) rfl rfl (v := V.int .i64 255) (.fn rfl) ?_
          refine SafeOps.quiet0 E_good (congrArg (fun b => some (!b)) hc384) rfl rfl (v := V.bool (go_entry_within a0_366.A 0 255)) (.callP rfl rfl (go_entry_within_sc a0_366.A 0 255 _ rfl) rfl) ?_
          refine SafeOps.quiet0 E_good (congrArg (fun b => some (!b)) hc384) rfl rfl (v := V.bool (!(go_entry_within a0_366.A 0 255))) (.fn rfl) ?_
          refine SafeOps.quiet0 E_good rfl rfl rfl (v := V.bool (!(go_entry_within a0_366.A 0 255))) (.pickK rfl hc384 rfl) ?_
          exact SafeOps.drop' 6 rfl rfl rfl K
        refine SafeOps.quiet0 E_good rfl rfl rfl (v := V.bool ((!(go_entry_within a0_366.Kind 0 7)) || (!(go_entry_within a0_366.A 0 255)))) (.fn rfl) ?_
        refine SafeOps.bjoin 6 29 (b := (((!(go_entry_within a0_366.Kind 0 7)) || (!(go_entry_within a0_366.A 0 255))) || (!(go_entry_within a0_366.B 0 0)))) (b1 := true) (b0 := (!(go_entry_within a0_366.B 0 0))) (fun hc385 K => ?_) (fun hc385 K => ?_) bj_or ?_
        · skip
          refine SafeOps.skip (congrArg (fun b => some (!b)) hc385) rfl rfl ?_
          refine SafeOps.skip (congrArg (fun b => some (!b)) hc385) rfl rfl ?_
          refine SafeOps.skip (congrArg (fun b => some (!b)) hc385) rfl rfl ?_
          refine SafeOps.skip (congrArg (fun b => some (!b)) hc385) rfl rfl ?_
          refine SafeOps.skip (congrArg (fun b => some (!b)) hc385) rfl rfl ?_
          refine SafeOps.quiet0 E_good rfl rfl rfl (v := V.bool true) (.pickK rfl hc385 rfl) ?_
          exact SafeOps.drop' 6 rfl rfl rfl K
        · skip
          refine SafeOps.quiet0 E_good (congrArg (fun b => some (!b)) hc385) rfl rfl (v := V.ptr [1] 0 2) (.fn rfl) ?_
          refine SafeOps.quiet0 E_good (congrArg (fun b => some (!b)) hc385) rfl rfl (v := V.int .i64 a0_366.B) (.load rfl rfl (.box rfl rfl) rfl) ?_
          refine SafeOps.quiet0 E_good (congrArg (fun b => some (!b)) hc385) rfl rfl (v := V.int .i64 0) (.fn rfl) ?_
          refine SafeOps.quiet0 E_good (congrArg (fun b => some (!b)) hc385) rfl rfl (v := V.bool (go_entry_within a0_366.B 0 0)) (.callP rfl rfl (go_entry_within_sc a0_366.B 0 0 _ rfl) rfl) ?_
          refine SafeOps.quiet0 E_good (congrArg (fun b => some (!b)) hc385) rfl rfl (v := V.bool (!(go_entry_within a0_366.B 0 0))) (.fn rfl) ?_
          refine SafeOps.quiet0 E_good rfl rfl rfl (v := V.bool (!(go_entry_within a0_366.B 0 0))) (.pickK rfl hc385 rfl) ?_
          exact SafeOps.drop' 6 rfl rfl rfl K
        refine SafeOps.quiet0 E_good rfl rfl rfl (v := V.bool (((!(go_entry_within a0_366.Kind 0 7)) || (!(go_entry_within a0_366.A 0 255))) || (!(go_entry_within a0_366.B 0 0)))) (.fn rfl) ?_
        refine SafeOps.nil ?_
        repeat (first | refine Safe.seq ?_ | refine Safe.skip ?_ | with_reducible refine thenQ.n ?_ | with_reducible refine blockQ.n ?_)
        refine Safe.ret ?_
        repeat (first | with_reducible refine thenQ.r ?_ | with_reducible refine blockQ.r ?_)
        obtain rfl := h
        exact retQ.gen (vs := [V.bool (((!(go_entry_within a0_366.Kind 0 7)) || (!(go_entry_within a0_366.A 0 255))) || (!(go_entry_within a0_366.B 0 0)))]) rfl (.tmp (v := V.bool (((!(go_entry_within a0_366.Kind 0 7)) || (!(go_entry_within a0_366.A 0 255))) || (!(go_entry_within a0_366.B 0 0)))) rfl .nil) (.free rfl) (by simp) (.inr rfl)
  · skip
    refine ifG h (fun hc386 h => ?_) (fun hc386 h => ?_)
    · skip
      refine Safe.condK rfl hc386 ?_
      repeat (first | refine Safe.skip ?_ | with_reducible refine thenQ.n ?_ | with_reducible refine blockQ.n ?_)
      exact Safe.got (HJ377 ((a0_366.Kind == 1)) h) (.cov ⟨rfl, rfl, (upT_cons (.refl _) (upT_cons (.refl _) (upT_cons (.refl _) (upT_cons (.refl _) (upT_cons (.refl _) upT_nil))))), (upOb_cons rfl (.refl _) upOb_nil), upOut_nil, rfl⟩)
    · skip
      refine Safe.condN rfl hc386 ?_
      repeat (first | refine Safe.seq ?_ | refine Safe.skip ?_ | with_reducible refine thenQ.n ?_ | with_reducible refine blockQ.n ?_)
      refine Safe.region ?_
      refine SafeOps.quiet0 E_good rfl rfl rfl (v := V.bool (a0_366.Kind == 4)) (.fn rfl) ?_
      refine SafeOps.quiet0 E_good rfl rfl rfl (v := V.bool (a0_366.Kind == 4)) (.fn rfl) ?_
      refine SafeOps.nil ?_
      repeat (first | refine Safe.skip ?_ | with_reducible refine thenQ.n ?_ | with_reducible refine blockQ.n ?_)
      exact Safe.got (HJ377 ((a0_366.Kind == 4)) h) (.cov ⟨rfl, rfl, (upT_cons (.refl _) (upT_cons (.refl _) (upT_cons (.refl _) (upT_cons (.refl _) (upT_cons (.refl _) upT_nil))))), (upOb_cons rfl (.refl _) upOb_nil), upOut_nil, rfl⟩)

noncomputable def go_slices_IndexFunc_api_Entry_api_Entry_bad28_s1 (a0_362 : List api_Entry) : (Int) → Option ((Int) ⊕ (Int))
  | v8_404 =>
    if (decide (v8_404 < (a0_362.length : Int))) = true then
      if 0 ≤ v8_404 ∧ v8_404 < (a0_362.length : Int) then
        if (go_entry_bad (gt a0_362 v8_404)) = true then
          inrO (
            some v8_404)
        else
          nextO (IntKind.i64.wrap (v8_404 + 1))
      else none
    else
      inrO (
        some (-1))

noncomputable def go_slices_IndexFunc_api_Entry_api_Entry_bad28 (a0_362 : List api_Entry) : Option Int :=
  whileO (go_slices_IndexFunc_api_Entry_api_Entry_bad28_s1 a0_362) 0

theorem go_slices_IndexFunc_api_Entry_api_Entry_bad28_sc (a0_362 : List api_Entry) (r : Int) (h : go_slices_IndexFunc_api_Entry_api_Entry_bad28 a0_362 = some r) : SC Try.prog gl 49 [V.sl 3 (rws api_Entry.cells a0_362), V.fn 28 []] (V.int .i64 r) := by
  rw [go_slices_IndexFunc_api_Entry_api_Entry_bad28] at h
  refine SC.of E_good Try.func49 rfl (fun _ _ => Try.call49 _ _) rfl ?_
  repeat (first | refine Safe.seq ?_ | refine Safe.skip ?_ | with_reducible refine thenQ.n ?_ | with_reducible refine blockQ.n ?_)
  refine Safe.region ?_
  refine SafeOps.quiet0 E_good rfl rfl rfl (v := V.int .i64 0) (.fn rfl) ?_
  refine SafeOps.nil ?_
  repeat (first | refine Safe.seq ?_ | refine Safe.skip ?_ | with_reducible refine thenQ.n ?_ | with_reducible refine blockQ.n ?_)
  refine Safe.region ?_
  refine SafeOps.quiet0 E_good rfl rfl rfl (v := V.sl 3 (rws api_Entry.cells a0_362)) (.fn rfl) ?_
  refine SafeOps.quiet0 E_good rfl rfl rfl (v := V.int .i64 (a0_362.length : Int)) (.fnE rfl lenE) ?_
  refine SafeOps.quiet0 E_good rfl rfl rfl (v := V.int .i64 0) (.fn rfl) ?_
  refine SafeOps.nil ?_
  repeat (first | refine Safe.seq ?_ | refine Safe.skip ?_ | with_reducible refine thenQ.n ?_ | with_reducible refine blockQ.n ?_)
  refine Safe.block ?_
  repeat (first | refine Safe.seq ?_ | refine Safe.skip ?_ | with_reducible refine thenQ.n ?_ | with_reducible refine blockQ.n ?_)
  refine Safe.loopW (fun (v8_404 : Int) => ⟨Try.f49.ntmps, [(0, V.sl 3 (rws api_Entry.cells a0_362)), (1, V.fn 28 []), (7, V.int .i64 (a0_362.length : Int)), (8, V.int .i64 v8_404)], [], [], []⟩) h (.cov ⟨rfl, rfl, (upT_cons (.refl _) (upT_cons (.refl _) (upT_cons (.refl _) (upT_cons (.refl _) upT_nil)))), upOb_nil, upOut_nil, rfl⟩) ?_
  intro v8_404 ohr405 h hr405
  replace h : go_slices_IndexFunc_api_Entry_api_Entry_bad28_s1 a0_362 v8_404 = some ohr405 := h
  rw [go_slices_IndexFunc_api_Entry_api_Entry_bad28_s1] at h
  repeat (first | refine Safe.seq ?_ | refine Safe.skip ?_ | with_reducible refine thenQ.n ?_ | with_reducible refine blockQ.n ?_)
  refine Safe.region ?_
  refine SafeOps.quiet0 E_good rfl rfl rfl (v := V.bool (decide (v8_404 < (a0_362.length : Int)))) (.fn rfl) ?_
  refine SafeOps.nil ?_
  repeat (first | refine Safe.seq ?_ | refine Safe.skip ?_ | with_reducible refine thenQ.n ?_ | with_reducible refine blockQ.n ?_)
  refine ifG h (fun hc406 h => ?_) (fun hc406 h => ?_)
  · skip
    refine Safe.condK rfl hc406 ?_
    repeat (first | refine Safe.seq ?_ | refine Safe.skip ?_ | with_reducible refine thenQ.n ?_ | with_reducible refine blockQ.n ?_)
    refine Safe.block ?_
    repeat (first | refine Safe.seq ?_ | refine Safe.skip ?_ | with_reducible refine thenQ.n ?_ | with_reducible refine blockQ.n ?_)
    refine Safe.region ?_
    refine SafeOps.quiet0 E_good rfl rfl rfl (v := V.int .i64 v8_404) (.fn rfl) ?_
    refine SafeOps.quiet0 E_good rfl rfl rfl (v := V.int .i64 v8_404) (.fn rfl) ?_
    refine SafeOps.nil ?_
    repeat (first | refine Safe.seq ?_ | refine Safe.skip ?_ | with_reducible refine thenQ.n ?_ | with_reducible refine blockQ.n ?_)
    refine Safe.region ?_
    refine SafeOps.quiet0 E_good rfl rfl rfl (v := V.fn 28 []) (.fn rfl) ?_
    refine SafeOps.quiet0 E_good rfl rfl rfl (v := V.sl 3 (rws api_Entry.cells a0_362)) (.fn rfl) ?_
    refine SafeOps.quiet0 E_good rfl rfl rfl (v := V.int .i64 v8_404) (.fn rfl) ?_
    refine okG h (fun hb407 h => ?_)
    refine SafeOps.quiet0 E_good rfl rfl rfl (v := V.spt 3 (rws api_Entry.cells a0_362) (Int.toNat v8_404) 0) (.idxSlM (f := api_Entry.cells) rfl rfl rfl rfl rfl hb407) ?_
    refine SafeOps.quiet0 E_good rfl rfl rfl (v := V.agg [V.int .i64 ((gt a0_362 v8_404).Kind), V.int .i64 ((gt a0_362 v8_404).A), V.int .i64 ((gt a0_362 v8_404).B)]) (.load rfl rfl (.sptM (f := api_Entry.cells) hb407 rfl) rfl) ?_
    refine SafeOps.quiet0 E_good rfl rfl rfl (v := V.bool (go_entry_bad (gt a0_362 v8_404))) (.callP rfl rfl (go_entry_bad_sc (gt a0_362 v8_404) _ rfl) rfl) ?_
    refine SafeOps.nil ?_
    repeat (first | refine Safe.seq ?_ | refine Safe.skip ?_ | with_reducible refine thenQ.n ?_ | with_reducible refine blockQ.n ?_)
    refine ifG h (fun hc408 h => ?_) (fun hc408 h => ?_)
    · skip
      refine Safe.condK rfl hc408 ?_
      repeat (first | refine Safe.seq ?_ | refine Safe.skip ?_ | with_reducible refine thenQ.n ?_ | with_reducible refine blockQ.n ?_)
      refine Safe.region ?_
      refine SafeOps.quiet0 E_good rfl rfl rfl (v := V.int .i64 v8_404) (.fn rfl) ?_
      refine SafeOps.quiet0 E_good rfl rfl rfl (v := V.int .i64 v8_404) (.fn rfl) ?_
      refine SafeOps.nil ?_
      repeat (first | refine Safe.seq ?_ | refine Safe.skip ?_ | with_reducible refine thenQ.n ?_ | with_reducible refine blockQ.n ?_)
      refine Safe.ret ?_
      repeat (first | with_reducible refine thenQ.r ?_ | with_reducible refine blockQ.r ?_)
      replace h := inr_out h hr405
      obtain rfl := Option.some.inj h
      exact retQ.gen (vs := [V.int .i64 v8_404]) rfl (.tmp (v := V.int .i64 v8_404) rfl .nil) (.free rfl) (by simp) (.inr rfl)
    · skip
      refine Safe.condN rfl hc408 ?_
      repeat (first | refine Safe.seq ?_ | refine Safe.skip ?_ | with_reducible refine thenQ.n ?_ | with_reducible refine blockQ.n ?_)
      refine Safe.region ?_
      refine SafeOps.quiet0 E_good rfl rfl rfl (v := V.int .i64 (IntKind.i64.wrap (v8_404 + 1))) (.fn rfl) ?_
      refine SafeOps.quiet0 E_good rfl rfl rfl (v := V.int .i64 (IntKind.i64.wrap (v8_404 + 1))) (.fn rfl) ?_
      refine SafeOps.nil ?_
      repeat (first | refine Safe.seq ?_ | refine Safe.skip ?_ | with_reducible refine thenQ.n ?_ | with_reducible refine blockQ.n ?_)
      exact ⟨_, next_out h, (.cov ⟨rfl, rfl, (upT_cons (.refl _) (upT_cons (.refl _) (upT_cons (.refl _) (upT_cons (.refl _) upT_nil)))), upOb_nil, upOut_nil, rfl⟩)⟩
  · skip
    refine Safe.condN rfl hc406 ?_
    repeat (first | refine Safe.seq ?_ | refine Safe.skip ?_ | with_reducible refine thenQ.n ?_ | with_reducible refine blockQ.n ?_)
    refine Safe.exit ?_
    repeat (first | with_reducible refine thenQ.e ?_ | with_reducible refine blockQ.x rfl ?_ | with_reducible refine blockQ.y rfl ?_)
    replace h := inr_out h hr405
    repeat (first | refine Safe.seq ?_ | refine Safe.skip ?_ | with_reducible refine thenQ.n ?_ | with_reducible refine blockQ.n ?_)
    refine Safe.region ?_
    refine SafeOps.quiet0 E_good rfl rfl rfl (v := V.int .i64 (-1)) (.fn rfl) ?_
    refine SafeOps.nil ?_
    repeat (first | refine Safe.seq ?_ | refine Safe.skip ?_ | with_reducible refine thenQ.n ?_ | with_reducible refine blockQ.n ?_)
    refine Safe.ret ?_
    repeat (first | with_reducible refine thenQ.r ?_ | with_reducible refine blockQ.r ?_)
    obtain rfl := Option.some.inj h
    exact retQ.gen (vs := [V.int .i64 (-1)]) rfl (.tmp (v := V.int .i64 (-1)) rfl .nil) (.free rfl) (by simp) (.inr rfl)

noncomputable def go_slices_ContainsFunc_api_Entry_api_Entry_bad28 (a0_361 : List api_Entry) : Option Bool :=
  (go_slices_IndexFunc_api_Entry_api_Entry_bad28 a0_361).bind fun x_411 =>
  some (decide (x_411 ≥ 0))

theorem go_slices_ContainsFunc_api_Entry_api_Entry_bad28_sc (a0_361 : List api_Entry) (r : Bool) (h : go_slices_ContainsFunc_api_Entry_api_Entry_bad28 a0_361 = some r) : SC Try.prog gl 27 [V.sl 3 (rws api_Entry.cells a0_361), V.fn 28 []] (V.bool r) := by
  rw [go_slices_ContainsFunc_api_Entry_api_Entry_bad28] at h
  refine SC.of E_good Try.func27 rfl (fun _ _ => Try.call27 _ _) rfl ?_
  repeat (first | refine Safe.seq ?_ | refine Safe.skip ?_ | with_reducible refine thenQ.n ?_ | with_reducible refine blockQ.n ?_)
  refine Safe.region ?_
  refine SafeOps.quiet0 E_good rfl rfl rfl (v := V.bool false) (.fn rfl) ?_
  refine SafeOps.nil ?_
  repeat (first | refine Safe.seq ?_ | refine Safe.skip ?_ | with_reducible refine thenQ.n ?_ | with_reducible refine blockQ.n ?_)
  refine Safe.region ?_
  refine SafeOps.quiet0 E_good rfl rfl rfl (v := V.sl 3 (rws api_Entry.cells a0_361)) (.fn rfl) ?_
  refine SafeOps.quiet0 E_good rfl rfl rfl (v := V.fn 28 []) (.fn rfl) ?_
  refine bindG h ?_
  intro x_411 he412 h
  refine SafeOps.quiet0 E_good rfl rfl rfl (v := V.int .i64 x_411) (.callP rfl rfl (go_slices_IndexFunc_api_Entry_api_Entry_bad28_sc a0_361 _ he412) rfl) ?_
  refine SafeOps.quiet0 E_good rfl rfl rfl (v := V.bool (decide (x_411 ≥ 0))) (.fn rfl) ?_
  refine SafeOps.quiet0 E_good rfl rfl rfl (v := V.bool (decide (x_411 ≥ 0))) (.fn rfl) ?_
  refine SafeOps.nil ?_
  repeat (first | refine Safe.seq ?_ | refine Safe.skip ?_ | with_reducible refine thenQ.n ?_ | with_reducible refine blockQ.n ?_)
  refine Safe.ret ?_
  repeat (first | with_reducible refine thenQ.r ?_ | with_reducible refine blockQ.r ?_)
  obtain rfl := Option.some.inj h
  exact retQ.gen (vs := [V.bool (decide (x_411 ≥ 0))]) rfl (.tmp (v := V.bool (decide (x_411 ≥ 0))) rfl .nil) (.free rfl) (by simp) (.inr rfl)

noncomputable def go_entry_Check (a0_359 : List api_Entry) : Option Int :=
  if (decide ((a0_359.length : Int) > 65536)) = true then
    some 3
  else
    (go_slices_ContainsFunc_api_Entry_api_Entry_bad28 a0_359).bind fun x_418 =>
    if x_418 = true then
      some 1
    else
      some 0

theorem go_entry_Check_sc (a0_359 : List api_Entry) (r : Int) (h : go_entry_Check a0_359 = some r) : SC Try.prog gl 12 [V.sl 3 (rws api_Entry.cells a0_359)] (V.int .i64 r) := by
  rw [go_entry_Check] at h
  refine SC.of E_good Try.func12 rfl (fun _ _ => Try.call12 _ _) rfl ?_
  repeat (first | refine Safe.seq ?_ | refine Safe.skip ?_ | with_reducible refine thenQ.n ?_ | with_reducible refine blockQ.n ?_)
  refine Safe.region ?_
  refine SafeOps.quiet0 E_good rfl rfl rfl (v := V.int .i64 0) (.fn rfl) ?_
  refine SafeOps.nil ?_
  repeat (first | refine Safe.seq ?_ | refine Safe.skip ?_ | with_reducible refine thenQ.n ?_ | with_reducible refine blockQ.n ?_)
  refine Safe.block ?_
  repeat (first | refine Safe.seq ?_ | refine Safe.skip ?_ | with_reducible refine thenQ.n ?_ | with_reducible refine blockQ.n ?_)
  refine Safe.region ?_
  refine SafeOps.quiet0 E_good rfl rfl rfl (v := V.sl 3 (rws api_Entry.cells a0_359)) (.fn rfl) ?_
  refine SafeOps.quiet0 E_good rfl rfl rfl (v := V.int .i64 (a0_359.length : Int)) (.fnE rfl lenE) ?_
  refine SafeOps.quiet0 E_good rfl rfl rfl (v := V.bool (decide ((a0_359.length : Int) > 65536))) (.fn rfl) ?_
  refine SafeOps.quiet0 E_good rfl rfl rfl (v := V.bool (decide ((a0_359.length : Int) > 65536))) (.fn rfl) ?_
  refine SafeOps.nil ?_
  repeat (first | refine Safe.seq ?_ | refine Safe.skip ?_ | with_reducible refine thenQ.n ?_ | with_reducible refine blockQ.n ?_)
  refine ifG h (fun hc417 h => ?_) (fun hc417 h => ?_)
  · skip
    refine Safe.condK rfl hc417 ?_
    repeat (first | refine Safe.seq ?_ | refine Safe.skip ?_ | with_reducible refine thenQ.n ?_ | with_reducible refine blockQ.n ?_)
    refine Safe.region ?_
    refine SafeOps.quiet0 E_good rfl rfl rfl (v := V.int .i64 3) (.fn rfl) ?_
    refine SafeOps.nil ?_
    repeat (first | refine Safe.seq ?_ | refine Safe.skip ?_ | with_reducible refine thenQ.n ?_ | with_reducible refine blockQ.n ?_)
    refine Safe.ret ?_
    repeat (first | with_reducible refine thenQ.r ?_ | with_reducible refine blockQ.r ?_)
    obtain rfl := Option.some.inj h
    exact retQ.gen (vs := [V.int .i64 3]) rfl (.tmp (v := V.int .i64 3) rfl .nil) (.free rfl) (by simp) (.inr rfl)
  · skip
    refine Safe.condN rfl hc417 ?_
    repeat (first | refine Safe.seq ?_ | refine Safe.skip ?_ | with_reducible refine thenQ.n ?_ | with_reducible refine blockQ.n ?_)
    refine Safe.region ?_
    refine SafeOps.quiet0 E_good rfl rfl rfl (v := V.sl 3 (rws api_Entry.cells a0_359)) (.fn rfl) ?_
    refine bindG h ?_
    intro x_418 he419 h
    refine SafeOps.quiet0 E_good rfl rfl rfl (v := V.bool x_418) (.callP rfl rfl (go_slices_ContainsFunc_api_Entry_api_Entry_bad28_sc a0_359 _ he419) rfl) ?_
    refine SafeOps.quiet0 E_good rfl rfl rfl (v := V.bool x_418) (.fn rfl) ?_
    refine SafeOps.nil ?_
    repeat (first | refine Safe.seq ?_ | refine Safe.skip ?_ | with_reducible refine thenQ.n ?_ | with_reducible refine blockQ.n ?_)
    refine ifG h (fun hc420 h => ?_) (fun hc420 h => ?_)
    · skip
      refine Safe.condK rfl hc420 ?_
      repeat (first | refine Safe.seq ?_ | refine Safe.skip ?_ | with_reducible refine thenQ.n ?_ | with_reducible refine blockQ.n ?_)
      refine Safe.region ?_
      refine SafeOps.quiet0 E_good rfl rfl rfl (v := V.int .i64 1) (.fn rfl) ?_
      refine SafeOps.nil ?_
      repeat (first | refine Safe.seq ?_ | refine Safe.skip ?_ | with_reducible refine thenQ.n ?_ | with_reducible refine blockQ.n ?_)
      refine Safe.ret ?_
      repeat (first | with_reducible refine thenQ.r ?_ | with_reducible refine blockQ.r ?_)
      obtain rfl := Option.some.inj h
      exact retQ.gen (vs := [V.int .i64 1]) rfl (.tmp (v := V.int .i64 1) rfl .nil) (.free rfl) (by simp) (.inr rfl)
    · skip
      refine Safe.condN rfl hc420 ?_
      repeat (first | refine Safe.seq ?_ | refine Safe.skip ?_ | with_reducible refine thenQ.n ?_ | with_reducible refine blockQ.n ?_)
      refine Safe.region ?_
      refine SafeOps.quiet0 E_good rfl rfl rfl (v := V.int .i64 0) (.fn rfl) ?_
      refine SafeOps.nil ?_
      repeat (first | refine Safe.seq ?_ | refine Safe.skip ?_ | with_reducible refine thenQ.n ?_ | with_reducible refine blockQ.n ?_)
      refine Safe.ret ?_
      repeat (first | with_reducible refine thenQ.r ?_ | with_reducible refine blockQ.r ?_)
      obtain rfl := Option.some.inj h
      exact retQ.gen (vs := [V.int .i64 0]) rfl (.tmp (v := V.int .i64 0) rfl .nil) (.free rfl) (by simp) (.inr rfl)

noncomputable def go_entry_Write_s1 (a0_358 : List api_Entry) : ((List Int) × Int) → Option (((List Int) × Int) ⊕ ((List Int) × Int))
  | (v5_451, v19_452) =>
    if (decide (v19_452 < (a0_358.length : Int))) = true then
      if 0 ≤ v19_452 ∧ v19_452 < (a0_358.length : Int) then
        if few (v5_451 ++ [IntKind.u8.wrap ((gt a0_358 v19_452).Kind), IntKind.u8.wrap ((gt a0_358 v19_452).A), IntKind.u8.wrap ((gt a0_358 v19_452).B)]).length then
          nextO (v5_451 ++ [IntKind.u8.wrap ((gt a0_358 v19_452).Kind), IntKind.u8.wrap ((gt a0_358 v19_452).A), IntKind.u8.wrap ((gt a0_358 v19_452).B)], IntKind.i64.wrap (v19_452 + 1))
        else none
      else none
    else
      inrO (
        some (v5_451, 0))

noncomputable def go_entry_Write (a0_358 : List api_Entry) : Option ((List Int) × Int) :=
  (go_entry_Check a0_358).bind fun x_439 =>
  if (x_439 != 0) = true then
    some ([], x_439)
  else
    if 0 ≤ (0 : Int) ∧ (0 : Int) ≤ (IntKind.i64.wrap (3 * (a0_358.length : Int))) ∧ (IntKind.i64.wrap (3 * (a0_358.length : Int))) ≤ 549755813888 then
      whileO (go_entry_Write_s1 a0_358) (List.replicate (Int.toNat 0) (0 : Int), 0)
    else none

theorem go_entry_Write_sc (a0_358 : List api_Entry) (r : (List Int) × Int) (h : go_entry_Write a0_358 = some r) : SC Try.prog gl 13 [V.sl 3 (rws api_Entry.cells a0_358)] (V.tup [V.own 1 (rws (fun n => [V.int .u8 n]) r.1), V.int .i64 r.2]) := by
  rw [go_entry_Write] at h
  refine SC.of E_good Try.func13 rfl (fun _ _ => Try.call13 _ _) rfl ?_
  repeat (first | refine Safe.seq ?_ | refine Safe.skip ?_ | with_reducible refine thenQ.n ?_ | with_reducible refine blockQ.n ?_)
  refine Safe.region ?_
  refine SafeOps.quiet0 E_good rfl rfl rfl (v := V.nils) (.fn rfl) ?_
  refine SafeOps.quiet0 E_good rfl rfl rfl (v := V.int .i64 0) (.fn rfl) ?_
  refine SafeOps.nil ?_
  repeat (first | refine Safe.seq ?_ | refine Safe.skip ?_ | with_reducible refine thenQ.n ?_ | with_reducible refine blockQ.n ?_)
  refine Safe.region ?_
  refine SafeOps.quiet0 E_good rfl rfl rfl (v := V.sl 3 (rws api_Entry.cells a0_358)) (.fn rfl) ?_
  refine bindG h ?_
  intro x_439 he440 h
  refine SafeOps.quiet0 E_good rfl rfl rfl (v := V.int .i64 x_439) (.callP rfl rfl (go_entry_Check_sc a0_358 _ he440) rfl) ?_
  refine SafeOps.quiet0 E_good rfl rfl rfl (v := V.int .i64 x_439) (.fn rfl) ?_
  refine SafeOps.nil ?_
  repeat (first | refine Safe.seq ?_ | refine Safe.skip ?_ | with_reducible refine thenQ.n ?_ | with_reducible refine blockQ.n ?_)
  refine Safe.region ?_
  refine SafeOps.quiet0 E_good rfl rfl rfl (v := V.int .i64 x_439) (.fn rfl) ?_
  refine SafeOps.quiet0 E_good rfl rfl rfl (v := V.bool (x_439 != 0)) (.fn rfl) ?_
  refine SafeOps.nil ?_
  repeat (first | refine Safe.seq ?_ | refine Safe.skip ?_ | with_reducible refine thenQ.n ?_ | with_reducible refine blockQ.n ?_)
  refine ifG h (fun hc441 h => ?_) (fun hc441 h => ?_)
  · skip
    refine Safe.condK rfl hc441 ?_
    repeat (first | refine Safe.seq ?_ | refine Safe.skip ?_ | with_reducible refine thenQ.n ?_ | with_reducible refine blockQ.n ?_)
    refine Safe.region ?_
    refine SafeOps.quiet0 E_good rfl rfl rfl (v := V.int .i64 x_439) (.fn rfl) ?_
    refine SafeOps.quiet0 E_good rfl rfl rfl (v := V.nils) (.fn rfl) ?_
    refine SafeOps.quiet0 E_good rfl rfl rfl (v := V.int .i64 x_439) (.fn rfl) ?_
    refine SafeOps.nil ?_
    repeat (first | refine Safe.seq ?_ | refine Safe.skip ?_ | with_reducible refine thenQ.n ?_ | with_reducible refine blockQ.n ?_)
    refine Safe.ret ?_
    repeat (first | with_reducible refine thenQ.r ?_ | with_reducible refine blockQ.r ?_)
    obtain rfl := Option.some.inj h
    exact retQ.gen (vs := [V.nils, V.int .i64 x_439]) rfl (.tmp (v := V.nils) rfl (.tmp (v := V.int .i64 x_439) rfl .nil)) (by exact (.tup (.cons (.nils _) (.cons (.free rfl) .nil)))) (by simp) (.inr rfl)
  · skip
    refine Safe.condN rfl hc441 ?_
    repeat (first | refine Safe.seq ?_ | refine Safe.skip ?_ | with_reducible refine thenQ.n ?_ | with_reducible refine blockQ.n ?_)
    refine Safe.region ?_
    refine SafeOps.quiet0 E_good rfl rfl rfl (v := V.sl 3 (rws api_Entry.cells a0_358)) (.fn rfl) ?_
    refine SafeOps.quiet0 E_good rfl rfl rfl (v := V.int .i64 (a0_358.length : Int)) (.fnE rfl lenE) ?_
    refine SafeOps.quiet0 E_good rfl rfl rfl (v := V.int .i64 (IntKind.i64.wrap (3 * (a0_358.length : Int)))) (.fn rfl) ?_
    refine okG h (fun hb442 h => ?_)
    refine SafeOps.quiet1 E_good rfl rfl rfl (.makeM (f := (fun n => [V.int .u8 n])) (d := (0 : Int)) rfl rfl rfl rfl hb442 rfl rfl rfl) rfl ?_
    refine SafeOps.quiet0 E_good rfl rfl rfl (v := V.ref [16] 0 (rws (fun n => [V.int .u8 n]) (List.replicate (Int.toNat 0) (0 : Int))).length) (.fn rfl) ?_
    refine SafeOps.nil ?_
    repeat (first | refine Safe.seq ?_ | refine Safe.skip ?_ | with_reducible refine thenQ.n ?_ | with_reducible refine blockQ.n ?_)
    refine Safe.region ?_
    refine SafeOps.quiet0 E_good rfl rfl rfl (v := V.sl 3 (rws api_Entry.cells a0_358)) (.fn rfl) ?_
    refine SafeOps.quiet0 E_good rfl rfl rfl (v := V.int .i64 (a0_358.length : Int)) (.fnE rfl lenE) ?_
    refine SafeOps.quiet0 E_good rfl rfl rfl (v := V.int .i64 0) (.fn rfl) ?_
    refine SafeOps.nil ?_
    repeat (first | refine Safe.seq ?_ | refine Safe.skip ?_ | with_reducible refine thenQ.n ?_ | with_reducible refine blockQ.n ?_)
    refine Safe.block ?_
    repeat (first | refine Safe.seq ?_ | refine Safe.skip ?_ | with_reducible refine thenQ.n ?_ | with_reducible refine blockQ.n ?_)
    refine Safe.loopW (fun ((v5_451, v19_452) : (List Int) × Int) => ⟨Try.f13.ntmps, [(5, V.ref [7000, 118, 5] 0 (rws (fun n => [V.int .u8 n]) v5_451).length), (17, V.sl 3 (rws api_Entry.cells a0_358)), (18, V.int .i64 (a0_358.length : Int)), (19, V.int .i64 v19_452)], [([7000, 118, 5], Obj.rows 1 (rws (fun n => [V.int .u8 n]) v5_451) false)], [], []⟩) h (.ren [16] [7000, 118, 5] (.cov ⟨rfl, rfl, (upT_cons (.refl _) (upT_cons (.refl _) (upT_cons (.refl _) (upT_cons (.refl _) upT_nil)))), (upOb_cons rfl (.refl _) upOb_nil), upOut_nil, rfl⟩)) ?_
    rintro ⟨v5_451, v19_452⟩ ohr453 h hr453
    replace h : go_entry_Write_s1 a0_358 (v5_451, v19_452) = some ohr453 := h
    rw [go_entry_Write_s1] at h
    repeat (first | refine Safe.seq ?_ | refine Safe.skip ?_ | with_reducible refine thenQ.n ?_ | with_reducible refine blockQ.n ?_)
    refine Safe.region ?_
    refine SafeOps.quiet0 E_good rfl rfl rfl (v := V.bool (decide (v19_452 < (a0_358.length : Int)))) (.fn rfl) ?_
    refine SafeOps.nil ?_
    repeat (first | refine Safe.seq ?_ | refine Safe.skip ?_ | with_reducible refine thenQ.n ?_ | with_reducible refine blockQ.n ?_)
    refine ifG h (fun hc454 h => ?_) (fun hc454 h => ?_)
    · skip
      refine Safe.condK rfl hc454 ?_
      repeat (first | refine Safe.seq ?_ | refine Safe.skip ?_ | with_reducible refine thenQ.n ?_ | with_reducible refine blockQ.n ?_)
      refine Safe.block ?_
      repeat (first | refine Safe.seq ?_ | refine Safe.skip ?_ | with_reducible refine thenQ.n ?_ | with_reducible refine blockQ.n ?_)
      refine Safe.region ?_
      refine okG h (fun hb455 h => ?_)
      refine SafeOps.quiet0 E_good rfl rfl rfl (v := V.spt 3 (rws api_Entry.cells a0_358) (Int.toNat v19_452) 0) (.idxSlM (f := api_Entry.cells) rfl rfl rfl rfl rfl hb455) ?_
      refine SafeOps.quiet0 E_good rfl rfl rfl (v := V.agg [V.int .i64 ((gt a0_358 v19_452).Kind), V.int .i64 ((gt a0_358 v19_452).A), V.int .i64 ((gt a0_358 v19_452).B)]) (.load rfl rfl (.sptM (f := api_Entry.cells) hb455 rfl) rfl) ?_
      refine SafeOps.quiet1 E_good rfl rfl rfl (.alloc rfl rfl) rfl ?_
      refine SafeOps.store (z := Obj.box [V.int .i64 ((gt a0_358 v19_452).Kind), V.int .i64 ((gt a0_358 v19_452).A), V.int .i64 ((gt a0_358 v19_452).B)]) E_good rfl rfl rfl rfl rfl rfl rfl (.boxM (c := 3) rfl rfl (Nat.le_of_ble_eq_true rfl) rfl) ?_
      refine SafeOps.nil ?_
      repeat (first | refine Safe.seq ?_ | refine Safe.skip ?_ | with_reducible refine thenQ.n ?_ | with_reducible refine blockQ.n ?_)
      refine Safe.region ?_
      refine SafeOps.quiet0 E_good rfl rfl rfl (v := V.ref [7000, 118, 5] 0 (rws (fun n => [V.int .u8 n]) v5_451).length) (.fn rfl) ?_
      refine SafeOps.quiet0 E_good rfl rfl rfl (v := V.ptr [7] 0 0) (.fn rfl) ?_
      refine SafeOps.quiet0 E_good rfl rfl rfl (v := V.int .i64 ((gt a0_358 v19_452).Kind)) (.load rfl rfl (.box rfl rfl) rfl) ?_
      refine SafeOps.quiet0 E_good rfl rfl rfl (v := V.int .u8 (IntKind.u8.wrap ((gt a0_358 v19_452).Kind))) (.fn rfl) ?_
      refine SafeOps.quiet0 E_good rfl rfl rfl (v := V.ptr [7] 0 1) (.fn rfl) ?_
      refine SafeOps.quiet0 E_good rfl rfl rfl (v := V.int .i64 ((gt a0_358 v19_452).A)) (.load rfl rfl (.box rfl rfl) rfl) ?_
      refine SafeOps.quiet0 E_good rfl rfl rfl (v := V.int .u8 (IntKind.u8.wrap ((gt a0_358 v19_452).A))) (.fn rfl) ?_
      refine SafeOps.quiet0 E_good rfl rfl rfl (v := V.ptr [7] 0 2) (.fn rfl) ?_
      refine SafeOps.quiet0 E_good rfl rfl rfl (v := V.int .i64 ((gt a0_358 v19_452).B)) (.load rfl rfl (.box rfl rfl) rfl) ?_
      refine SafeOps.quiet0 E_good rfl rfl rfl (v := V.int .u8 (IntKind.u8.wrap ((gt a0_358 v19_452).B))) (.fn rfl) ?_
      refine SafeOps.quiet1 E_good rfl rfl rfl (.litM (f := (fun n => [V.int .u8 n])) (xs := [IntKind.u8.wrap ((gt a0_358 v19_452).Kind), IntKind.u8.wrap ((gt a0_358 v19_452).A), IntKind.u8.wrap ((gt a0_358 v19_452).B)]) rfl rfl (by decide) rfl rfl rfl rfl rfl) rfl ?_
      refine okG h (fun hb456 h => ?_)
      refine SafeOps.appendM (fun n => [V.int .u8 n]) (xs := v5_451) (ys := [IntKind.u8.wrap ((gt a0_358 v19_452).Kind), IntKind.u8.wrap ((gt a0_358 v19_452).A), IntKind.u8.wrap ((gt a0_358 v19_452).B)]) E_good rfl rfl rfl rfl rfl rfl rfl rfl rfl (.own rfl) (.own rfl) (fun _ => rfl) hb456 ?_
      refine SafeOps.quiet0 E_good rfl rfl rfl (v := V.ref [34] 0 (rws (fun n => [V.int .u8 n]) (v5_451 ++ [IntKind.u8.wrap ((gt a0_358 v19_452).Kind), IntKind.u8.wrap ((gt a0_358 v19_452).A), IntKind.u8.wrap ((gt a0_358 v19_452).B)])).length) (.fn rfl) ?_
      refine SafeOps.nil ?_
      repeat (first | refine Safe.seq ?_ | refine Safe.skip ?_ | with_reducible refine thenQ.n ?_ | with_reducible refine blockQ.n ?_)
      refine Safe.region ?_
      refine SafeOps.quiet0 E_good rfl rfl rfl (v := V.int .i64 (IntKind.i64.wrap (v19_452 + 1))) (.fn rfl) ?_
      refine SafeOps.quiet0 E_good rfl rfl rfl (v := V.int .i64 (IntKind.i64.wrap (v19_452 + 1))) (.fn rfl) ?_
      refine SafeOps.nil ?_
      repeat (first | refine Safe.seq ?_ | refine Safe.skip ?_ | with_reducible refine thenQ.n ?_ | with_reducible refine blockQ.n ?_)
      exact ⟨_, next_out h, (.ren [34] [7000, 118, 5] (.cov ⟨rfl, rfl, (upT_cons (.refl _) (upT_cons (.refl _) (upT_cons (.refl _) (upT_cons (.refl _) upT_nil)))), (upOb_cons rfl (.refl _) upOb_nil), upOut_nil, rfl⟩))⟩
    · skip
      refine Safe.condN rfl hc454 ?_
      repeat (first | refine Safe.seq ?_ | refine Safe.skip ?_ | with_reducible refine thenQ.n ?_ | with_reducible refine blockQ.n ?_)
      refine Safe.exit ?_
      repeat (first | with_reducible refine thenQ.e ?_ | with_reducible refine blockQ.x rfl ?_ | with_reducible refine blockQ.y rfl ?_)
      replace h := inr_out h hr453
      repeat (first | refine Safe.seq ?_ | refine Safe.skip ?_ | with_reducible refine thenQ.n ?_ | with_reducible refine blockQ.n ?_)
      refine Safe.region ?_
      refine SafeOps.quiet0 E_good rfl rfl rfl (v := V.ref [7000, 118, 5] 0 (rws (fun n => [V.int .u8 n]) v5_451).length) (.fn rfl) ?_
      refine SafeOps.quiet0 E_good rfl rfl rfl (v := V.ref [7000, 118, 5] 0 (rws (fun n => [V.int .u8 n]) v5_451).length) (.fn rfl) ?_
      refine SafeOps.quiet0 E_good rfl rfl rfl (v := V.int .i64 0) (.fn rfl) ?_
      refine SafeOps.nil ?_
      repeat (first | refine Safe.seq ?_ | refine Safe.skip ?_ | with_reducible refine thenQ.n ?_ | with_reducible refine blockQ.n ?_)
      refine Safe.ret ?_
      repeat (first | with_reducible refine thenQ.r ?_ | with_reducible refine blockQ.r ?_)
      obtain rfl := Option.some.inj h
      exact retQ.gen (vs := [V.ref [7000, 118, 5] 0 (rws (fun n => [V.int .u8 n]) v5_451).length, V.int .i64 0]) rfl (.tmp (v := V.ref [7000, 118, 5] 0 (rws (fun n => [V.int .u8 n]) v5_451).length) rfl (.tmp (v := V.int .i64 0) rfl .nil)) (by exact (.tup (.cons (.own rfl rfl) (.cons (.free rfl) .nil)))) (by simp) (.inr rfl)

noncomputable def go_ravellaw19_live_j1 (x_474 : List Int) (b_482 : Bool) : Option Bool :=
  if b_482 = true then
    if 0 ≤ (1 : Int) ∧ (1 : Int) < (x_474.length : Int) then
      some ((gt x_474 1) == 5)
    else none
  else
    some false

noncomputable def go_ravellaw19_live  : Option Bool :=
  (go_entry_Fair [api_Entry.zero, (api_Entry.mk 0 1 0), api_Entry.zero, (api_Entry.mk 0 1 0)] 2 2).bind fun (x_471, x_472) =>
  (go_entry_Write [(api_Entry.mk 2 5 0)]).bind fun (x_474, x_475) =>
  if (((x_471 && (x_472 == 0)) && (x_475 == 0)) && ((x_474.length : Int) == 3)) = true then
    if 0 ≤ (0 : Int) ∧ (0 : Int) < (x_474.length : Int) then
      go_ravellaw19_live_j1 x_474 ((gt x_474 0) == 2)
    else none
  else
    go_ravellaw19_live_j1 x_474 false

theorem go_ravellaw19_live_sc  (r : Bool) (h : go_ravellaw19_live  = some r) : SC Try.prog gl 8 [] (V.bool r) := by
  rw [go_ravellaw19_live] at h
  refine SC.of E_good Try.func8 rfl (fun _ _ => Try.call8 _ _) rfl ?_
  repeat (first | refine Safe.seq ?_ | refine Safe.skip ?_ | with_reducible refine thenQ.n ?_ | with_reducible refine blockQ.n ?_)
  refine Safe.region ?_
  refine SafeOps.quiet0 E_good rfl rfl rfl (v := V.bool false) (.fn rfl) ?_
  refine SafeOps.nil ?_
  repeat (first | refine Safe.seq ?_ | refine Safe.skip ?_ | with_reducible refine thenQ.n ?_ | with_reducible refine blockQ.n ?_)
  refine Safe.region ?_
  refine SafeOps.quiet0 E_good rfl rfl rfl (v := V.agg [V.int .i64 0, V.int .i64 0, V.int .i64 0]) (.fn rfl) ?_
  refine SafeOps.quiet0 E_good rfl rfl rfl (v := V.agg [V.int .i64 0, V.int .i64 1, V.int .i64 0]) (.fn rfl) ?_
  refine SafeOps.quiet0 E_good rfl rfl rfl (v := V.agg [V.int .i64 0, V.int .i64 0, V.int .i64 0]) (.fn rfl) ?_
  refine SafeOps.quiet0 E_good rfl rfl rfl (v := V.agg [V.int .i64 0, V.int .i64 1, V.int .i64 0]) (.fn rfl) ?_
  refine SafeOps.quiet1 E_good rfl rfl rfl (.litM (f := api_Entry.cells) (xs := [api_Entry.zero, (api_Entry.mk 0 1 0), api_Entry.zero, (api_Entry.mk 0 1 0)]) rfl rfl (by decide) rfl rfl rfl rfl rfl) rfl ?_
  refine bindG h ?_
  rintro ⟨x_471, x_472⟩ he473 h
  refine SafeOps.quiet0 E_good rfl rfl rfl (v := V.tup [V.bool x_471, V.int .i64 x_472]) (.callS rfl (.cons (.full rfl rfl) (.cons (.free rfl) (.cons (.free rfl) .nil))) (go_entry_Fair_sc [api_Entry.zero, (api_Entry.mk 0 1 0), api_Entry.zero, (api_Entry.mk 0 1 0)] 2 2 _ he473) (.tupL (.cons (.plain rfl) (.cons (.plain rfl) .nil))) rfl) ?_
  refine SafeOps.quiet0 E_good rfl rfl rfl (v := V.tup [V.bool x_471, V.int .i64 x_472]) (.fn rfl) ?_
  refine SafeOps.quiet0 E_good rfl rfl rfl (v := V.bool x_471) (.fn rfl) ?_
  refine SafeOps.quiet0 E_good rfl rfl rfl (v := V.int .i64 x_472) (.fn rfl) ?_
  refine SafeOps.quiet0 E_good rfl rfl rfl (v := V.bool x_471) (.fn rfl) ?_
  refine SafeOps.quiet0 E_good rfl rfl rfl (v := V.int .i64 x_472) (.fn rfl) ?_
  refine SafeOps.nil ?_
  repeat (first | refine Safe.seq ?_ | refine Safe.skip ?_ | with_reducible refine thenQ.n ?_ | with_reducible refine blockQ.n ?_)
  refine Safe.region ?_
  refine SafeOps.quiet0 E_good rfl rfl rfl (v := V.agg [V.int .i64 2, V.int .i64 5, V.int .i64 0]) (.fn rfl) ?_
  refine SafeOps.quiet1 E_good rfl rfl rfl (.litM (f := api_Entry.cells) (xs := [(api_Entry.mk 2 5 0)]) rfl rfl (by decide) rfl rfl rfl rfl rfl) rfl ?_
  refine bindG h ?_
  rintro ⟨x_474, x_475⟩ he476 h
  refine SafeOps.quiet E_good rfl rfl rfl (v := V.tup [V.ref [17, 0] 0 (rws (fun n => [V.int .u8 n]) x_474).length, V.int .i64 x_475]) (.callS rfl (.cons (.full rfl rfl) .nil) (go_entry_Write_sc [(api_Entry.mk 2 5 0)] _ he476) (.tupL (.cons (.ownM (fun _ => rfl)) (.cons (.plain rfl) .nil))) rfl) rfl ?_
  refine SafeOps.quiet0 E_good rfl rfl rfl (v := V.tup [V.ref [17, 0] 0 (rws (fun n => [V.int .u8 n]) x_474).length, V.int .i64 x_475]) (.fn rfl) ?_
  refine SafeOps.quiet0 E_good rfl rfl rfl (v := V.ref [17, 0] 0 (rws (fun n => [V.int .u8 n]) x_474).length) (.fn rfl) ?_
  refine SafeOps.quiet0 E_good rfl rfl rfl (v := V.int .i64 x_475) (.fn rfl) ?_
  refine SafeOps.quiet0 E_good rfl rfl rfl (v := V.ref [17, 0] 0 (rws (fun n => [V.int .u8 n]) x_474).length) (.fn rfl) ?_
  refine SafeOps.quiet0 E_good rfl rfl rfl (v := V.int .i64 x_475) (.fn rfl) ?_
  refine SafeOps.nil ?_
  repeat (first | refine Safe.seq ?_ | refine Safe.skip ?_ | with_reducible refine thenQ.n ?_ | with_reducible refine blockQ.n ?_)
  refine Safe.region ?_
  refine SafeOps.quiet0 E_good rfl rfl rfl (v := V.bool x_471) (.fn rfl) ?_
  refine SafeOps.quiet0 E_good rfl rfl rfl (v := V.bool x_471) (.fn rfl) ?_
  refine SafeOps.bjoin 3 24 (b := (x_471 && (x_472 == 0))) (b1 := (x_472 == 0)) (b0 := false) (fun hc477 K => ?_) (fun hc477 K => ?_) bj_and ?_
  · skip
    refine SafeOps.quiet0 E_good (congrArg some hc477) rfl rfl (v := V.int .i64 x_472) (.fn rfl) ?_
    refine SafeOps.quiet0 E_good (congrArg some hc477) rfl rfl (v := V.bool (x_472 == 0)) (.fn rfl) ?_
    refine SafeOps.quiet0 E_good rfl rfl rfl (v := V.bool (x_472 == 0)) (.pickK rfl hc477 rfl) ?_
    exact SafeOps.drop' 3 rfl rfl rfl K
  · skip
    refine SafeOps.skip (congrArg some hc477) rfl rfl ?_
    refine SafeOps.skip (congrArg some hc477) rfl rfl ?_
    refine SafeOps.quiet0 E_good rfl rfl rfl (v := V.bool false) (.pickK rfl hc477 rfl) ?_
    exact SafeOps.drop' 3 rfl rfl rfl K
  refine SafeOps.quiet0 E_good rfl rfl rfl (v := V.bool (x_471 && (x_472 == 0))) (.fn rfl) ?_
  refine SafeOps.bjoin 3 28 (b := ((x_471 && (x_472 == 0)) && (x_475 == 0))) (b1 := (x_475 == 0)) (b0 := false) (fun hc478 K => ?_) (fun hc478 K => ?_) bj_and ?_
  · skip
    refine SafeOps.quiet0 E_good (congrArg some hc478) rfl rfl (v := V.int .i64 x_475) (.fn rfl) ?_
    refine SafeOps.quiet0 E_good (congrArg some hc478) rfl rfl (v := V.bool (x_475 == 0)) (.fn rfl) ?_
    refine SafeOps.quiet0 E_good rfl rfl rfl (v := V.bool (x_475 == 0)) (.pickK rfl hc478 rfl) ?_
    exact SafeOps.drop' 3 rfl rfl rfl K
  · skip
    refine SafeOps.skip (congrArg some hc478) rfl rfl ?_
    refine SafeOps.skip (congrArg some hc478) rfl rfl ?_
    refine SafeOps.quiet0 E_good rfl rfl rfl (v := V.bool false) (.pickK rfl hc478 rfl) ?_
    exact SafeOps.drop' 3 rfl rfl rfl K
  refine SafeOps.quiet0 E_good rfl rfl rfl (v := V.bool ((x_471 && (x_472 == 0)) && (x_475 == 0))) (.fn rfl) ?_
  refine SafeOps.bjoin 4 33 (b := (((x_471 && (x_472 == 0)) && (x_475 == 0)) && ((x_474.length : Int) == 3))) (b1 := ((x_474.length : Int) == 3)) (b0 := false) (fun hc479 K => ?_) (fun hc479 K => ?_) bj_and ?_
  · skip
    refine SafeOps.quiet0 E_good (congrArg some hc479) rfl rfl (v := V.ref [17, 0] 0 (rws (fun n => [V.int .u8 n]) x_474).length) (.fn rfl) ?_
    refine SafeOps.quiet0 E_good (congrArg some hc479) rfl rfl (v := V.int .i64 (x_474.length : Int)) (.fnE rfl lenE) ?_
    refine SafeOps.quiet0 E_good (congrArg some hc479) rfl rfl (v := V.bool ((x_474.length : Int) == 3)) (.fn rfl) ?_
    refine SafeOps.quiet0 E_good rfl rfl rfl (v := V.bool ((x_474.length : Int) == 3)) (.pickK rfl hc479 rfl) ?_
    exact SafeOps.drop' 4 rfl rfl rfl K
  · skip
    refine SafeOps.skip (congrArg some hc479) rfl rfl ?_
    refine SafeOps.skip (congrArg some hc479) rfl rfl ?_
    refine SafeOps.skip (congrArg some hc479) rfl rfl ?_
    refine SafeOps.quiet0 E_good rfl rfl rfl (v := V.bool false) (.pickK rfl hc479 rfl) ?_
    exact SafeOps.drop' 4 rfl rfl rfl K
  refine SafeOps.quiet0 E_good rfl rfl rfl (v := V.bool (((x_471 && (x_472 == 0)) && (x_475 == 0)) && ((x_474.length : Int) == 3))) (.fn rfl) ?_
  refine SafeOps.bsplit 5 39 (fun b_482 => go_ravellaw19_live_j1 x_474 b_482 = some r) (fun HJ483 => ?_) (fun b_482 h => ?_)
  · refine ifG h (fun hc480 h => ?_) (fun hc480 h => ?_)
    · skip
      refine SafeOps.quiet0 E_good (congrArg some hc480) rfl rfl (v := V.ref [17, 0] 0 (rws (fun n => [V.int .u8 n]) x_474).length) (.fn rfl) ?_
      refine okG h (fun hb487 h => ?_)
      refine SafeOps.quiet0 E_good (congrArg some hc480) rfl rfl (v := V.ptr [17, 0] (0 + Int.toNat 0) 0) (.idxRefM (f := (fun n => [V.int .u8 n])) (xs := x_474) rfl rfl rfl rfl rfl rfl hb487) ?_
      refine SafeOps.quiet0 E_good (congrArg some hc480) rfl rfl (v := V.int .u8 (gt x_474 0)) (.load rfl rfl (.rowsM (f := (fun n => [V.int .u8 n])) (xs := x_474) hb487 rfl rfl) rfl) ?_
      refine SafeOps.quiet0 E_good (congrArg some hc480) rfl rfl (v := V.bool ((gt x_474 0) == 2)) (.fn rfl) ?_
      refine SafeOps.quiet0 E_good rfl rfl rfl (v := V.bool ((gt x_474 0) == 2)) (.pickK rfl hc480 rfl) ?_
      exact SafeOps.drop' 5 rfl rfl rfl (HJ483 _ h)
    · skip
      refine SafeOps.skip (congrArg some hc480) rfl rfl ?_
      refine SafeOps.skip (congrArg some hc480) rfl rfl ?_
      refine SafeOps.skip (congrArg some hc480) rfl rfl ?_
      refine SafeOps.skip (congrArg some hc480) rfl rfl ?_
      refine SafeOps.quiet0 E_good rfl rfl rfl (v := V.bool false) (.pickK rfl hc480 rfl) ?_
      exact SafeOps.drop' 5 rfl rfl rfl (HJ483 _ h)
  · replace h : go_ravellaw19_live_j1 x_474 b_482 = some r := h
    rw [go_ravellaw19_live_j1] at h
    refine SafeOps.quiet0 E_good rfl rfl rfl (v := V.bool b_482) (.fn rfl) ?_
    refine ifG h (fun hc484 h => ?_) (fun hc484 h => ?_)
    · skip
      refine SafeOps.quiet0 E_good (congrArg some hc484) rfl rfl (v := V.ref [17, 0] 0 (rws (fun n => [V.int .u8 n]) x_474).length) (.fn rfl) ?_
      refine okG h (fun hb486 h => ?_)
      refine SafeOps.quiet0 E_good (congrArg some hc484) rfl rfl (v := V.ptr [17, 0] (0 + Int.toNat 1) 0) (.idxRefM (f := (fun n => [V.int .u8 n])) (xs := x_474) rfl rfl rfl rfl rfl rfl hb486) ?_
      refine SafeOps.quiet0 E_good (congrArg some hc484) rfl rfl (v := V.int .u8 (gt x_474 1)) (.load rfl rfl (.rowsM (f := (fun n => [V.int .u8 n])) (xs := x_474) hb486 rfl rfl) rfl) ?_
      refine SafeOps.quiet0 E_good (congrArg some hc484) rfl rfl (v := V.bool ((gt x_474 1) == 5)) (.fn rfl) ?_
      refine SafeOps.quiet0 E_good rfl rfl rfl (v := V.bool ((gt x_474 1) == 5)) (.pickK rfl hc484 rfl) ?_
      refine SafeOps.quiet0 E_good rfl rfl rfl (v := V.bool ((gt x_474 1) == 5)) (.fn rfl) ?_
      refine SafeOps.nil ?_
      repeat (first | refine Safe.seq ?_ | refine Safe.skip ?_ | with_reducible refine thenQ.n ?_ | with_reducible refine blockQ.n ?_)
      refine Safe.ret ?_
      repeat (first | with_reducible refine thenQ.r ?_ | with_reducible refine blockQ.r ?_)
      obtain rfl := Option.some.inj h
      exact retQ.gen (vs := [V.bool ((gt x_474 1) == 5)]) rfl (.tmp (v := V.bool ((gt x_474 1) == 5)) rfl .nil) (.free rfl) (by simp) (.inr rfl)
    · skip
      refine SafeOps.skip (congrArg some hc484) rfl rfl ?_
      refine SafeOps.skip (congrArg some hc484) rfl rfl ?_
      refine SafeOps.skip (congrArg some hc484) rfl rfl ?_
      refine SafeOps.skip (congrArg some hc484) rfl rfl ?_
      refine SafeOps.quiet0 E_good rfl rfl rfl (v := V.bool false) (.pickK rfl hc484 rfl) ?_
      refine SafeOps.quiet0 E_good rfl rfl rfl (v := V.bool false) (.fn rfl) ?_
      refine SafeOps.nil ?_
      repeat (first | refine Safe.seq ?_ | refine Safe.skip ?_ | with_reducible refine thenQ.n ?_ | with_reducible refine blockQ.n ?_)
      refine Safe.ret ?_
      repeat (first | with_reducible refine thenQ.r ?_ | with_reducible refine blockQ.r ?_)
      obtain rfl := Option.some.inj h
      exact retQ.gen (vs := [V.bool false]) rfl (.tmp (v := V.bool false) rfl .nil) (.free rfl) (by simp) (.inr rfl)

noncomputable def go_ravellaw19_EntryFair_s3 (a1_2 : Int) (x_549 : Bool) : ((List api_Entry) × Int) → Option (((List api_Entry) × Int) ⊕ (Bool))
  | (v23_612, v150_613) =>
    if (decide (v150_613 < (IntKind.i64.wrap (3 * a1_2)))) = true then
      if a1_2 ≠ 0 then
        if few (v23_612 ++ [(api_Entry.mk 0 (Int.tmod v150_613 a1_2) 0)]).length then
          nextO (v23_612 ++ [(api_Entry.mk 0 (Int.tmod v150_613 a1_2) 0)], IntKind.i64.wrap (v150_613 + 1))
        else none
      else none
    else
      inrO (
        (go_entry_Fair v23_612 a1_2 a1_2).bind fun (x_618, x_619) =>
        some ((x_549 && (x_619 == 0)) && x_618))

noncomputable def go_ravellaw19_EntryFair_j1 (a1_2 : Int) (x_549 : Bool) : Option Bool :=
  whileO (go_ravellaw19_EntryFair_s3 a1_2 x_549) ([], 0)

noncomputable def go_ravellaw19_EntryFair (a0_1 : List api_Entry) (a1_2 : Int) (a2_3 : Int) (a3_4 : Int) (a4_5 : Int) : Option Bool :=
  (go_ravellaw19_live).bind fun x_549 =>
  if (!x_549) = true then
    some false
  else
    if (((((((decide ((a0_1.length : Int) > 200)) || (decide (a2_3 < 1))) || (decide (a2_3 > 500))) || (decide (a3_4 < 0))) || (decide (a3_4 > 500))) || (decide (a1_2 < 1))) || (decide (a1_2 > 64))) = true then
      some x_549
    else
      (go_entry_Fair a0_1 a1_2 a2_3).bind fun (x_559, x_560) =>
      (go_entry_Only a0_1 0).bind fun x_562 =>
      (go_entry_Fair x_562 a1_2 a2_3).bind fun (x_564, x_565) =>
      if (((x_560 != 0) || (x_565 != 0)) || (!(x_559 == x_564))) = true then
        some false
      else
        if x_559 = true then
          if (IntKind.i64.wrap ((x_562.length : Int) + 1)) ≠ 0 then
            if (IntKind.i64.wrap ((x_562.length : Int) + 1)) ≠ 0 then
              (go_entry_Fair a0_1 a1_2 (IntKind.i64.wrap (a2_3 + a3_4))).bind fun (x_626, x_627) =>
              if 0 ≤ (Int.tmod (IntKind.i64.wrap ((IntKind.i64.wrap ((Int.tmod a4_5 (IntKind.i64.wrap ((x_562.length : Int) + 1))) + (x_562.length : Int))) + 1)) (IntKind.i64.wrap ((x_562.length : Int) + 1))) ∧ (Int.tmod (IntKind.i64.wrap ((IntKind.i64.wrap ((Int.tmod a4_5 (IntKind.i64.wrap ((x_562.length : Int) + 1))) + (x_562.length : Int))) + 1)) (IntKind.i64.wrap ((x_562.length : Int) + 1))) ≤ (x_562.length : Int) then
                (go_entry_Fair (sub x_562 (Int.tmod (IntKind.i64.wrap ((IntKind.i64.wrap ((Int.tmod a4_5 (IntKind.i64.wrap ((x_562.length : Int) + 1))) + (x_562.length : Int))) + 1)) (IntKind.i64.wrap ((x_562.length : Int) + 1))) (x_562.length : Int)) a1_2 a2_3).bind fun (x_630, x_631) =>
                if 0 ≤ (Int.tmod (IntKind.i64.wrap ((IntKind.i64.wrap ((Int.tmod a4_5 (IntKind.i64.wrap ((x_562.length : Int) + 1))) + (x_562.length : Int))) + 1)) (IntKind.i64.wrap ((x_562.length : Int) + 1))) ∧ (Int.tmod (IntKind.i64.wrap ((IntKind.i64.wrap ((Int.tmod a4_5 (IntKind.i64.wrap ((x_562.length : Int) + 1))) + (x_562.length : Int))) + 1)) (IntKind.i64.wrap ((x_562.length : Int) + 1))) ≤ (x_562.length : Int) then
                  (go_entry_Fair (sub x_562 0 (Int.tmod (IntKind.i64.wrap ((IntKind.i64.wrap ((Int.tmod a4_5 (IntKind.i64.wrap ((x_562.length : Int) + 1))) + (x_562.length : Int))) + 1)) (IntKind.i64.wrap ((x_562.length : Int) + 1)))) a1_2 a2_3).bind fun (x_634, x_635) =>
                  if ((((((x_627 != 0) || (x_631 != 0)) || (x_635 != 0)) || (!x_626)) || (!x_630)) || (!x_634)) = true then
                    some false
                  else
                    go_ravellaw19_EntryFair_j1 a1_2 x_549
                else none
              else none
            else none
          else none
        else
          go_ravellaw19_EntryFair_j1 a1_2 x_549

theorem go_ravellaw19_EntryFair_sc (a0_1 : List api_Entry) (a1_2 : Int) (a2_3 : Int) (a3_4 : Int) (a4_5 : Int) (r : Bool) (h : go_ravellaw19_EntryFair a0_1 a1_2 a2_3 a3_4 a4_5 = some r) : SC Try.prog gl 3 [V.sl 3 (rws api_Entry.cells a0_1), V.int .i64 a1_2, V.int .i64 a2_3, V.int .i64 a3_4, V.int .i64 a4_5] (V.bool r) := by
  rw [go_ravellaw19_EntryFair] at h
  refine SC.of E_good Try.func3 rfl (fun _ _ => Try.call3 _ _) rfl ?_
  repeat (first | refine Safe.seq ?_ | refine Safe.skip ?_ | with_reducible refine thenQ.n ?_ | with_reducible refine blockQ.n ?_)
  refine Safe.region ?_
  refine SafeOps.quiet0 E_good rfl rfl rfl (v := V.bool false) (.fn rfl) ?_
  refine SafeOps.nil ?_
  repeat (first | refine Safe.seq ?_ | refine Safe.skip ?_ | with_reducible refine thenQ.n ?_ | with_reducible refine blockQ.n ?_)
  refine Safe.region ?_
  refine bindG h ?_
  intro x_549 he550 h
  refine SafeOps.quiet0 E_good rfl rfl rfl (v := V.bool x_549) (.callP rfl rfl (go_ravellaw19_live_sc  _ he550) rfl) ?_
  refine SafeOps.quiet0 E_good rfl rfl rfl (v := V.bool x_549) (.fn rfl) ?_
  refine SafeOps.nil ?_
  repeat (first | refine Safe.seq ?_ | refine Safe.skip ?_ | with_reducible refine thenQ.n ?_ | with_reducible refine blockQ.n ?_)
  refine Safe.region ?_
  refine SafeOps.quiet0 E_good rfl rfl rfl (v := V.bool x_549) (.fn rfl) ?_
  refine SafeOps.quiet0 E_good rfl rfl rfl (v := V.bool (!x_549)) (.fn rfl) ?_
  refine SafeOps.nil ?_
  repeat (first | refine Safe.seq ?_ | refine Safe.skip ?_ | with_reducible refine thenQ.n ?_ | with_reducible refine blockQ.n ?_)
  refine ifG h (fun hc551 h => ?_) (fun hc551 h => ?_)
  · skip
    refine Safe.condK rfl hc551 ?_
    repeat (first | refine Safe.seq ?_ | refine Safe.skip ?_ | with_reducible refine thenQ.n ?_ | with_reducible refine blockQ.n ?_)
    refine Safe.region ?_
    refine SafeOps.quiet0 E_good rfl rfl rfl (v := V.bool false) (.fn rfl) ?_
    refine SafeOps.nil ?_
    repeat (first | refine Safe.seq ?_ | refine Safe.skip ?_ | with_reducible refine thenQ.n ?_ | with_reducible refine blockQ.n ?_)
    refine Safe.ret ?_
    repeat (first | with_reducible refine thenQ.r ?_ | with_reducible refine blockQ.r ?_)
    obtain rfl := Option.some.inj h
    exact retQ.gen (vs := [V.bool false]) rfl (.tmp (v := V.bool false) rfl .nil) (.free rfl) (by simp) (.inr rfl)
  · skip
    refine Safe.condN rfl hc551 ?_
    repeat (first | refine Safe.seq ?_ | refine Safe.skip ?_ | with_reducible refine thenQ.n ?_ | with_reducible refine blockQ.n ?_)
    refine Safe.region ?_
    refine SafeOps.quiet0 E_good rfl rfl rfl (v := V.sl 3 (rws api_Entry.cells a0_1)) (.fn rfl) ?_
    refine SafeOps.quiet0 E_good rfl rfl rfl (v := V.int .i64 (a0_1.length : Int)) (.fnE rfl lenE) ?_
    refine SafeOps.quiet0 E_good rfl rfl rfl (v := V.bool (decide ((a0_1.length : Int) > 200))) (.fn rfl) ?_
    refine SafeOps.quiet0 E_good rfl rfl rfl (v := V.bool (decide ((a0_1.length : Int) > 200))) (.fn rfl) ?_
    refine SafeOps.bjoin 3 36 (b := ((decide ((a0_1.length : Int) > 200)) || (decide (a2_3 < 1)))) (b1 := true) (b0 := decide (a2_3 < 1)) (fun hc552 K => ?_) (fun hc552 K => ?_) bj_or ?_
    · skip
      refine SafeOps.skip (congrArg (fun b => some (!b)) hc552) rfl rfl ?_
      refine SafeOps.skip (congrArg (fun b => some (!b)) hc552) rfl rfl ?_
      refine SafeOps.quiet0 E_good rfl rfl rfl (v := V.bool true) (.pickK rfl hc552 rfl) ?_
      exact SafeOps.drop' 3 rfl rfl rfl K
    · skip
      refine SafeOps.quiet0 E_good (congrArg (fun b => some (!b)) hc552) rfl rfl (v := V.int .i64 a2_3) (.fn rfl) ?_
      refine SafeOps.quiet0 E_good (congrArg (fun b => some (!b)) hc552) rfl rfl (v := V.bool (decide (a2_3 < 1))) (.fn rfl) ?_
      refine SafeOps.quiet0 E_good rfl rfl rfl (v := V.bool (decide (a2_3 < 1))) (.pickK rfl hc552 rfl) ?_
      exact SafeOps.drop' 3 rfl rfl rfl K
    refine SafeOps.quiet0 E_good rfl rfl rfl (v := V.bool ((decide ((a0_1.length : Int) > 200)) || (decide (a2_3 < 1)))) (.fn rfl) ?_
    refine SafeOps.bjoin 3 40 (b := (((decide ((a0_1.length : Int) > 200)) || (decide (a2_3 < 1))) || (decide (a2_3 > 500)))) (b1 := true) (b0 := decide (a2_3 > 500)) (fun hc553 K => ?_) (fun hc553 K => ?_) bj_or ?_
    · skip
      refine SafeOps.skip (congrArg (fun b => some (!b)) hc553) rfl rfl ?_
      refine SafeOps.skip (congrArg (fun b => some (!b)) hc553) rfl rfl ?_
      refine SafeOps.quiet0 E_good rfl rfl rfl (v := V.bool true) (.pickK rfl hc553 rfl) ?_
      exact SafeOps.drop' 3 rfl rfl rfl K
    · skip
      refine SafeOps.quiet0 E_good (congrArg (fun b => some (!b)) hc553) rfl rfl (v := V.int .i64 a2_3) (.fn rfl) ?_
      refine SafeOps.quiet0 E_good (congrArg (fun b => some (!b)) hc553) rfl rfl (v := V.bool (decide (a2_3 > 500))) (.fn rfl) ?_
      refine SafeOps.quiet0 E_good rfl rfl rfl (v := V.bool (decide (a2_3 > 500))) (.pickK rfl hc553 rfl) ?_
      exact SafeOps.drop' 3 rfl rfl rfl K
    refine SafeOps.quiet0 E_good rfl rfl rfl (v := V.bool (((decide ((a0_1.length : Int) > 200)) || (decide (a2_3 < 1))) || (decide (a2_3 > 500)))) (.fn rfl) ?_
    refine SafeOps.bjoin 3 44 (b := ((((decide ((a0_1.length : Int) > 200)) || (decide (a2_3 < 1))) || (decide (a2_3 > 500))) || (decide (a3_4 < 0)))) (b1 := true) (b0 := decide (a3_4 < 0)) (fun hc554 K => ?_) (fun hc554 K => ?_) bj_or ?_
    · skip
      refine SafeOps.skip (congrArg (fun b => some (!b)) hc554) rfl rfl ?_
      refine SafeOps.skip (congrArg (fun b => some (!b)) hc554) rfl rfl ?_
      refine SafeOps.quiet0 E_good rfl rfl rfl (v := V.bool true) (.pickK rfl hc554 rfl) ?_
      exact SafeOps.drop' 3 rfl rfl rfl K
    · skip
      refine SafeOps.quiet0 E_good (congrArg (fun b => some (!b)) hc554) rfl rfl (v := V.int .i64 a3_4) (.fn rfl) ?_
      refine SafeOps.quiet0 E_good (congrArg (fun b => some (!b)) hc554) rfl rfl (v := V.bool (decide (a3_4 < 0))) (.fn rfl) ?_
      refine SafeOps.quiet0 E_good rfl rfl rfl (v := V.bool (decide (a3_4 < 0))) (.pickK rfl hc554 rfl) ?_
      exact SafeOps.drop' 3 rfl rfl rfl K
    refine SafeOps.quiet0 E_good rfl rfl rfl (v := V.bool ((((decide ((a0_1.length : Int) > 200)) || (decide (a2_3 < 1))) || (decide (a2_3 > 500))) || (decide (a3_4 < 0)))) (.fn rfl) ?_
    refine SafeOps.bjoin 3 48 (b := (((((decide ((a0_1.length : Int) > 200)) || (decide (a2_3 < 1))) || (decide (a2_3 > 500))) || (decide (a3_4 < 0))) || (decide (a3_4 > 500)))) (b1 := true) (b0 := decide (a3_4 > 500)) (fun hc555 K => ?_) (fun hc555 K => ?_) bj_or ?_
    · skip
      refine SafeOps.skip (congrArg (fun b => some (!b)) hc555) rfl rfl ?_
      refine SafeOps.skip (congrArg (fun b => some (!b)) hc555) rfl rfl ?_
      refine SafeOps.quiet0 E_good rfl rfl rfl (v := V.bool true) (.pickK rfl hc555 rfl) ?_
      exact SafeOps.drop' 3 rfl rfl rfl K
    · skip
      refine SafeOps.quiet0 E_good (congrArg (fun b => some (!b)) hc555) rfl rfl (v := V.int .i64 a3_4) (.fn rfl) ?_
      refine SafeOps.quiet0 E_good (congrArg (fun b => some (!b)) hc555) rfl rfl (v := V.bool (decide (a3_4 > 500))) (.fn rfl) ?_
      refine SafeOps.quiet0 E_good rfl rfl rfl (v := V.bool (decide (a3_4 > 500))) (.pickK rfl hc555 rfl) ?_
      exact SafeOps.drop' 3 rfl rfl rfl K
    refine SafeOps.quiet0 E_good rfl rfl rfl (v := V.bool (((((decide ((a0_1.length : Int) > 200)) || (decide (a2_3 < 1))) || (decide (a2_3 > 500))) || (decide (a3_4 < 0))) || (decide (a3_4 > 500)))) (.fn rfl) ?_
    refine SafeOps.bjoin 3 52 (b := ((((((decide ((a0_1.length : Int) > 200)) || (decide (a2_3 < 1))) || (decide (a2_3 > 500))) || (decide (a3_4 < 0))) || (decide (a3_4 > 500))) || (decide (a1_2 < 1)))) (b1 := true) (b0 := decide (a1_2 < 1)) (fun hc556 K => ?_) (fun hc556 K => ?_) bj_or ?_
    · skip
      refine SafeOps.skip (congrArg (fun b => some (!b)) hc556) rfl rfl ?_
      refine SafeOps.skip (congrArg (fun b => some (!b)) hc556) rfl rfl ?_
      refine SafeOps.quiet0 E_good rfl rfl rfl (v := V.bool true) (.pickK rfl hc556 rfl) ?_
      exact SafeOps.drop' 3 rfl rfl rfl K
    · skip
      refine SafeOps.quiet0 E_good (congrArg (fun b => some (!b)) hc556) rfl rfl (v := V.int .i64 a1_2) (.fn rfl) ?_
      refine SafeOps.quiet0 E_good (congrArg (fun b => some (!b)) hc556) rfl rfl (v := V.bool (decide (a1_2 < 1))) (.fn rfl) ?_
      refine SafeOps.quiet0 E_good rfl rfl rfl (v := V.bool (decide (a1_2 < 1))) (.pickK rfl hc556 rfl) ?_
      exact SafeOps.drop' 3 rfl rfl rfl K
    refine SafeOps.quiet0 E_good rfl rfl rfl (v := V.bool ((((((decide ((a0_1.length : Int) > 200)) || (decide (a2_3 < 1))) || (decide (a2_3 > 500))) || (decide (a3_4 < 0))) || (decide (a3_4 > 500))) || (decide (a1_2 < 1)))) (.fn rfl) ?_
    refine SafeOps.bjoin 3 56 (b := (((((((decide ((a0_1.length : Int) > 200)) || (decide (a2_3 < 1))) || (decide (a2_3 > 500))) || (decide (a3_4 < 0))) || (decide (a3_4 > 500))) || (decide (a1_2 < 1))) || (decide (a1_2 > 64)))) (b1 := true) (b0 := decide (a1_2 > 64)) (fun hc557 K => ?_) (fun hc557 K => ?_) bj_or ?_
    · skip
      refine SafeOps.skip (congrArg (fun b => some (!b)) hc557) rfl rfl ?_
      refine SafeOps.skip (congrArg (fun b => some (!b)) hc557) rfl rfl ?_
      refine SafeOps.quiet0 E_good rfl rfl rfl (v := V.bool true) (.pickK rfl hc557 rfl) ?_
      exact SafeOps.drop' 3 rfl rfl rfl K
    · skip
      refine SafeOps.quiet0 E_good (congrArg (fun b => some (!b)) hc557) rfl rfl (v := V.int .i64 a1_2) (.fn rfl) ?_
      refine SafeOps.quiet0 E_good (congrArg (fun b => some (!b)) hc557) rfl rfl (v := V.bool (decide (a1_2 > 64))) (.fn rfl) ?_
      refine SafeOps.quiet0 E_good rfl rfl rfl (v := V.bool (decide (a1_2 > 64))) (.pickK rfl hc557 rfl) ?_
      exact SafeOps.drop' 3 rfl rfl rfl K
    refine SafeOps.nil ?_
    repeat (first | refine Safe.seq ?_ | refine Safe.skip ?_ | with_reducible refine thenQ.n ?_ | with_reducible refine blockQ.n ?_)
    refine ifG h (fun hc558 h => ?_) (fun hc558 h => ?_)
    · skip
      refine Safe.condK rfl hc558 ?_
      repeat (first | refine Safe.seq ?_ | refine Safe.skip ?_ | with_reducible refine thenQ.n ?_ | with_reducible refine blockQ.n ?_)
      refine Safe.region ?_
      refine SafeOps.quiet0 E_good rfl rfl rfl (v := V.bool x_549) (.fn rfl) ?_
      refine SafeOps.quiet0 E_good rfl rfl rfl (v := V.bool x_549) (.fn rfl) ?_
      refine SafeOps.nil ?_
      repeat (first | refine Safe.seq ?_ | refine Safe.skip ?_ | with_reducible refine thenQ.n ?_ | with_reducible refine blockQ.n ?_)
      refine Safe.ret ?_
      repeat (first | with_reducible refine thenQ.r ?_ | with_reducible refine blockQ.r ?_)
      obtain rfl := Option.some.inj h
      exact retQ.gen (vs := [V.bool x_549]) rfl (.tmp (v := V.bool x_549) rfl .nil) (.free rfl) (by simp) (.inr rfl)
    · skip
      refine Safe.condN rfl hc558 ?_
      repeat (first | refine Safe.seq ?_ | refine Safe.skip ?_ | with_reducible refine thenQ.n ?_ | with_reducible refine blockQ.n ?_)
      refine Safe.region ?_
      refine SafeOps.quiet0 E_good rfl rfl rfl (v := V.sl 3 (rws api_Entry.cells a0_1)) (.fn rfl) ?_
      refine SafeOps.quiet0 E_good rfl rfl rfl (v := V.int .i64 a1_2) (.fn rfl) ?_
      refine SafeOps.quiet0 E_good rfl rfl rfl (v := V.int .i64 a2_3) (.fn rfl) ?_
      refine bindG h ?_
      rintro ⟨x_559, x_560⟩ he561 h
      refine SafeOps.quiet0 E_good rfl rfl rfl (v := V.tup [V.bool x_559, V.int .i64 x_560]) (.callP rfl rfl (go_entry_Fair_sc a0_1 a1_2 a2_3 _ he561) rfl) ?_
      refine SafeOps.quiet0 E_good rfl rfl rfl (v := V.tup [V.bool x_559, V.int .i64 x_560]) (.fn rfl) ?_
      refine SafeOps.quiet0 E_good rfl rfl rfl (v := V.bool x_559) (.fn rfl) ?_
      refine SafeOps.quiet0 E_good rfl rfl rfl (v := V.int .i64 x_560) (.fn rfl) ?_
      refine SafeOps.quiet0 E_good rfl rfl rfl (v := V.bool x_559) (.fn rfl) ?_
      refine SafeOps.quiet0 E_good rfl rfl rfl (v := V.int .i64 x_560) (.fn rfl) ?_
      refine SafeOps.nil ?_
      repeat (first | refine Safe.seq ?_ | refine Safe.skip ?_ | with_reducible refine thenQ.n ?_ | with_reducible refine blockQ.n ?_)
      refine Safe.region ?_
      refine SafeOps.quiet0 E_good rfl rfl rfl (v := V.sl 3 (rws api_Entry.cells a0_1)) (.fn rfl) ?_
      refine bindG h ?_
      intro x_562 he563 h
      refine SafeOps.quiet E_good rfl rfl rfl (v := V.ref [66, 0] 0 (rws api_Entry.cells x_562).length) (.callP rfl rfl (go_entry_Only_sc a0_1 0 _ he563) rfl) rfl ?_
      refine SafeOps.quiet0 E_good rfl rfl rfl (v := V.ref [66, 0] 0 (rws api_Entry.cells x_562).length) (.fn rfl) ?_
      refine SafeOps.nil ?_
      repeat (first | refine Safe.seq ?_ | refine Safe.skip ?_ | with_reducible refine thenQ.n ?_ | with_reducible refine blockQ.n ?_)
      refine Safe.region ?_
      refine SafeOps.quiet0 E_good rfl rfl rfl (v := V.ref [66, 0] 0 (rws api_Entry.cells x_562).length) (.fn rfl) ?_
      refine SafeOps.quiet0 E_good rfl rfl rfl (v := V.int .i64 a1_2) (.fn rfl) ?_
      refine SafeOps.quiet0 E_good rfl rfl rfl (v := V.int .i64 a2_3) (.fn rfl) ?_
      refine bindG h ?_
      rintro ⟨x_564, x_565⟩ he566 h
      refine SafeOps.quiet0 E_good rfl rfl rfl (v := V.tup [V.bool x_564, V.int .i64 x_565]) (.callS rfl (.cons (.full rfl rfl) (.cons (.free rfl) (.cons (.free rfl) .nil))) (go_entry_Fair_sc x_562 a1_2 a2_3 _ he566) (.tupL (.cons (.plain rfl) (.cons (.plain rfl) .nil))) rfl) ?_
      refine SafeOps.quiet0 E_good rfl rfl rfl (v := V.tup [V.bool x_564, V.int .i64 x_565]) (.fn rfl) ?_
      refine SafeOps.quiet0 E_good rfl rfl rfl (v := V.bool x_564) (.fn rfl) ?_
      refine SafeOps.quiet0 E_good rfl rfl rfl (v := V.int .i64 x_565) (.fn rfl) ?_
      refine SafeOps.quiet0 E_good rfl rfl rfl (v := V.bool x_564) (.fn rfl) ?_
      refine SafeOps.quiet0 E_good rfl rfl rfl (v := V.int .i64 x_565) (.fn rfl) ?_
      refine SafeOps.nil ?_
      repeat (first | refine Safe.seq ?_ | refine Safe.skip ?_ | with_reducible refine thenQ.n ?_ | with_reducible refine blockQ.n ?_)
      refine Safe.region ?_
      refine SafeOps.quiet0 E_good rfl rfl rfl (v := V.int .i64 x_560) (.fn rfl) ?_
      refine SafeOps.quiet0 E_good rfl rfl rfl (v := V.bool (x_560 != 0)) (.fn rfl) ?_
      refine SafeOps.quiet0 E_good rfl rfl rfl (v := V.bool (x_560 != 0)) (.fn rfl) ?_
      refine SafeOps.bjoin 3 79 (b := ((x_560 != 0) || (x_565 != 0))) (b1 := true) (b0 := (x_565 != 0)) (fun hc567 K => ?_) (fun hc567 K => ?_) bj_or ?_
      · skip
        refine SafeOps.skip (congrArg (fun b => some (!b)) hc567) rfl rfl ?_
        refine SafeOps.skip (congrArg (fun b => some (!b)) hc567) rfl rfl ?_
        refine SafeOps.quiet0 E_good rfl rfl rfl (v := V.bool true) (.pickK rfl hc567 rfl) ?_
        exact SafeOps.drop' 3 rfl rfl rfl K
      · skip
        refine SafeOps.quiet0 E_good (congrArg (fun b => some (!b)) hc567) rfl rfl (v := V.int .i64 x_565) (.fn rfl) ?_
        refine SafeOps.quiet0 E_good (congrArg (fun b => some (!b)) hc567) rfl rfl (v := V.bool (x_565 != 0)) (.fn rfl) ?_
        refine SafeOps.quiet0 E_good rfl rfl rfl (v := V.bool (x_565 != 0)) (.pickK rfl hc567 rfl) ?_
        exact SafeOps.drop' 3 rfl rfl rfl K
      refine SafeOps.quiet0 E_good rfl rfl rfl (v := V.bool ((x_560 != 0) || (x_565 != 0))) (.fn rfl) ?_
      refine SafeOps.bjoin 4 84 (b := (((x_560 != 0) || (x_565 != 0)) || (!(x_559 == x_564)))) (b1 := true) (b0 := (!(x_559 == x_564))) (fun hc568 K => ?_) (fun hc568 K => ?_) bj_or ?_
      · skip
        refine SafeOps.skip (congrArg (fun b => some (!b)) hc568) rfl rfl ?_
        refine SafeOps.skip (congrArg (fun b => some (!b)) hc568) rfl rfl ?_
        refine SafeOps.skip (congrArg (fun b => some (!b)) hc568) rfl rfl ?_
        refine SafeOps.quiet0 E_good rfl rfl rfl (v := V.bool true) (.pickK rfl hc568 rfl) ?_
        exact SafeOps.drop' 4 rfl rfl rfl K
      · skip
        refine SafeOps.quiet0 E_good (congrArg (fun b => some (!b)) hc568) rfl rfl (v := V.bool x_559) (.fn rfl) ?_
        refine SafeOps.quiet0 E_good (congrArg (fun b => some (!b)) hc568) rfl rfl (v := V.bool x_564) (.fn rfl) ?_
        refine SafeOps.quiet0 E_good (congrArg (fun b => some (!b)) hc568) rfl rfl (v := V.bool (!(x_559 == x_564))) (.fn rfl) ?_
        refine SafeOps.quiet0 E_good rfl rfl rfl (v := V.bool (!(x_559 == x_564))) (.pickK rfl hc568 rfl) ?_
        exact SafeOps.drop' 4 rfl rfl rfl K
      refine SafeOps.nil ?_
      repeat (first | refine Safe.seq ?_ | refine Safe.skip ?_ | with_reducible refine thenQ.n ?_ | with_reducible refine blockQ.n ?_)
      refine ifG h (fun hc569 h => ?_) (fun hc569 h => ?_)
      · skip
        refine Safe.condK rfl hc569 ?_
        repeat (first | refine Safe.seq ?_ | refine Safe.skip ?_ | with_reducible refine thenQ.n ?_ | with_reducible refine blockQ.n ?_)
        refine Safe.region ?_
        refine SafeOps.quiet0 E_good rfl rfl rfl (v := V.bool false) (.fn rfl) ?_
        refine SafeOps.nil ?_
        repeat (first | refine Safe.seq ?_ | refine Safe.skip ?_ | with_reducible refine thenQ.n ?_ | with_reducible refine blockQ.n ?_)
        refine Safe.ret ?_
        repeat (first | with_reducible refine thenQ.r ?_ | with_reducible refine blockQ.r ?_)
        obtain rfl := Option.some.inj h
        exact retQ.gen (vs := [V.bool false]) rfl (.tmp (v := V.bool false) rfl .nil) (.free rfl) (by simp) (.inr rfl)
      · skip
        refine Safe.condN rfl hc569 ?_
        repeat (first | refine Safe.seq ?_ | refine Safe.skip ?_ | with_reducible refine thenQ.n ?_ | with_reducible refine blockQ.n ?_)
        refine Safe.region ?_
        refine SafeOps.quiet0 E_good rfl rfl rfl (v := V.bool x_559) (.fn rfl) ?_
        refine SafeOps.nil ?_
        repeat (first | refine Safe.seq ?_ | refine Safe.skip ?_ | with_reducible refine thenQ.n ?_ | with_reducible refine blockQ.n ?_)
        refine Safe.joinT (fun (_ : Unit) => go_ravellaw19_EntryFair_j1 a1_2 x_549 = some r) (fun (_ : Unit) => ⟨Try.f3.ntmps, [(1, V.int .i64 a1_2), (11, V.bool x_549)], [], [], []⟩) ?_ (fun HJ589 => ?_)
        · intro _ h
          replace h : go_ravellaw19_EntryFair_j1 a1_2 x_549 = some r := h
          rw [go_ravellaw19_EntryFair_j1] at h
          repeat (first | refine Safe.seq ?_ | refine Safe.skip ?_ | with_reducible refine thenQ.n ?_ | with_reducible refine blockQ.n ?_)
          refine Safe.region ?_
          refine SafeOps.quiet0 E_good rfl rfl rfl (v := V.nils) (.fn rfl) ?_
          refine SafeOps.nil ?_
          repeat (first | refine Safe.seq ?_ | refine Safe.skip ?_ | with_reducible refine thenQ.n ?_ | with_reducible refine blockQ.n ?_)
          refine Safe.region ?_
          refine SafeOps.quiet0 E_good rfl rfl rfl (v := V.int .i64 a1_2) (.fn rfl) ?_
          refine SafeOps.quiet0 E_good rfl rfl rfl (v := V.int .i64 (IntKind.i64.wrap (3 * a1_2))) (.fn rfl) ?_
          refine SafeOps.quiet0 E_good rfl rfl rfl (v := V.int .i64 0) (.fn rfl) ?_
          refine SafeOps.nil ?_
          repeat (first | refine Safe.seq ?_ | refine Safe.skip ?_ | with_reducible refine thenQ.n ?_ | with_reducible refine blockQ.n ?_)
          refine Safe.block ?_
          repeat (first | refine Safe.seq ?_ | refine Safe.skip ?_ | with_reducible refine thenQ.n ?_ | with_reducible refine blockQ.n ?_)
          refine Safe.loopW (fun ((v23_612, v150_613) : (List api_Entry) × Int) => ⟨Try.f3.ntmps, [(1, V.int .i64 a1_2), (11, V.bool x_549), (23, V.ref [7000, 118, 23] 0 (rws api_Entry.cells v23_612).length), (149, V.int .i64 (IntKind.i64.wrap (3 * a1_2))), (150, V.int .i64 v150_613)], [([7000, 118, 23], Obj.rows 3 (rws api_Entry.cells v23_612) false)], [], []⟩) h (.empty [7000, 118, 23] 3 rfl (.cov ⟨rfl, rfl, (upT_cons (.refl _) (upT_cons (.refl _) (upT_cons (.nilref _) (upT_cons (.refl _) (upT_cons (.refl _) upT_nil))))), (upOb_cons rfl (.refl _) upOb_nil), upOut_nil, rfl⟩)) ?_
          rintro ⟨v23_612, v150_613⟩ ohr614 h hr614
          replace h : go_ravellaw19_EntryFair_s3 a1_2 x_549 (v23_612, v150_613) = some ohr614 := h
          rw [go_ravellaw19_EntryFair_s3] at h
          repeat (first | refine Safe.seq ?_ | refine Safe.skip ?_ | with_reducible refine thenQ.n ?_ | with_reducible refine blockQ.n ?_)
          refine Safe.region ?_
          refine SafeOps.quiet0 E_good rfl rfl rfl (v := V.bool (decide (v150_613 < (IntKind.i64.wrap (3 * a1_2))))) (.fn rfl) ?_
          refine SafeOps.nil ?_
          repeat (first | refine Safe.seq ?_ | refine Safe.skip ?_ | with_reducible refine thenQ.n ?_ | with_reducible refine blockQ.n ?_)
          refine ifG h (fun hc615 h => ?_) (fun hc615 h => ?_)
          · skip
            refine Safe.condK rfl hc615 ?_
            repeat (first | refine Safe.seq ?_ | refine Safe.skip ?_ | with_reducible refine thenQ.n ?_ | with_reducible refine blockQ.n ?_)
            refine Safe.block ?_
            repeat (first | refine Safe.seq ?_ | refine Safe.skip ?_ | with_reducible refine thenQ.n ?_ | with_reducible refine blockQ.n ?_)
            refine Safe.region ?_
            refine SafeOps.quiet0 E_good rfl rfl rfl (v := V.int .i64 v150_613) (.fn rfl) ?_
            refine SafeOps.quiet0 E_good rfl rfl rfl (v := V.int .i64 v150_613) (.fn rfl) ?_
            refine SafeOps.nil ?_
            repeat (first | refine Safe.seq ?_ | refine Safe.skip ?_ | with_reducible refine thenQ.n ?_ | with_reducible refine blockQ.n ?_)
            refine Safe.region ?_
            refine SafeOps.quiet0 E_good rfl rfl rfl (v := V.ref [7000, 118, 23] 0 (rws api_Entry.cells v23_612).length) (.fn rfl) ?_
            refine SafeOps.quiet0 E_good rfl rfl rfl (v := V.int .i64 v150_613) (.fn rfl) ?_
            refine SafeOps.quiet0 E_good rfl rfl rfl (v := V.int .i64 a1_2) (.fn rfl) ?_
            refine okG h (fun hb616 h => ?_)
            refine SafeOps.quiet0 E_good rfl rfl rfl (v := V.int .i64 (Int.tmod v150_613 a1_2)) (.remV rfl rfl hb616) ?_
            refine SafeOps.quiet0 E_good rfl rfl rfl (v := V.agg [V.int .i64 0, V.int .i64 (Int.tmod v150_613 a1_2), V.int .i64 0]) (.fn rfl) ?_
            refine SafeOps.quiet1 E_good rfl rfl rfl (.litM (f := api_Entry.cells) (xs := [(api_Entry.mk 0 (Int.tmod v150_613 a1_2) 0)]) rfl rfl (by decide) rfl rfl rfl rfl rfl) rfl ?_
            refine okG h (fun hb617 h => ?_)
            refine SafeOps.appendM api_Entry.cells (xs := v23_612) (ys := [(api_Entry.mk 0 (Int.tmod v150_613 a1_2) 0)]) E_good rfl rfl rfl rfl rfl rfl rfl rfl rfl (.own rfl) (.own rfl) (fun _ => rfl) hb617 ?_
            refine SafeOps.quiet0 E_good rfl rfl rfl (v := V.ref [159] 0 (rws api_Entry.cells (v23_612 ++ [(api_Entry.mk 0 (Int.tmod v150_613 a1_2) 0)])).length) (.fn rfl) ?_
            refine SafeOps.nil ?_
            repeat (first | refine Safe.seq ?_ | refine Safe.skip ?_ | with_reducible refine thenQ.n ?_ | with_reducible refine blockQ.n ?_)
            refine Safe.region ?_
            refine SafeOps.quiet0 E_good rfl rfl rfl (v := V.int .i64 (IntKind.i64.wrap (v150_613 + 1))) (.fn rfl) ?_
            refine SafeOps.quiet0 E_good rfl rfl rfl (v := V.int .i64 (IntKind.i64.wrap (v150_613 + 1))) (.fn rfl) ?_
            refine SafeOps.nil ?_
            repeat (first | refine Safe.seq ?_ | refine Safe.skip ?_ | with_reducible refine thenQ.n ?_ | with_reducible refine blockQ.n ?_)
            exact ⟨_, next_out h, (.ren [159] [7000, 118, 23] (.cov ⟨rfl, rfl, (upT_cons (.refl _) (upT_cons (.refl _) (upT_cons (.refl _) (upT_cons (.refl _) (upT_cons (.refl _) upT_nil))))), (upOb_cons rfl (.refl _) upOb_nil), upOut_nil, rfl⟩))⟩
          · skip
            refine Safe.condN rfl hc615 ?_
            repeat (first | refine Safe.seq ?_ | refine Safe.skip ?_ | with_reducible refine thenQ.n ?_ | with_reducible refine blockQ.n ?_)
            refine Safe.exit ?_
            repeat (first | with_reducible refine thenQ.e ?_ | with_reducible refine blockQ.x rfl ?_ | with_reducible refine blockQ.y rfl ?_)
            replace h := inr_out h hr614
            repeat (first | refine Safe.seq ?_ | refine Safe.skip ?_ | with_reducible refine thenQ.n ?_ | with_reducible refine blockQ.n ?_)
            refine Safe.region ?_
            refine SafeOps.quiet0 E_good rfl rfl rfl (v := V.ref [7000, 118, 23] 0 (rws api_Entry.cells v23_612).length) (.fn rfl) ?_
            refine SafeOps.quiet0 E_good rfl rfl rfl (v := V.int .i64 a1_2) (.fn rfl) ?_
            refine SafeOps.quiet0 E_good rfl rfl rfl (v := V.int .i64 a1_2) (.fn rfl) ?_
            refine bindG h ?_
            rintro ⟨x_618, x_619⟩ he620 h
            refine SafeOps.quiet0 E_good rfl rfl rfl (v := V.tup [V.bool x_618, V.int .i64 x_619]) (.callS rfl (.cons (.full rfl rfl) (.cons (.free rfl) (.cons (.free rfl) .nil))) (go_entry_Fair_sc v23_612 a1_2 a1_2 _ he620) (.tupL (.cons (.plain rfl) (.cons (.plain rfl) .nil))) rfl) ?_
            refine SafeOps.quiet0 E_good rfl rfl rfl (v := V.tup [V.bool x_618, V.int .i64 x_619]) (.fn rfl) ?_
            refine SafeOps.quiet0 E_good rfl rfl rfl (v := V.bool x_618) (.fn rfl) ?_
            refine SafeOps.quiet0 E_good rfl rfl rfl (v := V.int .i64 x_619) (.fn rfl) ?_
            refine SafeOps.quiet0 E_good rfl rfl rfl (v := V.bool x_618) (.fn rfl) ?_
            refine SafeOps.quiet0 E_good rfl rfl rfl (v := V.int .i64 x_619) (.fn rfl) ?_
            refine SafeOps.nil ?_
            repeat (first | refine Safe.seq ?_ | refine Safe.skip ?_ | with_reducible refine thenQ.n ?_ | with_reducible refine blockQ.n ?_)
            refine Safe.region ?_
            refine SafeOps.quiet0 E_good rfl rfl rfl (v := V.bool x_549) (.fn rfl) ?_
            refine SafeOps.quiet0 E_good rfl rfl rfl (v := V.bool x_549) (.fn rfl) ?_
            refine SafeOps.bjoin 3 172 (b := (x_549 && (x_619 == 0))) (b1 := (x_619 == 0)) (b0 := false) (fun hc621 K => ?_) (fun hc621 K => ?_) bj_and ?_
            · skip
              refine SafeOps.quiet0 E_good (congrArg some hc621) rfl rfl (v := V.int .i64 x_619) (.fn rfl) ?_
              refine SafeOps.quiet0 E_good (congrArg some hc621) rfl rfl (v := V.bool (x_619 == 0)) (.fn rfl) ?_
              refine SafeOps.quiet0 E_good rfl rfl rfl (v := V.bool (x_619 == 0)) (.pickK rfl hc621 rfl) ?_
              exact SafeOps.drop' 3 rfl rfl rfl K
            · skip
              refine SafeOps.skip (congrArg some hc621) rfl rfl ?_
              refine SafeOps.skip (congrArg some hc621) rfl rfl ?_
              refine SafeOps.quiet0 E_good rfl rfl rfl (v := V.bool false) (.pickK rfl hc621 rfl) ?_
              exact SafeOps.drop' 3 rfl rfl rfl K
            refine SafeOps.quiet0 E_good rfl rfl rfl (v := V.bool (x_549 && (x_619 == 0))) (.fn rfl) ?_
            refine SafeOps.bjoin 2 175 (b := ((x_549 && (x_619 == 0)) && x_618)) (b1 := x_618) (b0 := false) (fun hc622 K => ?_) (fun hc622 K => ?_) bj_and ?_
            · skip
              refine SafeOps.quiet0 E_good (congrArg some hc622) rfl rfl (v := V.bool x_618) (.fn rfl) ?_
              refine SafeOps.quiet0 E_good rfl rfl rfl (v := V.bool x_618) (.pickK rfl hc622 rfl) ?_
              exact SafeOps.drop' 2 rfl rfl rfl K
            · skip
              refine SafeOps.skip (congrArg some hc622) rfl rfl ?_
              refine SafeOps.quiet0 E_good rfl rfl rfl (v := V.bool false) (.pickK rfl hc622 rfl) ?_
              exact SafeOps.drop' 2 rfl rfl rfl K
            refine SafeOps.quiet0 E_good rfl rfl rfl (v := V.bool ((x_549 && (x_619 == 0)) && x_618)) (.fn rfl) ?_
            refine SafeOps.nil ?_
            repeat (first | refine Safe.seq ?_ | refine Safe.skip ?_ | with_reducible refine thenQ.n ?_ | with_reducible refine blockQ.n ?_)
            refine Safe.ret ?_
            repeat (first | with_reducible refine thenQ.r ?_ | with_reducible refine blockQ.r ?_)
            obtain rfl := Option.some.inj h
            exact retQ.gen (vs := [V.bool ((x_549 && (x_619 == 0)) && x_618)]) rfl (.tmp (v := V.bool ((x_549 && (x_619 == 0)) && x_618)) rfl .nil) (.free rfl) (by simp) (.inr rfl)
        · skip
          refine ifG h (fun hc623 h => ?_) (fun hc623 h => ?_)
          · skip
            refine Safe.condK rfl hc623 ?_
            repeat (first | refine Safe.seq ?_ | refine Safe.skip ?_ | with_reducible refine thenQ.n ?_ | with_reducible refine blockQ.n ?_)
            refine Safe.region ?_
            refine SafeOps.quiet0 E_good rfl rfl rfl (v := V.int .i64 a4_5) (.fn rfl) ?_
            refine SafeOps.quiet0 E_good rfl rfl rfl (v := V.ref [66, 0] 0 (rws api_Entry.cells x_562).length) (.fn rfl) ?_
            refine SafeOps.quiet0 E_good rfl rfl rfl (v := V.int .i64 (x_562.length : Int)) (.fnE rfl lenE) ?_
            refine SafeOps.quiet0 E_good rfl rfl rfl (v := V.int .i64 (IntKind.i64.wrap ((x_562.length : Int) + 1))) (.fn rfl) ?_
            refine okG h (fun hb624 h => ?_)
            refine SafeOps.quiet0 E_good rfl rfl rfl (v := V.int .i64 (Int.tmod a4_5 (IntKind.i64.wrap ((x_562.length : Int) + 1)))) (.remV rfl rfl hb624) ?_
            refine SafeOps.quiet0 E_good rfl rfl rfl (v := V.ref [66, 0] 0 (rws api_Entry.cells x_562).length) (.fn rfl) ?_
            refine SafeOps.quiet0 E_good rfl rfl rfl (v := V.int .i64 (x_562.length : Int)) (.fnE rfl lenE) ?_
            refine SafeOps.quiet0 E_good rfl rfl rfl (v := V.int .i64 (IntKind.i64.wrap ((Int.tmod a4_5 (IntKind.i64.wrap ((x_562.length : Int) + 1))) + (x_562.length : Int)))) (.fn rfl) ?_
            refine SafeOps.quiet0 E_good rfl rfl rfl (v := V.int .i64 (IntKind.i64.wrap ((IntKind.i64.wrap ((Int.tmod a4_5 (IntKind.i64.wrap ((x_562.length : Int) + 1))) + (x_562.length : Int))) + 1))) (.fn rfl) ?_
            refine SafeOps.quiet0 E_good rfl rfl rfl (v := V.ref [66, 0] 0 (rws api_Entry.cells x_562).length) (.fn rfl) ?_
            refine SafeOps.quiet0 E_good rfl rfl rfl (v := V.int .i64 (x_562.length : Int)) (.fnE rfl lenE) ?_
            refine SafeOps.quiet0 E_good rfl rfl rfl (v := V.int .i64 (IntKind.i64.wrap ((x_562.length : Int) + 1))) (.fn rfl) ?_
            refine okG h (fun hb625 h => ?_)
            refine SafeOps.quiet0 E_good rfl rfl rfl (v := V.int .i64 (Int.tmod (IntKind.i64.wrap ((IntKind.i64.wrap ((Int.tmod a4_5 (IntKind.i64.wrap ((x_562.length : Int) + 1))) + (x_562.length : Int))) + 1)) (IntKind.i64.wrap ((x_562.length : Int) + 1)))) (.remV rfl rfl hb625) ?_
            refine SafeOps.quiet0 E_good rfl rfl rfl (v := V.int .i64 (Int.tmod (IntKind.i64.wrap ((IntKind.i64.wrap ((Int.tmod a4_5 (IntKind.i64.wrap ((x_562.length : Int) + 1))) + (x_562.length : Int))) + 1)) (IntKind.i64.wrap ((x_562.length : Int) + 1)))) (.fn rfl) ?_
            refine SafeOps.nil ?_
            repeat (first | refine Safe.seq ?_ | refine Safe.skip ?_ | with_reducible refine thenQ.n ?_ | with_reducible refine blockQ.n ?_)
            refine Safe.region ?_
            refine SafeOps.quiet0 E_good rfl rfl rfl (v := V.sl 3 (rws api_Entry.cells a0_1)) (.fn rfl) ?_
            refine SafeOps.quiet0 E_good rfl rfl rfl (v := V.int .i64 a1_2) (.fn rfl) ?_
            refine SafeOps.quiet0 E_good rfl rfl rfl (v := V.int .i64 a2_3) (.fn rfl) ?_
            refine SafeOps.quiet0 E_good rfl rfl rfl (v := V.int .i64 a3_4) (.fn rfl) ?_
            refine SafeOps.quiet0 E_good rfl rfl rfl (v := V.int .i64 (IntKind.i64.wrap (a2_3 + a3_4))) (.fn rfl) ?_
            refine bindG h ?_
            rintro ⟨x_626, x_627⟩ he628 h
            refine SafeOps.quiet0 E_good rfl rfl rfl (v := V.tup [V.bool x_626, V.int .i64 x_627]) (.callP rfl rfl (go_entry_Fair_sc a0_1 a1_2 (IntKind.i64.wrap (a2_3 + a3_4)) _ he628) rfl) ?_
            refine SafeOps.quiet0 E_good rfl rfl rfl (v := V.tup [V.bool x_626, V.int .i64 x_627]) (.fn rfl) ?_
            refine SafeOps.quiet0 E_good rfl rfl rfl (v := V.bool x_626) (.fn rfl) ?_
            refine SafeOps.quiet0 E_good rfl rfl rfl (v := V.int .i64 x_627) (.fn rfl) ?_
            refine SafeOps.quiet0 E_good rfl rfl rfl (v := V.bool x_626) (.fn rfl) ?_
            refine SafeOps.quiet0 E_good rfl rfl rfl (v := V.int .i64 x_627) (.fn rfl) ?_
            refine SafeOps.nil ?_
            repeat (first | refine Safe.seq ?_ | refine Safe.skip ?_ | with_reducible refine thenQ.n ?_ | with_reducible refine blockQ.n ?_)
            refine Safe.region ?_
            refine SafeOps.quiet0 E_good rfl rfl rfl (v := V.ref [66, 0] 0 (rws api_Entry.cells x_562).length) (.fn rfl) ?_
            refine SafeOps.quiet0 E_good rfl rfl rfl (v := V.int .i64 (Int.tmod (IntKind.i64.wrap ((IntKind.i64.wrap ((Int.tmod a4_5 (IntKind.i64.wrap ((x_562.length : Int) + 1))) + (x_562.length : Int))) + 1)) (IntKind.i64.wrap ((x_562.length : Int) + 1)))) (.fn rfl) ?_
            refine SafeOps.freeze [66, 0] rfl ?_
            refine SafeOps.see 109 (u := V.sl 3 (rws api_Entry.cells x_562)) rfl (.full rfl rfl) ?_
            refine okG h (fun hb629 h => ?_)
            refine SafeOps.quiet0 E_good rfl rfl rfl (v := V.sl 3 (rws api_Entry.cells (sub x_562 (Int.tmod (IntKind.i64.wrap ((IntKind.i64.wrap ((Int.tmod a4_5 (IntKind.i64.wrap ((x_562.length : Int) + 1))) + (x_562.length : Int))) + 1)) (IntKind.i64.wrap ((x_562.length : Int) + 1))) (x_562.length : Int)))) (.slL (f := api_Entry.cells) rfl rfl rfl rfl rfl hb629) ?_
            refine SafeOps.quiet0 E_good rfl rfl rfl (v := V.int .i64 a1_2) (.fn rfl) ?_
            refine SafeOps.quiet0 E_good rfl rfl rfl (v := V.int .i64 a2_3) (.fn rfl) ?_
            refine bindG h ?_
            rintro ⟨x_630, x_631⟩ he632 h
            refine SafeOps.quiet0 E_good rfl rfl rfl (v := V.tup [V.bool x_630, V.int .i64 x_631]) (.callP rfl rfl (go_entry_Fair_sc (sub x_562 (Int.tmod (IntKind.i64.wrap ((IntKind.i64.wrap ((Int.tmod a4_5 (IntKind.i64.wrap ((x_562.length : Int) + 1))) + (x_562.length : Int))) + 1)) (IntKind.i64.wrap ((x_562.length : Int) + 1))) (x_562.length : Int)) a1_2 a2_3 _ he632) rfl) ?_
            refine SafeOps.quiet0 E_good rfl rfl rfl (v := V.tup [V.bool x_630, V.int .i64 x_631]) (.fn rfl) ?_
            refine SafeOps.quiet0 E_good rfl rfl rfl (v := V.bool x_630) (.fn rfl) ?_
            refine SafeOps.quiet0 E_good rfl rfl rfl (v := V.int .i64 x_631) (.fn rfl) ?_
            refine SafeOps.quiet0 E_good rfl rfl rfl (v := V.bool x_630) (.fn rfl) ?_
            refine SafeOps.quiet0 E_good rfl rfl rfl (v := V.int .i64 x_631) (.fn rfl) ?_
            refine SafeOps.nil ?_
            repeat (first | refine Safe.seq ?_ | refine Safe.skip ?_ | with_reducible refine thenQ.n ?_ | with_reducible refine blockQ.n ?_)
            refine Safe.region ?_
            refine SafeOps.quiet0 E_good rfl rfl rfl (v := V.ref [66, 0] 0 (rws api_Entry.cells x_562).length) (.fn rfl) ?_
            refine SafeOps.quiet0 E_good rfl rfl rfl (v := V.int .i64 (Int.tmod (IntKind.i64.wrap ((IntKind.i64.wrap ((Int.tmod a4_5 (IntKind.i64.wrap ((x_562.length : Int) + 1))) + (x_562.length : Int))) + 1)) (IntKind.i64.wrap ((x_562.length : Int) + 1)))) (.fn rfl) ?_
            refine SafeOps.see 118 (u := V.sl 3 (rws api_Entry.cells x_562)) rfl (.full rfl rfl) ?_
            refine okG h (fun hb633 h => ?_)
            refine SafeOps.quiet0 E_good rfl rfl rfl (v := V.sl 3 (rws api_Entry.cells (sub x_562 0 (Int.tmod (IntKind.i64.wrap ((IntKind.i64.wrap ((Int.tmod a4_5 (IntKind.i64.wrap ((x_562.length : Int) + 1))) + (x_562.length : Int))) + 1)) (IntKind.i64.wrap ((x_562.length : Int) + 1)))))) (.slH (f := api_Entry.cells) rfl rfl rfl rfl rfl hb633) ?_
            refine SafeOps.quiet0 E_good rfl rfl rfl (v := V.int .i64 a1_2) (.fn rfl) ?_
            refine SafeOps.quiet0 E_good rfl rfl rfl (v := V.int .i64 a2_3) (.fn rfl) ?_
            refine bindG h ?_
            rintro ⟨x_634, x_635⟩ he636 h
            refine SafeOps.quiet0 E_good rfl rfl rfl (v := V.tup [V.bool x_634, V.int .i64 x_635]) (.callP rfl rfl (go_entry_Fair_sc (sub x_562 0 (Int.tmod (IntKind.i64.wrap ((IntKind.i64.wrap ((Int.tmod a4_5 (IntKind.i64.wrap ((x_562.length : Int) + 1))) + (x_562.length : Int))) + 1)) (IntKind.i64.wrap ((x_562.length : Int) + 1)))) a1_2 a2_3 _ he636) rfl) ?_
            refine SafeOps.quiet0 E_good rfl rfl rfl (v := V.tup [V.bool x_634, V.int .i64 x_635]) (.fn rfl) ?_
            refine SafeOps.quiet0 E_good rfl rfl rfl (v := V.bool x_634) (.fn rfl) ?_
            refine SafeOps.quiet0 E_good rfl rfl rfl (v := V.int .i64 x_635) (.fn rfl) ?_
            refine SafeOps.quiet0 E_good rfl rfl rfl (v := V.bool x_634) (.fn rfl) ?_
            refine SafeOps.quiet0 E_good rfl rfl rfl (v := V.int .i64 x_635) (.fn rfl) ?_
            refine SafeOps.nil ?_
            repeat (first | refine Safe.seq ?_ | refine Safe.skip ?_ | with_reducible refine thenQ.n ?_ | with_reducible refine blockQ.n ?_)
            refine Safe.region ?_
            refine SafeOps.quiet0 E_good rfl rfl rfl (v := V.int .i64 x_627) (.fn rfl) ?_
            refine SafeOps.quiet0 E_good rfl rfl rfl (v := V.bool (x_627 != 0)) (.fn rfl) ?_
            refine SafeOps.quiet0 E_good rfl rfl rfl (v := V.bool (x_627 != 0)) (.fn rfl) ?_
            refine SafeOps.bjoin 3 131 (b := ((x_627 != 0) || (x_631 != 0))) (b1 := true) (b0 := (x_631 != 0)) (fun hc637 K => ?_) (fun hc637 K => ?_) bj_or ?_
            · skip
              refine SafeOps.skip (congrArg (fun b => some (!b)) hc637) rfl rfl ?_
              refine SafeOps.skip (congrArg (fun b => some (!b)) hc637) rfl rfl ?_
              refine SafeOps.quiet0 E_good rfl rfl rfl (v := V.bool true) (.pickK rfl hc637 rfl) ?_
              exact SafeOps.drop' 3 rfl rfl rfl K
            · skip
              refine SafeOps.quiet0 E_good (congrArg (fun b => some (!b)) hc637) rfl rfl (v := V.int .i64 x_631) (.fn rfl) ?_
              refine SafeOps.quiet0 E_good (congrArg (fun b => some (!b)) hc637) rfl rfl (v := V.bool (x_631 != 0)) (.fn rfl) ?_
              refine SafeOps.quiet0 E_good rfl rfl rfl (v := V.bool (x_631 != 0)) (.pickK rfl hc637 rfl) ?_
              exact SafeOps.drop' 3 rfl rfl rfl K
            refine SafeOps.quiet0 E_good rfl rfl rfl (v := V.bool ((x_627 != 0) || (x_631 != 0))) (.fn rfl) ?_
            refine SafeOps.bjoin 3 135 (b := (((x_627 != 0) || (x_631 != 0)) || (x_635 != 0))) (b1 := true) (b0 := (x_635 != 0)) (fun hc638 K => ?_) (fun hc638 K => ?_) bj_or ?_
            · skip
              refine SafeOps.skip (congrArg (fun b => some (!b)) hc638) rfl rfl ?_
              refine SafeOps.skip (congrArg (fun b => some (!b)) hc638) rfl rfl ?_
              refine SafeOps.quiet0 E_good rfl rfl rfl (v := V.bool true) (.pickK rfl hc638 rfl) ?_
              exact SafeOps.drop' 3 rfl rfl rfl K
            · skip
              refine SafeOps.quiet0 E_good (congrArg (fun b => some (!b)) hc638) rfl rfl (v := V.int .i64 x_635) (.fn rfl) ?_
              refine SafeOps.quiet0 E_good (congrArg (fun b => some (!b)) hc638) rfl rfl (v := V.bool (x_635 != 0)) (.fn rfl) ?_
              refine SafeOps.quiet0 E_good rfl rfl rfl (v := V.bool (x_635 != 0)) (.pickK rfl hc638 rfl) ?_
              exact SafeOps.drop' 3 rfl rfl rfl K
            refine SafeOps.quiet0 E_good rfl rfl rfl (v := V.bool (((x_627 != 0) || (x_631 != 0)) || (x_635 != 0))) (.fn rfl) ?_
            refine SafeOps.bjoin 3 139 (b := ((((x_627 != 0) || (x_631 != 0)) || (x_635 != 0)) || (!x_626))) (b1 := true) (b0 := (!x_626)) (fun hc639 K => ?_) (fun hc639 K => ?_) bj_or ?_
            · skip
              refine SafeOps.skip (congrArg (fun b => some (!b)) hc639) rfl rfl ?_
              refine SafeOps.skip (congrArg (fun b => some (!b)) hc639) rfl rfl ?_
              refine SafeOps.quiet0 E_good rfl rfl rfl (v := V.bool true) (.pickK rfl hc639 rfl) ?_
              exact SafeOps.drop' 3 rfl rfl rfl K
            · skip
              refine SafeOps.quiet0 E_good (congrArg (fun b => some (!b)) hc639) rfl rfl (v := V.bool x_626) (.fn rfl) ?_
              refine SafeOps.quiet0 E_good (congrArg (fun b => some (!b)) hc639) rfl rfl (v := V.bool (!x_626)) (.fn rfl) ?_
              refine SafeOps.quiet0 E_good rfl rfl rfl (v := V.bool (!x_626)) (.pickK rfl hc639 rfl) ?_
              exact SafeOps.drop' 3 rfl rfl rfl K
            refine SafeOps.quiet0 E_good rfl rfl rfl (v := V.bool ((((x_627 != 0) || (x_631 != 0)) || (x_635 != 0)) || (!x_626))) (.fn rfl) ?_
            refine SafeOps.bjoin 3 143 (b := (((((x_627 != 0) || (x_631 != 0)) || (x_635 != 0)) || (!x_626)) || (!x_630))) (b1 := true) (b0 := (!x_630)) (fun hc640 K => ?_) (fun hc640 K => ?_) bj_or ?_
            · skip
              refine SafeOps.skip (congrArg (fun b => some (!b)) hc640) rfl rfl ?_
              refine SafeOps.skip (congrArg (fun b => some (!b)) hc640) rfl rfl ?_
              refine SafeOps.quiet0 E_good rfl rfl rfl (v := V.bool true) (.pickK rfl hc640 rfl) ?_
              exact SafeOps.drop' 3 rfl rfl rfl K
            · skip
              refine SafeOps.quiet0 E_good (congrArg (fun b => some (!b)) hc640) rfl rfl (v := V.bool x_630) (.fn rfl) ?_
              refine SafeOps.quiet0 E_good (congrArg (fun b => some (!b)) hc640) rfl rfl (v := V.bool (!x_630)) (.fn rfl) ?_
              refine SafeOps.quiet0 E_good rfl rfl rfl (v := V.bool (!x_630)) (.pickK rfl hc640 rfl) ?_
              exact SafeOps.drop' 3 rfl rfl rfl K
            refine SafeOps.quiet0 E_good rfl rfl rfl (v := V.bool (((((x_627 != 0) || (x_631 != 0)) || (x_635 != 0)) || (!x_626)) || (!x_630))) (.fn rfl) ?_
            refine SafeOps.bjoin 3 147 (b := ((((((x_627 != 0) || (x_631 != 0)) || (x_635 != 0)) || (!x_626)) || (!x_630)) || (!x_634))) (b1 := true) (b0 := (!x_634)) (fun hc641 K => ?_) (fun hc641 K => ?_) bj_or ?_
            · skip
              refine SafeOps.skip (congrArg (fun b => some (!b)) hc641) rfl rfl ?_
              refine SafeOps.skip (congrArg (fun b => some (!b)) hc641) rfl rfl ?_
              refine SafeOps.quiet0 E_good rfl rfl rfl (v := V.bool true) (.pickK rfl hc641 rfl) ?_
              exact SafeOps.drop' 3 rfl rfl rfl K
            · skip
              refine SafeOps.quiet0 E_good (congrArg (fun b => some (!b)) hc641) rfl rfl (v := V.bool x_634) (.fn rfl) ?_
              refine SafeOps.quiet0 E_good (congrArg (fun b => some (!b)) hc641) rfl rfl (v := V.bool (!x_634)) (.fn rfl) ?_
              refine SafeOps.quiet0 E_good rfl rfl rfl (v := V.bool (!x_634)) (.pickK rfl hc641 rfl) ?_
              exact SafeOps.drop' 3 rfl rfl rfl K
            refine SafeOps.nil ?_
            repeat (first | refine Safe.seq ?_ | refine Safe.skip ?_ | with_reducible refine thenQ.n ?_ | with_reducible refine blockQ.n ?_)
            refine ifG h (fun hc642 h => ?_) (fun hc642 h => ?_)
            · skip
              refine Safe.condK rfl hc642 ?_
              repeat (first | refine Safe.seq ?_ | refine Safe.skip ?_ | with_reducible refine thenQ.n ?_ | with_reducible refine blockQ.n ?_)
              refine Safe.region ?_
              refine SafeOps.quiet0 E_good rfl rfl rfl (v := V.bool false) (.fn rfl) ?_
              refine SafeOps.nil ?_
              repeat (first | refine Safe.seq ?_ | refine Safe.skip ?_ | with_reducible refine thenQ.n ?_ | with_reducible refine blockQ.n ?_)
              refine Safe.ret ?_
              repeat (first | with_reducible refine thenQ.r ?_ | with_reducible refine blockQ.r ?_)
              obtain rfl := Option.some.inj h
              exact retQ.gen (vs := [V.bool false]) rfl (.tmp (v := V.bool false) rfl .nil) (.free rfl) (by simp) (.inr rfl)
            · skip
              refine Safe.condN rfl hc642 ?_
              repeat (first | refine Safe.skip ?_ | with_reducible refine thenQ.n ?_ | with_reducible refine blockQ.n ?_)
              exact Safe.got (HJ589 () h) (.cov ⟨rfl, rfl, (upT_cons (.refl _) (upT_cons (.refl _) upT_nil)), upOb_nil, upOut_nil, rfl⟩)
          · skip
            refine Safe.condN rfl hc623 ?_
            repeat (first | refine Safe.skip ?_ | with_reducible refine thenQ.n ?_ | with_reducible refine blockQ.n ?_)
            exact Safe.got (HJ589 () h) (.cov ⟨rfl, rfl, (upT_cons (.refl _) (upT_cons (.refl _) upT_nil)), upOb_nil, upOut_nil, rfl⟩)

theorem okT29 : (eqOk Try.prog E 20 29 && !Try.prog.eqGuardType Try.prog.depth 29) = true := by kernel_rfl

noncomputable def go_ravelref19_SameList_s1 (a0_676 : List api_Entry) (a1_677 : List api_Entry) : (Int) → Option ((Int) ⊕ (Bool))
  | v13_706 =>
    if (decide (v13_706 < (a0_676.length : Int))) = true then
      if 0 ≤ v13_706 ∧ v13_706 < (a0_676.length : Int) then
        if 0 ≤ v13_706 ∧ v13_706 < (a1_677.length : Int) then
          if (!(api_Entry.beq (gt a0_676 v13_706) (gt a1_677 v13_706))) = true then
            inrO (
              some false)
          else
            nextO (IntKind.i64.wrap (v13_706 + 1))
        else none
      else none
    else
      inrO (
        some true)

noncomputable def go_ravelref19_SameList (a0_676 : List api_Entry) (a1_677 : List api_Entry) : Option Bool :=
  if ((a0_676.length : Int) != (a1_677.length : Int)) = true then
    some false
  else
    whileO (go_ravelref19_SameList_s1 a0_676 a1_677) 0

theorem go_ravelref19_SameList_sc (a0_676 : List api_Entry) (a1_677 : List api_Entry) (r : Bool) (h : go_ravelref19_SameList a0_676 a1_677 = some r) : SC Try.prog gl 11 [V.sl 3 (rws api_Entry.cells a0_676), V.sl 3 (rws api_Entry.cells a1_677)] (V.bool r) := by
  rw [go_ravelref19_SameList] at h
  refine SC.of E_good Try.func11 rfl (fun _ _ => Try.call11 _ _) rfl ?_
  repeat (first | refine Safe.seq ?_ | refine Safe.skip ?_ | with_reducible refine thenQ.n ?_ | with_reducible refine blockQ.n ?_)
  refine Safe.region ?_
  refine SafeOps.quiet0 E_good rfl rfl rfl (v := V.bool false) (.fn rfl) ?_
  refine SafeOps.nil ?_
  repeat (first | refine Safe.seq ?_ | refine Safe.skip ?_ | with_reducible refine thenQ.n ?_ | with_reducible refine blockQ.n ?_)
  refine Safe.region ?_
  refine SafeOps.quiet0 E_good rfl rfl rfl (v := V.sl 3 (rws api_Entry.cells a0_676)) (.fn rfl) ?_
  refine SafeOps.quiet0 E_good rfl rfl rfl (v := V.int .i64 (a0_676.length : Int)) (.fnE rfl lenE) ?_
  refine SafeOps.quiet0 E_good rfl rfl rfl (v := V.sl 3 (rws api_Entry.cells a1_677)) (.fn rfl) ?_
  refine SafeOps.quiet0 E_good rfl rfl rfl (v := V.int .i64 (a1_677.length : Int)) (.fnE rfl lenE) ?_
  refine SafeOps.quiet0 E_good rfl rfl rfl (v := V.bool ((a0_676.length : Int) != (a1_677.length : Int))) (.fn rfl) ?_
  refine SafeOps.nil ?_
  repeat (first | refine Safe.seq ?_ | refine Safe.skip ?_ | with_reducible refine thenQ.n ?_ | with_reducible refine blockQ.n ?_)
  refine ifG h (fun hc696 h => ?_) (fun hc696 h => ?_)
  · skip
    refine Safe.condK rfl hc696 ?_
    repeat (first | refine Safe.seq ?_ | refine Safe.skip ?_ | with_reducible refine thenQ.n ?_ | with_reducible refine blockQ.n ?_)
    refine Safe.region ?_
    refine SafeOps.quiet0 E_good rfl rfl rfl (v := V.bool false) (.fn rfl) ?_
    refine SafeOps.nil ?_
    repeat (first | refine Safe.seq ?_ | refine Safe.skip ?_ | with_reducible refine thenQ.n ?_ | with_reducible refine blockQ.n ?_)
    refine Safe.ret ?_
    repeat (first | with_reducible refine thenQ.r ?_ | with_reducible refine blockQ.r ?_)
    obtain rfl := Option.some.inj h
    exact retQ.gen (vs := [V.bool false]) rfl (.tmp (v := V.bool false) rfl .nil) (.free rfl) (by simp) (.inr rfl)
  · skip
    refine Safe.condN rfl hc696 ?_
    repeat (first | refine Safe.seq ?_ | refine Safe.skip ?_ | with_reducible refine thenQ.n ?_ | with_reducible refine blockQ.n ?_)
    refine Safe.region ?_
    refine SafeOps.quiet0 E_good rfl rfl rfl (v := V.sl 3 (rws api_Entry.cells a0_676)) (.fn rfl) ?_
    refine SafeOps.quiet0 E_good rfl rfl rfl (v := V.int .i64 (a0_676.length : Int)) (.fnE rfl lenE) ?_
    refine SafeOps.quiet0 E_good rfl rfl rfl (v := V.int .i64 0) (.fn rfl) ?_
    refine SafeOps.nil ?_
    repeat (first | refine Safe.seq ?_ | refine Safe.skip ?_ | with_reducible refine thenQ.n ?_ | with_reducible refine blockQ.n ?_)
    refine Safe.block ?_
    repeat (first | refine Safe.seq ?_ | refine Safe.skip ?_ | with_reducible refine thenQ.n ?_ | with_reducible refine blockQ.n ?_)
    refine Safe.loopW (fun (v13_706 : Int) => ⟨Try.f11.ntmps, [(0, V.sl 3 (rws api_Entry.cells a0_676)), (1, V.sl 3 (rws api_Entry.cells a1_677)), (12, V.int .i64 (a0_676.length : Int)), (13, V.int .i64 v13_706)], [], [], []⟩) h (.cov ⟨rfl, rfl, (upT_cons (.refl _) (upT_cons (.refl _) (upT_cons (.refl _) (upT_cons (.refl _) upT_nil)))), upOb_nil, upOut_nil, rfl⟩) ?_
    intro v13_706 ohr707 h hr707
    replace h : go_ravelref19_SameList_s1 a0_676 a1_677 v13_706 = some ohr707 := h
    rw [go_ravelref19_SameList_s1] at h
    repeat (first | refine Safe.seq ?_ | refine Safe.skip ?_ | with_reducible refine thenQ.n ?_ | with_reducible refine blockQ.n ?_)
    refine Safe.region ?_
    refine SafeOps.quiet0 E_good rfl rfl rfl (v := V.bool (decide (v13_706 < (a0_676.length : Int)))) (.fn rfl) ?_
    refine SafeOps.nil ?_
    repeat (first | refine Safe.seq ?_ | refine Safe.skip ?_ | with_reducible refine thenQ.n ?_ | with_reducible refine blockQ.n ?_)
    refine ifG h (fun hc708 h => ?_) (fun hc708 h => ?_)
    · skip
      refine Safe.condK rfl hc708 ?_
      repeat (first | refine Safe.seq ?_ | refine Safe.skip ?_ | with_reducible refine thenQ.n ?_ | with_reducible refine blockQ.n ?_)
      refine Safe.block ?_
      repeat (first | refine Safe.seq ?_ | refine Safe.skip ?_ | with_reducible refine thenQ.n ?_ | with_reducible refine blockQ.n ?_)
      refine Safe.region ?_
      refine SafeOps.quiet0 E_good rfl rfl rfl (v := V.int .i64 v13_706) (.fn rfl) ?_
      refine SafeOps.quiet0 E_good rfl rfl rfl (v := V.int .i64 v13_706) (.fn rfl) ?_
      refine SafeOps.nil ?_
      repeat (first | refine Safe.seq ?_ | refine Safe.skip ?_ | with_reducible refine thenQ.n ?_ | with_reducible refine blockQ.n ?_)
      refine Safe.regionD (n := 9) [] [] E_good mixed rfl ?_
      refine DAny.take (i := 0) rfl (by kernel_rfl) [] (by kernel_rfl) (by kernel_rfl) (by kernel_rfl) rfl rfl rfl (v := V.sl 3 (rws api_Entry.cells a0_676)) (fun _ hz => (.fn rfl)) ?_
      refine DAny.take (i := 1) rfl (by kernel_rfl) [] (by kernel_rfl) (by kernel_rfl) (by kernel_rfl) rfl rfl rfl (v := V.int .i64 v13_706) (fun _ hz => (.fn rfl)) ?_
      refine okG h (fun hb709 h => ?_)
      refine DAny.take (i := 2) rfl (by kernel_rfl) [] (by kernel_rfl) (by kernel_rfl) (by kernel_rfl) rfl rfl rfl (v := V.spt 3 (rws api_Entry.cells a0_676) (Int.toNat v13_706) 0) (fun _ hz => (.idxSlM (f := api_Entry.cells) rfl rfl rfl rfl rfl hb709)) ?_
      refine DAny.take (i := 3) rfl (by kernel_rfl) [] (by kernel_rfl) (by kernel_rfl) (by kernel_rfl) rfl rfl rfl (v := V.agg [V.int .i64 ((gt a0_676 v13_706).Kind), V.int .i64 ((gt a0_676 v13_706).A), V.int .i64 ((gt a0_676 v13_706).B)]) (fun _ hz => (.load rfl rfl (.sptM (f := api_Entry.cells) hb709 rfl) rfl)) ?_
      refine DAny.take (i := 4) rfl (by kernel_rfl) [] (by kernel_rfl) (by kernel_rfl) (by kernel_rfl) rfl rfl rfl (v := V.sl 3 (rws api_Entry.cells a1_677)) (fun _ hz => (.fn rfl)) ?_
      refine DAny.take (i := 5) rfl (by kernel_rfl) [] (by kernel_rfl) (by kernel_rfl) (by kernel_rfl) rfl rfl rfl (v := V.int .i64 v13_706) (fun _ hz => (.fn rfl)) ?_
      refine okG h (fun hb710 h => ?_)
      refine DAny.take (i := 6) rfl (by kernel_rfl) [] (by kernel_rfl) (by kernel_rfl) (by kernel_rfl) rfl rfl rfl (v := V.spt 3 (rws api_Entry.cells a1_677) (Int.toNat v13_706) 0) (fun _ hz => (.idxSlM (f := api_Entry.cells) rfl rfl rfl rfl rfl hb710)) ?_
      refine DAny.take (i := 7) rfl (by kernel_rfl) [] (by kernel_rfl) (by kernel_rfl) (by kernel_rfl) rfl rfl rfl (v := V.agg [V.int .i64 ((gt a1_677 v13_706).Kind), V.int .i64 ((gt a1_677 v13_706).A), V.int .i64 ((gt a1_677 v13_706).B)]) (fun _ hz => (.load rfl rfl (.sptM (f := api_Entry.cells) hb710 rfl) rfl)) ?_
      refine DAny.take (i := 8) rfl (by kernel_rfl) [] (by kernel_rfl) (by kernel_rfl) (by kernel_rfl) rfl rfl rfl (v := V.bool (!(api_Entry.beq (gt a0_676 v13_706) (gt a1_677 v13_706)))) (fun _ hz => (.neA rfl rfl rfl rfl okT29 rfl)) ?_
      refine DAny.nil (by kernel_rfl) ?_
      repeat (first | refine Safe.seq ?_ | refine Safe.skip ?_ | with_reducible refine thenQ.n ?_ | with_reducible refine blockQ.n ?_)
      refine ifG h (fun hc711 h => ?_) (fun hc711 h => ?_)
      · skip
        refine Safe.condK rfl hc711 ?_
        repeat (first | refine Safe.seq ?_ | refine Safe.skip ?_ | with_reducible refine thenQ.n ?_ | with_reducible refine blockQ.n ?_)
        refine Safe.region ?_
        refine SafeOps.quiet0 E_good rfl rfl rfl (v := V.bool false) (.fn rfl) ?_
        refine SafeOps.nil ?_
        repeat (first | refine Safe.seq ?_ | refine Safe.skip ?_ | with_reducible refine thenQ.n ?_ | with_reducible refine blockQ.n ?_)
        refine Safe.ret ?_
        repeat (first | with_reducible refine thenQ.r ?_ | with_reducible refine blockQ.r ?_)
        replace h := inr_out h hr707
        obtain rfl := Option.some.inj h
        exact retQ.gen (vs := [V.bool false]) rfl (.tmp (v := V.bool false) rfl .nil) (.free rfl) (by simp) (.inr rfl)
      · skip
        refine Safe.condN rfl hc711 ?_
        repeat (first | refine Safe.seq ?_ | refine Safe.skip ?_ | with_reducible refine thenQ.n ?_ | with_reducible refine blockQ.n ?_)
        refine Safe.region ?_
        refine SafeOps.quiet0 E_good rfl rfl rfl (v := V.int .i64 (IntKind.i64.wrap (v13_706 + 1))) (.fn rfl) ?_
        refine SafeOps.quiet0 E_good rfl rfl rfl (v := V.int .i64 (IntKind.i64.wrap (v13_706 + 1))) (.fn rfl) ?_
        refine SafeOps.nil ?_
        repeat (first | refine Safe.seq ?_ | refine Safe.skip ?_ | with_reducible refine thenQ.n ?_ | with_reducible refine blockQ.n ?_)
        exact ⟨_, next_out h, (.cov ⟨rfl, rfl, (upT_cons (.refl _) (upT_cons (.refl _) (upT_cons (.refl _) (upT_cons (.refl _) upT_nil)))), upOb_nil, upOut_nil, rfl⟩)⟩
    · skip
      refine Safe.condN rfl hc708 ?_
      repeat (first | refine Safe.seq ?_ | refine Safe.skip ?_ | with_reducible refine thenQ.n ?_ | with_reducible refine blockQ.n ?_)
      refine Safe.exit ?_
      repeat (first | with_reducible refine thenQ.e ?_ | with_reducible refine blockQ.x rfl ?_ | with_reducible refine blockQ.y rfl ?_)
      replace h := inr_out h hr707
      repeat (first | refine Safe.seq ?_ | refine Safe.skip ?_ | with_reducible refine thenQ.n ?_ | with_reducible refine blockQ.n ?_)
      refine Safe.region ?_
      refine SafeOps.quiet0 E_good rfl rfl rfl (v := V.bool true) (.fn rfl) ?_
      refine SafeOps.nil ?_
      repeat (first | refine Safe.seq ?_ | refine Safe.skip ?_ | with_reducible refine thenQ.n ?_ | with_reducible refine blockQ.n ?_)
      refine Safe.ret ?_
      repeat (first | with_reducible refine thenQ.r ?_ | with_reducible refine blockQ.r ?_)
      obtain rfl := Option.some.inj h
      exact retQ.gen (vs := [V.bool true]) rfl (.tmp (v := V.bool true) rfl .nil) (.free rfl) (by simp) (.inr rfl)

noncomputable def go_ravellaw19_EntryOnly_s14 (v4_1061 : Int) (v5_1062 : Int) (x_1065 : List api_Entry) : (Int) → Option ((Int) ⊕ ((Int × Int) ⊕ (Bool)))
  | v25_1086 =>
    if (decide (v25_1086 < (x_1065.length : Int))) = true then
      if 0 ≤ v25_1086 ∧ v25_1086 < (x_1065.length : Int) then
        if (((gt x_1065 v25_1086).Kind) != v5_1062) = true then
          inrO (
            inrO (
              some false))
        else
          nextO (IntKind.i64.wrap (v25_1086 + 1))
      else none
    else
      inrO (
        (go_entry_Only x_1065 v5_1062).bind fun x_1091 =>
        (go_ravelref19_SameList x_1091 x_1065).bind fun x_1093 =>
        if (!x_1093) = true then
          inrO (
            some false)
        else
          nextO (IntKind.i64.wrap (v4_1061 + (x_1065.length : Int)), IntKind.i64.wrap (v5_1062 + 1)))

noncomputable def go_ravellaw19_EntryOnly_s12 (a0_643 : List api_Entry) (x_892 : Bool) : (Int × Int) → Option ((Int × Int) ⊕ (Bool))
  | (v4_1061, v5_1062) =>
    if (decide (v5_1062 ≤ 7)) = true then
      (go_entry_Only a0_643 v5_1062).bind fun x_1065 =>
      whileO (go_ravellaw19_EntryOnly_s14 v4_1061 v5_1062 x_1065) 0
    else
      inrO (
        if (x_892 && (decide (v4_1061 ≤ (a0_643.length : Int)))) = true then
          (go_entry_Check a0_643).bind fun x_1101 =>
          some ((x_1101 != 0) || (v4_1061 == (a0_643.length : Int)))
        else
          some false)

noncomputable def go_ravellaw19_EntryOnly (a0_643 : List api_Entry) : Option Bool :=
  (go_ravellaw19_live).bind fun x_892 =>
  if (!x_892) = true then
    some false
  else
    if (decide ((a0_643.length : Int) > 500)) = true then
      some x_892
    else
      whileO (go_ravellaw19_EntryOnly_s12 a0_643 x_892) (0, 0)

theorem go_ravellaw19_EntryOnly_sc (a0_643 : List api_Entry) (r : Bool) (h : go_ravellaw19_EntryOnly a0_643 = some r) : SC Try.prog gl 4 [V.sl 3 (rws api_Entry.cells a0_643)] (V.bool r) := by
  rw [go_ravellaw19_EntryOnly] at h
  refine SC.of E_good Try.func4 rfl (fun _ _ => Try.call4 _ _) rfl ?_
  repeat (first | refine Safe.seq ?_ | refine Safe.skip ?_ | with_reducible refine thenQ.n ?_ | with_reducible refine blockQ.n ?_)
  refine Safe.region ?_
  refine SafeOps.quiet0 E_good rfl rfl rfl (v := V.bool false) (.fn rfl) ?_
  refine SafeOps.nil ?_
  repeat (first | refine Safe.seq ?_ | refine Safe.skip ?_ | with_reducible refine thenQ.n ?_ | with_reducible refine blockQ.n ?_)
  refine Safe.region ?_
  refine bindG h ?_
  intro x_892 he893 h
  refine SafeOps.quiet0 E_good rfl rfl rfl (v := V.bool x_892) (.callP rfl rfl (go_ravellaw19_live_sc  _ he893) rfl) ?_
  refine SafeOps.quiet0 E_good rfl rfl rfl (v := V.bool x_892) (.fn rfl) ?_
  refine SafeOps.nil ?_
  repeat (first | refine Safe.seq ?_ | refine Safe.skip ?_ | with_reducible refine thenQ.n ?_ | with_reducible refine blockQ.n ?_)
  refine Safe.region ?_
  refine SafeOps.quiet0 E_good rfl rfl rfl (v := V.bool x_892) (.fn rfl) ?_
  refine SafeOps.quiet0 E_good rfl rfl rfl (v := V.bool (!x_892)) (.fn rfl) ?_
  refine SafeOps.nil ?_
  repeat (first | refine Safe.seq ?_ | refine Safe.skip ?_ | with_reducible refine thenQ.n ?_ | with_reducible refine blockQ.n ?_)
  refine ifG h (fun hc894 h => ?_) (fun hc894 h => ?_)
  · skip
    refine Safe.condK rfl hc894 ?_
    repeat (first | refine Safe.seq ?_ | refine Safe.skip ?_ | with_reducible refine thenQ.n ?_ | with_reducible refine blockQ.n ?_)
    refine Safe.region ?_
    refine SafeOps.quiet0 E_good rfl rfl rfl (v := V.bool false) (.fn rfl) ?_
    refine SafeOps.nil ?_
    repeat (first | refine Safe.seq ?_ | refine Safe.skip ?_ | with_reducible refine thenQ.n ?_ | with_reducible refine blockQ.n ?_)
    refine Safe.ret ?_
    repeat (first | with_reducible refine thenQ.r ?_ | with_reducible refine blockQ.r ?_)
    obtain rfl := Option.some.inj h
    exact retQ.gen (vs := [V.bool false]) rfl (.tmp (v := V.bool false) rfl .nil) (.free rfl) (by simp) (.inr rfl)
  · skip
    refine Safe.condN rfl hc894 ?_
    repeat (first | refine Safe.seq ?_ | refine Safe.skip ?_ | with_reducible refine thenQ.n ?_ | with_reducible refine blockQ.n ?_)
    refine Safe.region ?_
    refine SafeOps.quiet0 E_good rfl rfl rfl (v := V.sl 3 (rws api_Entry.cells a0_643)) (.fn rfl) ?_
    refine SafeOps.quiet0 E_good rfl rfl rfl (v := V.int .i64 (a0_643.length : Int)) (.fnE rfl lenE) ?_
    refine SafeOps.quiet0 E_good rfl rfl rfl (v := V.bool (decide ((a0_643.length : Int) > 500))) (.fn rfl) ?_
    refine SafeOps.nil ?_
    repeat (first | refine Safe.seq ?_ | refine Safe.skip ?_ | with_reducible refine thenQ.n ?_ | with_reducible refine blockQ.n ?_)
    refine ifG h (fun hc895 h => ?_) (fun hc895 h => ?_)
    · skip
      refine Safe.condK rfl hc895 ?_
      repeat (first | refine Safe.seq ?_ | refine Safe.skip ?_ | with_reducible refine thenQ.n ?_ | with_reducible refine blockQ.n ?_)
      refine Safe.region ?_
      refine SafeOps.quiet0 E_good rfl rfl rfl (v := V.bool x_892) (.fn rfl) ?_
      refine SafeOps.quiet0 E_good rfl rfl rfl (v := V.bool x_892) (.fn rfl) ?_
      refine SafeOps.nil ?_
      repeat (first | refine Safe.seq ?_ | refine Safe.skip ?_ | with_reducible refine thenQ.n ?_ | with_reducible refine blockQ.n ?_)
      refine Safe.ret ?_
      repeat (first | with_reducible refine thenQ.r ?_ | with_reducible refine blockQ.r ?_)
      obtain rfl := Option.some.inj h
      exact retQ.gen (vs := [V.bool x_892]) rfl (.tmp (v := V.bool x_892) rfl .nil) (.free rfl) (by simp) (.inr rfl)
    · skip
      refine Safe.condN rfl hc895 ?_
      repeat (first | refine Safe.seq ?_ | refine Safe.skip ?_ | with_reducible refine thenQ.n ?_ | with_reducible refine blockQ.n ?_)
      refine Safe.region ?_
      refine SafeOps.quiet0 E_good rfl rfl rfl (v := V.int .i64 0) (.fn rfl) ?_
      refine SafeOps.nil ?_
      repeat (first | refine Safe.seq ?_ | refine Safe.skip ?_ | with_reducible refine thenQ.n ?_ | with_reducible refine blockQ.n ?_)
      refine Safe.region ?_
      refine SafeOps.quiet0 E_good rfl rfl rfl (v := V.int .i64 0) (.fn rfl) ?_
      refine SafeOps.nil ?_
      repeat (first | refine Safe.seq ?_ | refine Safe.skip ?_ | with_reducible refine thenQ.n ?_ | with_reducible refine blockQ.n ?_)
      refine Safe.block ?_
      repeat (first | refine Safe.seq ?_ | refine Safe.skip ?_ | with_reducible refine thenQ.n ?_ | with_reducible refine blockQ.n ?_)
      refine Safe.loopW (fun ((v4_1061, v5_1062) : Int × Int) => ⟨Try.f4.ntmps, [(0, V.sl 3 (rws api_Entry.cells a0_643)), (3, V.bool x_892), (4, V.int .i64 v4_1061), (5, V.int .i64 v5_1062)], [], [], []⟩) h (.cov ⟨rfl, rfl, (upT_cons (.refl _) (upT_cons (.refl _) (upT_cons (.refl _) (upT_cons (.refl _) upT_nil)))), upOb_nil, upOut_nil, rfl⟩) ?_
      rintro ⟨v4_1061, v5_1062⟩ ohr1063 h hr1063
      replace h : go_ravellaw19_EntryOnly_s12 a0_643 x_892 (v4_1061, v5_1062) = some ohr1063 := h
      rw [go_ravellaw19_EntryOnly_s12] at h
      repeat (first | refine Safe.seq ?_ | refine Safe.skip ?_ | with_reducible refine thenQ.n ?_ | with_reducible refine blockQ.n ?_)
      refine Safe.region ?_
      refine SafeOps.quiet0 E_good rfl rfl rfl (v := V.int .i64 v5_1062) (.fn rfl) ?_
      refine SafeOps.quiet0 E_good rfl rfl rfl (v := V.bool (decide (v5_1062 ≤ 7))) (.fn rfl) ?_
      refine SafeOps.nil ?_
      repeat (first | refine Safe.seq ?_ | refine Safe.skip ?_ | with_reducible refine thenQ.n ?_ | with_reducible refine blockQ.n ?_)
      refine ifG h (fun hc1064 h => ?_) (fun hc1064 h => ?_)
      · skip
        refine Safe.condK rfl hc1064 ?_
        repeat (first | refine Safe.seq ?_ | refine Safe.skip ?_ | with_reducible refine thenQ.n ?_ | with_reducible refine blockQ.n ?_)
        refine Safe.block ?_
        repeat (first | refine Safe.seq ?_ | refine Safe.skip ?_ | with_reducible refine thenQ.n ?_ | with_reducible refine blockQ.n ?_)
        refine Safe.region ?_
        refine SafeOps.quiet0 E_good rfl rfl rfl (v := V.sl 3 (rws api_Entry.cells a0_643)) (.fn rfl) ?_
        refine SafeOps.quiet0 E_good rfl rfl rfl (v := V.int .i64 v5_1062) (.fn rfl) ?_
        refine bindG h ?_
        intro x_1065 he1066 h
        refine SafeOps.quiet E_good rfl rfl rfl (v := V.ref [22, 0] 0 (rws api_Entry.cells x_1065).length) (.callP rfl rfl (go_entry_Only_sc a0_643 v5_1062 _ he1066) rfl) rfl ?_
        refine SafeOps.quiet0 E_good rfl rfl rfl (v := V.ref [22, 0] 0 (rws api_Entry.cells x_1065).length) (.fn rfl) ?_
        refine SafeOps.nil ?_
        repeat (first | refine Safe.seq ?_ | refine Safe.skip ?_ | with_reducible refine thenQ.n ?_ | with_reducible refine blockQ.n ?_)
        refine Safe.region ?_
        refine SafeOps.quiet0 E_good rfl rfl rfl (v := V.ref [22, 0] 0 (rws api_Entry.cells x_1065).length) (.fn rfl) ?_
        refine SafeOps.quiet0 E_good rfl rfl rfl (v := V.int .i64 (x_1065.length : Int)) (.fnE rfl lenE) ?_
        refine SafeOps.quiet0 E_good rfl rfl rfl (v := V.int .i64 0) (.fn rfl) ?_
        refine SafeOps.nil ?_
        repeat (first | refine Safe.seq ?_ | refine Safe.skip ?_ | with_reducible refine thenQ.n ?_ | with_reducible refine blockQ.n ?_)
        refine Safe.block ?_
        repeat (first | refine Safe.seq ?_ | refine Safe.skip ?_ | with_reducible refine thenQ.n ?_ | with_reducible refine blockQ.n ?_)
        refine Safe.loopW (fun (v25_1086 : Int) => ⟨Try.f4.ntmps, [(0, V.sl 3 (rws api_Entry.cells a0_643)), (3, V.bool x_892), (4, V.int .i64 v4_1061), (5, V.int .i64 v5_1062), (6, V.ref [22, 0] 0 (rws api_Entry.cells x_1065).length), (23, V.ref [22, 0] 0 (rws api_Entry.cells x_1065).length), (24, V.int .i64 (x_1065.length : Int)), (25, V.int .i64 v25_1086)], [([22, 0], Obj.rows 3 (rws api_Entry.cells x_1065) false)], [], []⟩) h (.cov ⟨rfl, rfl, (upT_cons (.refl _) (upT_cons (.refl _) (upT_cons (.refl _) (upT_cons (.refl _) (upT_cons (.refl _) (upT_cons (.refl _) (upT_cons (.refl _) (upT_cons (.refl _) upT_nil)))))))), (upOb_cons rfl (.refl _) upOb_nil), upOut_nil, rfl⟩) ?_
        intro v25_1086 ohr1087 h hr1087
        replace h : go_ravellaw19_EntryOnly_s14 v4_1061 v5_1062 x_1065 v25_1086 = some ohr1087 := h
        rw [go_ravellaw19_EntryOnly_s14] at h
        repeat (first | refine Safe.seq ?_ | refine Safe.skip ?_ | with_reducible refine thenQ.n ?_ | with_reducible refine blockQ.n ?_)
        refine Safe.region ?_
        refine SafeOps.quiet0 E_good rfl rfl rfl (v := V.bool (decide (v25_1086 < (x_1065.length : Int)))) (.fn rfl) ?_
        refine SafeOps.nil ?_
        repeat (first | refine Safe.seq ?_ | refine Safe.skip ?_ | with_reducible refine thenQ.n ?_ | with_reducible refine blockQ.n ?_)
        refine ifG h (fun hc1088 h => ?_) (fun hc1088 h => ?_)
        · skip
          refine Safe.condK rfl hc1088 ?_
          repeat (first | refine Safe.seq ?_ | refine Safe.skip ?_ | with_reducible refine thenQ.n ?_ | with_reducible refine blockQ.n ?_)
          refine Safe.block ?_
          repeat (first | refine Safe.seq ?_ | refine Safe.skip ?_ | with_reducible refine thenQ.n ?_ | with_reducible refine blockQ.n ?_)
          refine Safe.region ?_
          refine okG h (fun hb1089 h => ?_)
          refine SafeOps.quiet0 E_good rfl rfl rfl (v := V.ptr [22, 0] (0 + Int.toNat v25_1086) 0) (.idxRefM (f := api_Entry.cells) (xs := x_1065) rfl rfl rfl rfl rfl rfl hb1089) ?_
          refine SafeOps.quiet0 E_good rfl rfl rfl (v := V.agg [V.int .i64 ((gt x_1065 v25_1086).Kind), V.int .i64 ((gt x_1065 v25_1086).A), V.int .i64 ((gt x_1065 v25_1086).B)]) (.load rfl rfl (.rowsM (f := api_Entry.cells) (xs := x_1065) hb1089 rfl rfl) rfl) ?_
          refine SafeOps.quiet1 E_good rfl rfl rfl (.alloc rfl rfl) rfl ?_
          refine SafeOps.store (z := Obj.box [V.int .i64 ((gt x_1065 v25_1086).Kind), V.int .i64 ((gt x_1065 v25_1086).A), V.int .i64 ((gt x_1065 v25_1086).B)]) E_good rfl rfl rfl rfl rfl rfl rfl (.boxM (c := 3) rfl rfl (Nat.le_of_ble_eq_true rfl) rfl) ?_
          refine SafeOps.nil ?_
          repeat (first | refine Safe.seq ?_ | refine Safe.skip ?_ | with_reducible refine thenQ.n ?_ | with_reducible refine blockQ.n ?_)
          refine Safe.region ?_
          refine SafeOps.quiet0 E_good rfl rfl rfl (v := V.ptr [8] 0 0) (.fn rfl) ?_
          refine SafeOps.quiet0 E_good rfl rfl rfl (v := V.int .i64 ((gt x_1065 v25_1086).Kind)) (.load rfl rfl (.box rfl rfl) rfl) ?_
          refine SafeOps.quiet0 E_good rfl rfl rfl (v := V.int .i64 v5_1062) (.fn rfl) ?_
          refine SafeOps.quiet0 E_good rfl rfl rfl (v := V.bool (((gt x_1065 v25_1086).Kind) != v5_1062)) (.fn rfl) ?_
          refine SafeOps.nil ?_
          repeat (first | refine Safe.seq ?_ | refine Safe.skip ?_ | with_reducible refine thenQ.n ?_ | with_reducible refine blockQ.n ?_)
          refine ifG h (fun hc1090 h => ?_) (fun hc1090 h => ?_)
          · skip
            refine Safe.condK rfl hc1090 ?_
            repeat (first | refine Safe.seq ?_ | refine Safe.skip ?_ | with_reducible refine thenQ.n ?_ | with_reducible refine blockQ.n ?_)
            refine Safe.region ?_
            refine SafeOps.quiet0 E_good rfl rfl rfl (v := V.bool false) (.fn rfl) ?_
            refine SafeOps.nil ?_
            repeat (first | refine Safe.seq ?_ | refine Safe.skip ?_ | with_reducible refine thenQ.n ?_ | with_reducible refine blockQ.n ?_)
            refine Safe.ret ?_
            repeat (first | with_reducible refine thenQ.r ?_ | with_reducible refine blockQ.r ?_)
            replace h := inr_out h hr1087
            replace h := inr_out h hr1063
            obtain rfl := Option.some.inj h
            exact retQ.gen (vs := [V.bool false]) rfl (.tmp (v := V.bool false) rfl .nil) (.free rfl) (by simp) (.inr rfl)
          · skip
            refine Safe.condN rfl hc1090 ?_
            repeat (first | refine Safe.seq ?_ | refine Safe.skip ?_ | with_reducible refine thenQ.n ?_ | with_reducible refine blockQ.n ?_)
            refine Safe.region ?_
            refine SafeOps.quiet0 E_good rfl rfl rfl (v := V.int .i64 (IntKind.i64.wrap (v25_1086 + 1))) (.fn rfl) ?_
            refine SafeOps.quiet0 E_good rfl rfl rfl (v := V.int .i64 (IntKind.i64.wrap (v25_1086 + 1))) (.fn rfl) ?_
            refine SafeOps.nil ?_
            repeat (first | refine Safe.seq ?_ | refine Safe.skip ?_ | with_reducible refine thenQ.n ?_ | with_reducible refine blockQ.n ?_)
            exact ⟨_, next_out h, (.cov ⟨rfl, rfl, (upT_cons (.refl _) (upT_cons (.refl _) (upT_cons (.refl _) (upT_cons (.refl _) (upT_cons (.refl _) (upT_cons (.refl _) (upT_cons (.refl _) (upT_cons (.refl _) upT_nil)))))))), (upOb_cons rfl (.refl _) upOb_nil), upOut_nil, rfl⟩)⟩
        · skip
          refine Safe.condN rfl hc1088 ?_
          repeat (first | refine Safe.seq ?_ | refine Safe.skip ?_ | with_reducible refine thenQ.n ?_ | with_reducible refine blockQ.n ?_)
          refine Safe.exit ?_
          repeat (first | with_reducible refine thenQ.e ?_ | with_reducible refine blockQ.x rfl ?_ | with_reducible refine blockQ.y rfl ?_)
          replace h := inr_out h hr1087
          repeat (first | refine Safe.seq ?_ | refine Safe.skip ?_ | with_reducible refine thenQ.n ?_ | with_reducible refine blockQ.n ?_)
          refine Safe.region ?_
          refine SafeOps.quiet0 E_good rfl rfl rfl (v := V.ref [22, 0] 0 (rws api_Entry.cells x_1065).length) (.fn rfl) ?_
          refine SafeOps.quiet0 E_good rfl rfl rfl (v := V.int .i64 v5_1062) (.fn rfl) ?_
          refine bindG h ?_
          intro x_1091 he1092 h
          refine SafeOps.quiet E_good rfl rfl rfl (v := V.ref [36, 0] 0 (rws api_Entry.cells x_1091).length) (.callS rfl (.cons (.full rfl rfl) (.cons (.free rfl) .nil)) (go_entry_Only_sc x_1065 v5_1062 _ he1092) (.ownM (fun _ => rfl)) rfl) rfl ?_
          refine SafeOps.quiet0 E_good rfl rfl rfl (v := V.ref [22, 0] 0 (rws api_Entry.cells x_1065).length) (.fn rfl) ?_
          refine bindG h ?_
          intro x_1093 he1094 h
          refine SafeOps.quiet0 E_good rfl rfl rfl (v := V.bool x_1093) (.callS rfl (.cons (.full rfl rfl) (.cons (.full rfl rfl) .nil)) (go_ravelref19_SameList_sc x_1091 x_1065 _ he1094) (.plain rfl) rfl) ?_
          refine SafeOps.quiet0 E_good rfl rfl rfl (v := V.bool (!x_1093)) (.fn rfl) ?_
          refine SafeOps.nil ?_
          repeat (first | refine Safe.seq ?_ | refine Safe.skip ?_ | with_reducible refine thenQ.n ?_ | with_reducible refine blockQ.n ?_)
          refine ifG h (fun hc1095 h => ?_) (fun hc1095 h => ?_)
          · skip
            refine Safe.condK rfl hc1095 ?_
            repeat (first | refine Safe.seq ?_ | refine Safe.skip ?_ | with_reducible refine thenQ.n ?_ | with_reducible refine blockQ.n ?_)
            refine Safe.region ?_
            refine SafeOps.quiet0 E_good rfl rfl rfl (v := V.bool false) (.fn rfl) ?_
            refine SafeOps.nil ?_
            repeat (first | refine Safe.seq ?_ | refine Safe.skip ?_ | with_reducible refine thenQ.n ?_ | with_reducible refine blockQ.n ?_)
            refine Safe.ret ?_
            repeat (first | with_reducible refine thenQ.r ?_ | with_reducible refine blockQ.r ?_)
            replace h := inr_out h hr1063
            obtain rfl := Option.some.inj h
            exact retQ.gen (vs := [V.bool false]) rfl (.tmp (v := V.bool false) rfl .nil) (.free rfl) (by simp) (.inr rfl)
          · skip
            refine Safe.condN rfl hc1095 ?_
            repeat (first | refine Safe.seq ?_ | refine Safe.skip ?_ | with_reducible refine thenQ.n ?_ | with_reducible refine blockQ.n ?_)
            refine Safe.region ?_
            refine SafeOps.quiet0 E_good rfl rfl rfl (v := V.int .i64 v4_1061) (.fn rfl) ?_
            refine SafeOps.quiet0 E_good rfl rfl rfl (v := V.ref [22, 0] 0 (rws api_Entry.cells x_1065).length) (.fn rfl) ?_
            refine SafeOps.quiet0 E_good rfl rfl rfl (v := V.int .i64 (x_1065.length : Int)) (.fnE rfl lenE) ?_
            refine SafeOps.quiet0 E_good rfl rfl rfl (v := V.int .i64 (IntKind.i64.wrap (v4_1061 + (x_1065.length : Int)))) (.fn rfl) ?_
            refine SafeOps.quiet0 E_good rfl rfl rfl (v := V.int .i64 (IntKind.i64.wrap (v4_1061 + (x_1065.length : Int)))) (.fn rfl) ?_
            refine SafeOps.nil ?_
            repeat (first | refine Safe.seq ?_ | refine Safe.skip ?_ | with_reducible refine thenQ.n ?_ | with_reducible refine blockQ.n ?_)
            refine Safe.region ?_
            refine SafeOps.quiet0 E_good rfl rfl rfl (v := V.int .i64 v5_1062) (.fn rfl) ?_
            refine SafeOps.quiet0 E_good rfl rfl rfl (v := V.int .i64 (IntKind.i64.wrap (v5_1062 + 1))) (.fn rfl) ?_
            refine SafeOps.quiet0 E_good rfl rfl rfl (v := V.int .i64 (IntKind.i64.wrap (v5_1062 + 1))) (.fn rfl) ?_
            refine SafeOps.nil ?_
            repeat (first | refine Safe.seq ?_ | refine Safe.skip ?_ | with_reducible refine thenQ.n ?_ | with_reducible refine blockQ.n ?_)
            exact ⟨_, next_out h, (.cov ⟨rfl, rfl, (upT_cons (.refl _) (upT_cons (.refl _) (upT_cons (.refl _) (upT_cons (.refl _) upT_nil)))), upOb_nil, upOut_nil, rfl⟩)⟩
      · skip
        refine Safe.condN rfl hc1064 ?_
        repeat (first | refine Safe.seq ?_ | refine Safe.skip ?_ | with_reducible refine thenQ.n ?_ | with_reducible refine blockQ.n ?_)
        refine Safe.exit ?_
        repeat (first | with_reducible refine thenQ.e ?_ | with_reducible refine blockQ.x rfl ?_ | with_reducible refine blockQ.y rfl ?_)
        replace h := inr_out h hr1063
        repeat (first | refine Safe.seq ?_ | refine Safe.skip ?_ | with_reducible refine thenQ.n ?_ | with_reducible refine blockQ.n ?_)
        refine Safe.region ?_
        refine SafeOps.quiet0 E_good rfl rfl rfl (v := V.bool x_892) (.fn rfl) ?_
        refine SafeOps.quiet0 E_good rfl rfl rfl (v := V.bool x_892) (.fn rfl) ?_
        refine SafeOps.bjoin 5 50 (b := (x_892 && (decide (v4_1061 ≤ (a0_643.length : Int))))) (b1 := decide (v4_1061 ≤ (a0_643.length : Int))) (b0 := false) (fun hc1096 K => ?_) (fun hc1096 K => ?_) bj_and ?_
        · skip
          refine SafeOps.quiet0 E_good (congrArg some hc1096) rfl rfl (v := V.int .i64 v4_1061) (.fn rfl) ?_
          refine SafeOps.quiet0 E_good (congrArg some hc1096) rfl rfl (v := V.sl 3 (rws api_Entry.cells a0_643)) (.fn rfl) ?_
          refine SafeOps.quiet0 E_good (congrArg some hc1096) rfl rfl (v := V.int .i64 (a0_643.length : Int)) (.fnE rfl lenE) ?_
          refine SafeOps.quiet0 E_good (congrArg some hc1096) rfl rfl (v := V.bool (decide (v4_1061 ≤ (a0_643.length : Int)))) (.fn rfl) ?_
          refine SafeOps.quiet0 E_good rfl rfl rfl (v := V.bool (decide (v4_1061 ≤ (a0_643.length : Int)))) (.pickK rfl hc1096 rfl) ?_
          exact SafeOps.drop' 5 rfl rfl rfl K
        · skip
          refine SafeOps.skip (congrArg some hc1096) rfl rfl ?_
          refine SafeOps.skip (congrArg some hc1096) rfl rfl ?_
          refine SafeOps.skip (congrArg some hc1096) rfl rfl ?_
          refine SafeOps.skip (congrArg some hc1096) rfl rfl ?_
          refine SafeOps.quiet0 E_good rfl rfl rfl (v := V.bool false) (.pickK rfl hc1096 rfl) ?_
          exact SafeOps.drop' 5 rfl rfl rfl K
        refine SafeOps.quiet0 E_good rfl rfl rfl (v := V.bool (x_892 && (decide (v4_1061 ≤ (a0_643.length : Int))))) (.fn rfl) ?_
        refine ifG h (fun hc1097 h => ?_) (fun hc1097 h => ?_)
        · skip
          refine SafeOps.quiet0 E_good (congrArg some hc1097) rfl rfl (v := V.sl 3 (rws api_Entry.cells a0_643)) (.fn rfl) ?_
          refine bindG h ?_
          intro x_1101 he1102 h
          refine SafeOps.quiet0 E_good (congrArg some hc1097) rfl rfl (v := V.int .i64 x_1101) (.callP rfl rfl (go_entry_Check_sc a0_643 _ he1102) rfl) ?_
          refine SafeOps.quiet0 E_good (congrArg some hc1097) rfl rfl (v := V.bool (x_1101 != 0)) (.fn rfl) ?_
          refine SafeOps.quiet0 E_good (congrArg some hc1097) rfl rfl (v := V.bool (x_1101 != 0)) (.fn rfl) ?_
          refine SafeOps.bjoin 5 60 (b := ((x_1101 != 0) || (v4_1061 == (a0_643.length : Int)))) (b1 := true) (b0 := (v4_1061 == (a0_643.length : Int))) (fun hc1103 K => ?_) (fun hc1103 K => ?_) bj_or ?_
          · skip
            refine SafeOps.skip (congrArg (fun b => some (!b)) hc1103) rfl rfl ?_
            refine SafeOps.skip (congrArg (fun b => some (!b)) hc1103) rfl rfl ?_
            refine SafeOps.skip (congrArg (fun b => some (!b)) hc1103) rfl rfl ?_
            refine SafeOps.skip (congrArg (fun b => some (!b)) hc1103) rfl rfl ?_
            refine SafeOps.quiet0 E_good (congrArg some hc1097) rfl rfl (v := V.bool true) (.pickK rfl hc1103 rfl) ?_
            exact SafeOps.drop' 5 rfl rfl rfl K
          · skip
            refine SafeOps.quiet0 E_good (congrArg (fun b => some (!b)) hc1103) rfl rfl (v := V.int .i64 v4_1061) (.fn rfl) ?_
            refine SafeOps.quiet0 E_good (congrArg (fun b => some (!b)) hc1103) rfl rfl (v := V.sl 3 (rws api_Entry.cells a0_643)) (.fn rfl) ?_
            refine SafeOps.quiet0 E_good (congrArg (fun b => some (!b)) hc1103) rfl rfl (v := V.int .i64 (a0_643.length : Int)) (.fnE rfl lenE) ?_
            refine SafeOps.quiet0 E_good (congrArg (fun b => some (!b)) hc1103) rfl rfl (v := V.bool (v4_1061 == (a0_643.length : Int))) (.fn rfl) ?_
            refine SafeOps.quiet0 E_good (congrArg some hc1097) rfl rfl (v := V.bool (v4_1061 == (a0_643.length : Int))) (.pickK rfl hc1103 rfl) ?_
            exact SafeOps.drop' 5 rfl rfl rfl K
          refine SafeOps.quiet0 E_good rfl rfl rfl (v := V.bool ((x_1101 != 0) || (v4_1061 == (a0_643.length : Int)))) (.pickK rfl hc1097 rfl) ?_
          refine SafeOps.quiet0 E_good rfl rfl rfl (v := V.bool ((x_1101 != 0) || (v4_1061 == (a0_643.length : Int)))) (.fn rfl) ?_
          refine SafeOps.nil ?_
          repeat (first | refine Safe.seq ?_ | refine Safe.skip ?_ | with_reducible refine thenQ.n ?_ | with_reducible refine blockQ.n ?_)
          refine Safe.ret ?_
          repeat (first | with_reducible refine thenQ.r ?_ | with_reducible refine blockQ.r ?_)
          obtain rfl := Option.some.inj h
          exact retQ.gen (vs := [V.bool ((x_1101 != 0) || (v4_1061 == (a0_643.length : Int)))]) rfl (.tmp (v := V.bool ((x_1101 != 0) || (v4_1061 == (a0_643.length : Int)))) rfl .nil) (.free rfl) (by simp) (.inr rfl)
        · skip
          refine SafeOps.skip (congrArg some hc1097) rfl rfl ?_
          refine SafeOps.skip (congrArg some hc1097) rfl rfl ?_
          refine SafeOps.skip (congrArg some hc1097) rfl rfl ?_
          refine SafeOps.skip (congrArg some hc1097) rfl rfl ?_
          refine SafeOps.skip rfl rfl rfl ?_
          refine SafeOps.skip rfl rfl rfl ?_
          refine SafeOps.skip rfl rfl rfl ?_
          refine SafeOps.skip rfl rfl rfl ?_
          refine SafeOps.skip (congrArg some hc1097) rfl rfl ?_
          refine SafeOps.quiet0 E_good rfl rfl rfl (v := V.bool false) (.pickK rfl hc1097 rfl) ?_
          refine SafeOps.quiet0 E_good rfl rfl rfl (v := V.bool false) (.fn rfl) ?_
          refine SafeOps.nil ?_
          repeat (first | refine Safe.seq ?_ | refine Safe.skip ?_ | with_reducible refine thenQ.n ?_ | with_reducible refine blockQ.n ?_)
          refine Safe.ret ?_
          repeat (first | with_reducible refine thenQ.r ?_ | with_reducible refine blockQ.r ?_)
          obtain rfl := Option.some.inj h
          exact retQ.gen (vs := [V.bool false]) rfl (.tmp (v := V.bool false) rfl .nil) (.free rfl) (by simp) (.inr rfl)

@[ext] structure api_Instr where
  Op : Int
  A : Int
  B : Int
  deriving Inhabited
def api_Instr.cells (x : api_Instr) : List V := [V.int .i64 x.Op, V.int .i64 x.A, V.int .i64 x.B]
def api_Instr.zero : api_Instr := ⟨0, 0, 0⟩
def api_Instr.beq (x y : api_Instr) : Bool := ((x.Op == y.Op) && ((x.A == y.A) && ((x.B == y.B) && true)))

@[ext] structure api_Config where
  Workers : Int
  Cap : Int
  Budget : Int
  Weights : List Int
  Quotas : List Int
  Progs : List (List api_Instr)
  Tasks : Int
  Fds : Int
  Sems : List Int
  deriving Inhabited
def api_Config.cells (x : api_Config) : List V := [V.int .i64 x.Workers, V.int .i64 x.Cap, V.int .i64 x.Budget, V.sl 1 (rws (fun n => [V.int .i64 n]) x.Weights), V.sl 1 (rws (fun n => [V.int .i64 n]) x.Quotas), V.sl 1 (rws (fun l => [V.sl 3 (rws api_Instr.cells l)]) x.Progs), V.int .i64 x.Tasks, V.int .i64 x.Fds, V.sl 1 (rws (fun n => [V.int .i64 n]) x.Sems)]
def api_Config.zero : api_Config := ⟨0, 0, 0, [], [], [], 0, 0, []⟩

noncomputable def go_ravelref04_Few_s1 (a0_1109 : List (List api_Instr)) : (Int) → Option ((Int) ⊕ (Bool))
  | v7_1130 =>
    if (decide (v7_1130 < (a0_1109.length : Int))) = true then
      if 0 ≤ v7_1130 ∧ v7_1130 < (a0_1109.length : Int) then
        if (decide (((gt a0_1109 v7_1130).length : Int) > 100)) = true then
          inrO (
            some false)
        else
          nextO (IntKind.i64.wrap (v7_1130 + 1))
      else none
    else
      inrO (
        some (decide ((a0_1109.length : Int) ≤ 100)))

noncomputable def go_ravelref04_Few (a0_1109 : List (List api_Instr)) : Option Bool :=
  whileO (go_ravelref04_Few_s1 a0_1109) 0

theorem go_ravelref04_Few_sc (a0_1109 : List (List api_Instr)) (r : Bool) (h : go_ravelref04_Few a0_1109 = some r) : SC Try.prog gl 32 [V.sl 1 (rws (fun l => [V.sl 3 (rws api_Instr.cells l)]) a0_1109)] (V.bool r) := by
  rw [go_ravelref04_Few] at h
  refine SC.of E_good Try.func32 rfl (fun _ _ => Try.call32 _ _) rfl ?_
  repeat (first | refine Safe.seq ?_ | refine Safe.skip ?_ | with_reducible refine thenQ.n ?_ | with_reducible refine blockQ.n ?_)
  refine Safe.region ?_
  refine SafeOps.quiet0 E_good rfl rfl rfl (v := V.bool false) (.fn rfl) ?_
  refine SafeOps.nil ?_
  repeat (first | refine Safe.seq ?_ | refine Safe.skip ?_ | with_reducible refine thenQ.n ?_ | with_reducible refine blockQ.n ?_)
  refine Safe.region ?_
  refine SafeOps.quiet0 E_good rfl rfl rfl (v := V.sl 1 (rws (fun l => [V.sl 3 (rws api_Instr.cells l)]) a0_1109)) (.fn rfl) ?_
  refine SafeOps.quiet0 E_good rfl rfl rfl (v := V.int .i64 (a0_1109.length : Int)) (.fnE rfl lenE) ?_
  refine SafeOps.quiet0 E_good rfl rfl rfl (v := V.int .i64 0) (.fn rfl) ?_
  refine SafeOps.nil ?_
  repeat (first | refine Safe.seq ?_ | refine Safe.skip ?_ | with_reducible refine thenQ.n ?_ | with_reducible refine blockQ.n ?_)
  refine Safe.block ?_
  repeat (first | refine Safe.seq ?_ | refine Safe.skip ?_ | with_reducible refine thenQ.n ?_ | with_reducible refine blockQ.n ?_)
  refine Safe.loopW (fun (v7_1130 : Int) => ⟨Try.f32.ntmps, [(0, V.sl 1 (rws (fun l => [V.sl 3 (rws api_Instr.cells l)]) a0_1109)), (5, V.sl 1 (rws (fun l => [V.sl 3 (rws api_Instr.cells l)]) a0_1109)), (6, V.int .i64 (a0_1109.length : Int)), (7, V.int .i64 v7_1130)], [], [], []⟩) h (.cov ⟨rfl, rfl, (upT_cons (.refl _) (upT_cons (.refl _) (upT_cons (.refl _) (upT_cons (.refl _) upT_nil)))), upOb_nil, upOut_nil, rfl⟩) ?_
  intro v7_1130 ohr1131 h hr1131
  replace h : go_ravelref04_Few_s1 a0_1109 v7_1130 = some ohr1131 := h
  rw [go_ravelref04_Few_s1] at h
  repeat (first | refine Safe.seq ?_ | refine Safe.skip ?_ | with_reducible refine thenQ.n ?_ | with_reducible refine blockQ.n ?_)
  refine Safe.region ?_
  refine SafeOps.quiet0 E_good rfl rfl rfl (v := V.bool (decide (v7_1130 < (a0_1109.length : Int)))) (.fn rfl) ?_
  refine SafeOps.nil ?_
  repeat (first | refine Safe.seq ?_ | refine Safe.skip ?_ | with_reducible refine thenQ.n ?_ | with_reducible refine blockQ.n ?_)
  refine ifG h (fun hc1132 h => ?_) (fun hc1132 h => ?_)
  · skip
    refine Safe.condK rfl hc1132 ?_
    repeat (first | refine Safe.seq ?_ | refine Safe.skip ?_ | with_reducible refine thenQ.n ?_ | with_reducible refine blockQ.n ?_)
    refine Safe.block ?_
    repeat (first | refine Safe.seq ?_ | refine Safe.skip ?_ | with_reducible refine thenQ.n ?_ | with_reducible refine blockQ.n ?_)
    refine Safe.region ?_
    refine okG h (fun hb1133 h => ?_)
    refine SafeOps.quiet0 E_good rfl rfl rfl (v := V.spt 1 (rws (fun l => [V.sl 3 (rws api_Instr.cells l)]) a0_1109) (Int.toNat v7_1130) 0) (.idxSlM (f := (fun l => [V.sl 3 (rws api_Instr.cells l)])) rfl rfl rfl rfl rfl hb1133) ?_
    refine SafeOps.quiet0 E_good rfl rfl rfl (v := V.sl 3 (rws api_Instr.cells (gt a0_1109 v7_1130))) (.load rfl rfl (.sptM (f := (fun l => [V.sl 3 (rws api_Instr.cells l)])) hb1133 rfl) rfl) ?_
    refine SafeOps.quiet0 E_good rfl rfl rfl (v := V.sl 3 (rws api_Instr.cells (gt a0_1109 v7_1130))) (.fn rfl) ?_
    refine SafeOps.nil ?_
    repeat (first | refine Safe.seq ?_ | refine Safe.skip ?_ | with_reducible refine thenQ.n ?_ | with_reducible refine blockQ.n ?_)
    refine Safe.region ?_
    refine SafeOps.quiet0 E_good rfl rfl rfl (v := V.sl 3 (rws api_Instr.cells (gt a0_1109 v7_1130))) (.fn rfl) ?_
    refine SafeOps.quiet0 E_good rfl rfl rfl (v := V.int .i64 ((gt a0_1109 v7_1130).length : Int)) (.fnE rfl lenE) ?_
    refine SafeOps.quiet0 E_good rfl rfl rfl (v := V.bool (decide (((gt a0_1109 v7_1130).length : Int) > 100))) (.fn rfl) ?_
    refine SafeOps.nil ?_
    repeat (first | refine Safe.seq ?_ | refine Safe.skip ?_ | with_reducible refine thenQ.n ?_ | with_reducible refine blockQ.n ?_)
    refine ifG h (fun hc1134 h => ?_) (fun hc1134 h => ?_)
    · skip
      refine Safe.condK rfl hc1134 ?_
      repeat (first | refine Safe.seq ?_ | refine Safe.skip ?_ | with_reducible refine thenQ.n ?_ | with_reducible refine blockQ.n ?_)
      refine Safe.region ?_
      refine SafeOps.quiet0 E_good rfl rfl rfl (v := V.bool false) (.fn rfl) ?_
      refine SafeOps.nil ?_
      repeat (first | refine Safe.seq ?_ | refine Safe.skip ?_ | with_reducible refine thenQ.n ?_ | with_reducible refine blockQ.n ?_)
      refine Safe.ret ?_
      repeat (first | with_reducible refine thenQ.r ?_ | with_reducible refine blockQ.r ?_)
      replace h := inr_out h hr1131
      obtain rfl := Option.some.inj h
      exact retQ.gen (vs := [V.bool false]) rfl (.tmp (v := V.bool false) rfl .nil) (.free rfl) (by simp) (.inr rfl)
    · skip
      refine Safe.condN rfl hc1134 ?_
      repeat (first | refine Safe.seq ?_ | refine Safe.skip ?_ | with_reducible refine thenQ.n ?_ | with_reducible refine blockQ.n ?_)
      refine Safe.region ?_
      refine SafeOps.quiet0 E_good rfl rfl rfl (v := V.int .i64 (IntKind.i64.wrap (v7_1130 + 1))) (.fn rfl) ?_
      refine SafeOps.quiet0 E_good rfl rfl rfl (v := V.int .i64 (IntKind.i64.wrap (v7_1130 + 1))) (.fn rfl) ?_
      refine SafeOps.nil ?_
      repeat (first | refine Safe.seq ?_ | refine Safe.skip ?_ | with_reducible refine thenQ.n ?_ | with_reducible refine blockQ.n ?_)
      exact ⟨_, next_out h, (.cov ⟨rfl, rfl, (upT_cons (.refl _) (upT_cons (.refl _) (upT_cons (.refl _) (upT_cons (.refl _) upT_nil)))), upOb_nil, upOut_nil, rfl⟩)⟩
  · skip
    refine Safe.condN rfl hc1132 ?_
    repeat (first | refine Safe.seq ?_ | refine Safe.skip ?_ | with_reducible refine thenQ.n ?_ | with_reducible refine blockQ.n ?_)
    refine Safe.exit ?_
    repeat (first | with_reducible refine thenQ.e ?_ | with_reducible refine blockQ.x rfl ?_ | with_reducible refine blockQ.y rfl ?_)
    replace h := inr_out h hr1131
    repeat (first | refine Safe.seq ?_ | refine Safe.skip ?_ | with_reducible refine thenQ.n ?_ | with_reducible refine blockQ.n ?_)
    refine Safe.region ?_
    refine SafeOps.quiet0 E_good rfl rfl rfl (v := V.sl 1 (rws (fun l => [V.sl 3 (rws api_Instr.cells l)]) a0_1109)) (.fn rfl) ?_
    refine SafeOps.quiet0 E_good rfl rfl rfl (v := V.int .i64 (a0_1109.length : Int)) (.fnE rfl lenE) ?_
    refine SafeOps.quiet0 E_good rfl rfl rfl (v := V.bool (decide ((a0_1109.length : Int) ≤ 100))) (.fn rfl) ?_
    refine SafeOps.quiet0 E_good rfl rfl rfl (v := V.bool (decide ((a0_1109.length : Int) ≤ 100))) (.fn rfl) ?_
    refine SafeOps.nil ?_
    repeat (first | refine Safe.seq ?_ | refine Safe.skip ?_ | with_reducible refine thenQ.n ?_ | with_reducible refine blockQ.n ?_)
    refine Safe.ret ?_
    repeat (first | with_reducible refine thenQ.r ?_ | with_reducible refine blockQ.r ?_)
    obtain rfl := Option.some.inj h
    exact retQ.gen (vs := [V.bool (decide ((a0_1109.length : Int) ≤ 100))]) rfl (.tmp (v := V.bool (decide ((a0_1109.length : Int) ≤ 100))) rfl .nil) (.free rfl) (by simp) (.inr rfl)

noncomputable def go_ravelref19_FewConfig (a0_1108 : api_Config) : Option Bool :=
  (go_ravelref04_Few a0_1108.Progs).bind fun x_1140 =>
  some (((x_1140 && (decide ((a0_1108.Weights.length : Int) ≤ 100))) && (decide ((a0_1108.Quotas.length : Int) ≤ 100))) && (decide ((a0_1108.Sems.length : Int) ≤ 100)))

theorem go_ravelref19_FewConfig_sc (a0_1108 : api_Config) (r : Bool) (h : go_ravelref19_FewConfig a0_1108 = some r) : SC Try.prog gl 20 [V.agg [V.int .i64 a0_1108.Workers, V.int .i64 a0_1108.Cap, V.int .i64 a0_1108.Budget, V.sl 1 (rws (fun n => [V.int .i64 n]) a0_1108.Weights), V.sl 1 (rws (fun n => [V.int .i64 n]) a0_1108.Quotas), V.sl 1 (rws (fun l => [V.sl 3 (rws api_Instr.cells l)]) a0_1108.Progs), V.int .i64 a0_1108.Tasks, V.int .i64 a0_1108.Fds, V.sl 1 (rws (fun n => [V.int .i64 n]) a0_1108.Sems)]] (V.bool r) := by
  rw [go_ravelref19_FewConfig] at h
  refine SC.of E_good Try.func20 rfl (fun _ _ => Try.call20 _ _) rfl ?_
  repeat (first | refine Safe.seq ?_ | refine Safe.skip ?_ | with_reducible refine thenQ.n ?_ | with_reducible refine blockQ.n ?_)
  refine Safe.region ?_
  refine SafeOps.quiet1 E_good rfl rfl rfl (.box rfl rfl) rfl ?_
  refine SafeOps.quiet0 E_good rfl rfl rfl (v := V.bool false) (.fn rfl) ?_
  refine SafeOps.nil ?_
  repeat (first | refine Safe.seq ?_ | refine Safe.skip ?_ | with_reducible refine thenQ.n ?_ | with_reducible refine blockQ.n ?_)
  refine Safe.region ?_
  refine SafeOps.quiet0 E_good rfl rfl rfl (v := V.ptr [1] 0 5) (.fn rfl) ?_
  refine SafeOps.quiet0 E_good rfl rfl rfl (v := V.sl 1 (rws (fun l => [V.sl 3 (rws api_Instr.cells l)]) a0_1108.Progs)) (.load rfl rfl (.box rfl rfl) rfl) ?_
  refine bindG h ?_
  intro x_1140 he1141 h
  refine SafeOps.quiet0 E_good rfl rfl rfl (v := V.bool x_1140) (.callP rfl rfl (go_ravelref04_Few_sc a0_1108.Progs _ he1141) rfl) ?_
  refine SafeOps.quiet0 E_good rfl rfl rfl (v := V.bool x_1140) (.fn rfl) ?_
  refine SafeOps.bjoin 5 11 (b := (x_1140 && (decide ((a0_1108.Weights.length : Int) ≤ 100)))) (b1 := decide ((a0_1108.Weights.length : Int) ≤ 100)) (b0 := false) (fun hc1142 K => ?_) (fun hc1142 K => ?_) bj_and ?_
  · skip
    refine SafeOps.quiet0 E_good (congrArg some hc1142) rfl rfl (v := V.ptr [1] 0 3) (.fn rfl) ?_
    refine SafeOps.quiet0 E_good (congrArg some hc1142) rfl rfl (v := V.sl 1 (rws (fun n => [V.int .i64 n]) a0_1108.Weights)) (.load rfl rfl (.box rfl rfl) rfl) ?_
    refine SafeOps.quiet0 E_good (congrArg some hc1142) rfl rfl (v := V.int .i64 (a0_1108.Weights.length : Int)) (.fnE rfl lenE) ?_
    refine SafeOps.quiet0 E_good (congrArg some hc1142) rfl rfl (v := V.bool (decide ((a0_1108.Weights.length : Int) ≤ 100))) (.fn rfl) ?_
    refine SafeOps.quiet0 E_good rfl rfl rfl (v := V.bool (decide ((a0_1108.Weights.length : Int) ≤ 100))) (.pickK rfl hc1142 rfl) ?_
    exact SafeOps.drop' 5 rfl rfl rfl K
  · skip
    refine SafeOps.skip (congrArg some hc1142) rfl rfl ?_
    refine SafeOps.skip (congrArg some hc1142) rfl rfl ?_
    refine SafeOps.skip (congrArg some hc1142) rfl rfl ?_
    refine SafeOps.skip (congrArg some hc1142) rfl rfl ?_
    refine SafeOps.quiet0 E_good rfl rfl rfl (v := V.bool false) (.pickK rfl hc1142 rfl) ?_
    exact SafeOps.drop' 5 rfl rfl rfl K
  refine SafeOps.quiet0 E_good rfl rfl rfl (v := V.bool (x_1140 && (decide ((a0_1108.Weights.length : Int) ≤ 100)))) (.fn rfl) ?_
  refine SafeOps.bjoin 5 17 (b := ((x_1140 && (decide ((a0_1108.Weights.length : Int) ≤ 100))) && (decide ((a0_1108.Quotas.length : Int) ≤ 100)))) (b1 := decide ((a0_1108.Quotas.length : Int) ≤ 100)) (b0 := false) (fun hc1143 K => ?_) (fun hc1143 K => ?_) bj_and ?_
  · skip
    refine SafeOps.quiet0 E_good (congrArg some hc1143) rfl rfl (v := V.ptr [1] 0 4) (.fn rfl) ?_
    refine SafeOps.quiet0 E_good (congrArg some hc1143) rfl rfl (v := V.sl 1 (rws (fun n => [V.int .i64 n]) a0_1108.Quotas)) (.load rfl rfl (.box rfl rfl) rfl) ?_
    refine SafeOps.quiet0 E_good (congrArg some hc1143) rfl rfl (v := V.int .i64 (a0_1108.Quotas.length : Int)) (.fnE rfl lenE) ?_
    refine SafeOps.quiet0 E_good (congrArg some hc1143) rfl rfl (v := V.bool (decide ((a0_1108.Quotas.length : Int) ≤ 100))) (.fn rfl) ?_
    refine SafeOps.quiet0 E_good rfl rfl rfl (v := V.bool (decide ((a0_1108.Quotas.length : Int) ≤ 100))) (.pickK rfl hc1143 rfl) ?_
    exact SafeOps.drop' 5 rfl rfl rfl K
  · skip
    refine SafeOps.skip (congrArg some hc1143) rfl rfl ?_
    refine SafeOps.skip (congrArg some hc1143) rfl rfl ?_
    refine SafeOps.skip (congrArg some hc1143) rfl rfl ?_
    refine SafeOps.skip (congrArg some hc1143) rfl rfl ?_
    refine SafeOps.quiet0 E_good rfl rfl rfl (v := V.bool false) (.pickK rfl hc1143 rfl) ?_
    exact SafeOps.drop' 5 rfl rfl rfl K
  refine SafeOps.quiet0 E_good rfl rfl rfl (v := V.bool ((x_1140 && (decide ((a0_1108.Weights.length : Int) ≤ 100))) && (decide ((a0_1108.Quotas.length : Int) ≤ 100)))) (.fn rfl) ?_
  refine SafeOps.bjoin 5 23 (b := (((x_1140 && (decide ((a0_1108.Weights.length : Int) ≤ 100))) && (decide ((a0_1108.Quotas.length : Int) ≤ 100))) && (decide ((a0_1108.Sems.length : Int) ≤ 100)))) (b1 := decide ((a0_1108.Sems.length : Int) ≤ 100)) (b0 := false) (fun hc1144 K => ?_) (fun hc1144 K => ?_) bj_and ?_
  · skip
    refine SafeOps.quiet0 E_good (congrArg some hc1144) rfl rfl (v := V.ptr [1] 0 8) (.fn rfl) ?_
    refine SafeOps.quiet0 E_good (congrArg some hc1144) rfl rfl (v := V.sl 1 (rws (fun n => [V.int .i64 n]) a0_1108.Sems)) (.load rfl rfl (.box rfl rfl) rfl) ?_
    refine SafeOps.quiet0 E_good (congrArg some hc1144) rfl rfl (v := V.int .i64 (a0_1108.Sems.length : Int)) (.fnE rfl lenE) ?_
    refine SafeOps.quiet0 E_good (congrArg some hc1144) rfl rfl (v := V.bool (decide ((a0_1108.Sems.length : Int) ≤ 100))) (.fn rfl) ?_
    refine SafeOps.quiet0 E_good rfl rfl rfl (v := V.bool (decide ((a0_1108.Sems.length : Int) ≤ 100))) (.pickK rfl hc1144 rfl) ?_
    exact SafeOps.drop' 5 rfl rfl rfl K
  · skip
    refine SafeOps.skip (congrArg some hc1144) rfl rfl ?_
    refine SafeOps.skip (congrArg some hc1144) rfl rfl ?_
    refine SafeOps.skip (congrArg some hc1144) rfl rfl ?_
    refine SafeOps.skip (congrArg some hc1144) rfl rfl ?_
    refine SafeOps.quiet0 E_good rfl rfl rfl (v := V.bool false) (.pickK rfl hc1144 rfl) ?_
    exact SafeOps.drop' 5 rfl rfl rfl K
  refine SafeOps.quiet0 E_good rfl rfl rfl (v := V.bool (((x_1140 && (decide ((a0_1108.Weights.length : Int) ≤ 100))) && (decide ((a0_1108.Quotas.length : Int) ≤ 100))) && (decide ((a0_1108.Sems.length : Int) ≤ 100)))) (.fn rfl) ?_
  refine SafeOps.nil ?_
  repeat (first | refine Safe.seq ?_ | refine Safe.skip ?_ | with_reducible refine thenQ.n ?_ | with_reducible refine blockQ.n ?_)
  refine Safe.ret ?_
  repeat (first | with_reducible refine thenQ.r ?_ | with_reducible refine blockQ.r ?_)
  obtain rfl := Option.some.inj h
  exact retQ.gen (vs := [V.bool (((x_1140 && (decide ((a0_1108.Weights.length : Int) ≤ 100))) && (decide ((a0_1108.Quotas.length : Int) ≤ 100))) && (decide ((a0_1108.Sems.length : Int) ≤ 100)))]) rfl (.tmp (v := V.bool (((x_1140 && (decide ((a0_1108.Weights.length : Int) ≤ 100))) && (decide ((a0_1108.Quotas.length : Int) ≤ 100))) && (decide ((a0_1108.Sems.length : Int) ≤ 100)))) rfl .nil) (.free rfl) (by simp) (.inr rfl)

def go_code_within (a0_1182 : Int) (a1_1183 : Int) : Bool :=
  ((decide (a0_1182 ≥ 0)) && (decide (a0_1182 < a1_1183)))

theorem go_code_within_sc (a0_1182 : Int) (a1_1183 : Int) (r : Bool) (h : go_code_within a0_1182 a1_1183 = r) : SC Try.prog gl 67 [V.int .i64 a0_1182, V.int .i64 a1_1183] (V.bool r) := by
  rw [go_code_within] at h
  refine SC.of E_good Try.func67 rfl (fun _ _ => Try.call67 _ _) rfl ?_
  repeat (first | refine Safe.seq ?_ | refine Safe.skip ?_ | with_reducible refine thenQ.n ?_ | with_reducible refine blockQ.n ?_)
  refine Safe.region ?_
  refine SafeOps.quiet0 E_good rfl rfl rfl (v := V.bool false) (.fn rfl) ?_
  refine SafeOps.nil ?_
  repeat (first | refine Safe.seq ?_ | refine Safe.skip ?_ | with_reducible refine thenQ.n ?_ | with_reducible refine blockQ.n ?_)
  refine Safe.region ?_
  refine SafeOps.quiet0 E_good rfl rfl rfl (v := V.int .i64 a0_1182) (.fn rfl) ?_
  refine SafeOps.quiet0 E_good rfl rfl rfl (v := V.bool (decide (a0_1182 ≥ 0))) (.fn rfl) ?_
  refine SafeOps.quiet0 E_good rfl rfl rfl (v := V.bool (decide (a0_1182 ≥ 0))) (.fn rfl) ?_
  refine SafeOps.bjoin 4 11 (b := ((decide (a0_1182 ≥ 0)) && (decide (a0_1182 < a1_1183)))) (b1 := decide (a0_1182 < a1_1183)) (b0 := false) (fun hc1185 K => ?_) (fun hc1185 K => ?_) bj_and ?_
  · skip
    refine SafeOps.quiet0 E_good (congrArg some hc1185) rfl rfl (v := V.int .i64 a0_1182) (.fn rfl) ?_
    refine SafeOps.quiet0 E_good (congrArg some hc1185) rfl rfl (v := V.int .i64 a1_1183) (.fn rfl) ?_
    refine SafeOps.quiet0 E_good (congrArg some hc1185) rfl rfl (v := V.bool (decide (a0_1182 < a1_1183))) (.fn rfl) ?_
    refine SafeOps.quiet0 E_good rfl rfl rfl (v := V.bool (decide (a0_1182 < a1_1183))) (.pickK rfl hc1185 rfl) ?_
    exact SafeOps.drop' 4 rfl rfl rfl K
  · skip
    refine SafeOps.skip (congrArg some hc1185) rfl rfl ?_
    refine SafeOps.skip (congrArg some hc1185) rfl rfl ?_
    refine SafeOps.skip (congrArg some hc1185) rfl rfl ?_
    refine SafeOps.quiet0 E_good rfl rfl rfl (v := V.bool false) (.pickK rfl hc1185 rfl) ?_
    exact SafeOps.drop' 4 rfl rfl rfl K
  refine SafeOps.quiet0 E_good rfl rfl rfl (v := V.bool ((decide (a0_1182 ≥ 0)) && (decide (a0_1182 < a1_1183)))) (.fn rfl) ?_
  refine SafeOps.nil ?_
  repeat (first | refine Safe.seq ?_ | refine Safe.skip ?_ | with_reducible refine thenQ.n ?_ | with_reducible refine blockQ.n ?_)
  refine Safe.ret ?_
  repeat (first | with_reducible refine thenQ.r ?_ | with_reducible refine blockQ.r ?_)
  obtain rfl := h
  exact retQ.gen (vs := [V.bool ((decide (a0_1182 ≥ 0)) && (decide (a0_1182 < a1_1183)))]) rfl (.tmp (v := V.bool ((decide (a0_1182 ≥ 0)) && (decide (a0_1182 < a1_1183)))) rfl .nil) (.free rfl) (by simp) (.inr rfl)
end Go.Proofs.Ythhpnmfcmgdghaa
