/- Helper lemmas for the claim's theorem: an abstract machine over the model, proved sound; no condition beyond each lemma's own. -/
import Derived.Test.YthhpnmfcmgdghaaSEnv
set_option linter.unusedVariables false
set_option linter.unusedSimpArgs false
set_option linter.unnecessarySimpa false
set_option linter.unusedSectionVars false
namespace Go.Proofs.Ythhpnmfcmgdghaa
open Go Go.AM
set_option maxRecDepth 100000
set_option maxHeartbeats 1000000
set_option linter.unusedVariables false
set_option linter.unusedSimpArgs false
variable {gl : List (Nat × List V)}
@[ext] structure api_Entry where
  Kind : Int
  A : Int
  B : Int
  deriving Inhabited
def api_Entry.cells (x : api_Entry) : List V := [V.int .i64 x.Kind, V.int .i64 x.A, V.int .i64 x.B]
def api_Entry.zero : api_Entry := ⟨0, 0, 0⟩
def api_Entry.beq (x y : api_Entry) : Bool := ((x.Kind == y.Kind) && ((x.A == y.A) && ((x.B == y.B) && true)))

def go_entry_within (a0_9 : Int) (a1_10 : Int) (a2_11 : Int) : Bool :=
  ((decide (a0_9 ≥ a1_10)) && (decide (a0_9 ≤ a2_11)))

theorem go_entry_within_sc (a0_9 : Int) (a1_10 : Int) (a2_11 : Int) (r : Bool) (h : go_entry_within a0_9 a1_10 a2_11 = r) : SC Try.prog gl 25 [V.int .i64 a0_9, V.int .i64 a1_10, V.int .i64 a2_11] (V.bool r) := by
  rw [go_entry_within] at h
  refine SC.of E_good Try.func25 rfl (fun _ _ => Try.call25 _ _) rfl ?_
  repeat (first | refine Safe.seq ?_ | refine Safe.skip ?_ | with_reducible refine thenQ.n ?_ | with_reducible refine blockQ.n ?_)
  refine Safe.region ?_
  refine SafeOps.quiet0 E_good rfl rfl rfl (v := V.bool false) (.fn rfl) ?_
  refine SafeOps.nil ?_
  repeat (first | refine Safe.seq ?_ | refine Safe.skip ?_ | with_reducible refine thenQ.n ?_ | with_reducible refine blockQ.n ?_)
  refine Safe.region ?_
  refine SafeOps.quiet0 E_good rfl rfl rfl (v := V.int .i64 a0_9) (.fn rfl) ?_
  refine SafeOps.quiet0 E_good rfl rfl rfl (v := V.int .i64 a1_10) (.fn rfl) ?_
  refine SafeOps.quiet0 E_good rfl rfl rfl (v := V.bool (decide (a0_9 ≥ a1_10))) (.fn rfl) ?_
  refine SafeOps.quiet0 E_good rfl rfl rfl (v := V.bool (decide (a0_9 ≥ a1_10))) (.fn rfl) ?_
  refine SafeOps.bjoin 4 14 (b := ((decide (a0_9 ≥ a1_10)) && (decide (a0_9 ≤ a2_11)))) (b1 := decide (a0_9 ≤ a2_11)) (b0 := false) (fun hc13 K => ?_) (fun hc13 K => ?_) bj_and ?_
  · skip
    refine SafeOps.quiet0 E_good (congrArg some hc13) rfl rfl (v := V.int .i64 a0_9) (.fn rfl) ?_
    refine SafeOps.quiet0 E_good (congrArg some hc13) rfl rfl (v := V.int .i64 a2_11) (.fn rfl) ?_
    refine SafeOps.quiet0 E_good (congrArg some hc13) rfl rfl (v := V.bool (decide (a0_9 ≤ a2_11))) (.fn rfl) ?_
    refine SafeOps.quiet0 E_good rfl rfl rfl (v := V.bool (decide (a0_9 ≤ a2_11))) (.pickK rfl hc13 rfl) ?_
    exact SafeOps.drop' 4 rfl rfl rfl K
  · skip
    refine SafeOps.skip (congrArg some hc13) rfl rfl ?_
    refine SafeOps.skip (congrArg some hc13) rfl rfl ?_
    refine SafeOps.skip (congrArg some hc13) rfl rfl ?_
    refine SafeOps.quiet0 E_good rfl rfl rfl (v := V.bool false) (.pickK rfl hc13 rfl) ?_
    exact SafeOps.drop' 4 rfl rfl rfl K
  refine SafeOps.quiet0 E_good rfl rfl rfl (v := V.bool ((decide (a0_9 ≥ a1_10)) && (decide (a0_9 ≤ a2_11)))) (.fn rfl) ?_
  refine SafeOps.nil ?_
  repeat (first | refine Safe.seq ?_ | refine Safe.skip ?_ | with_reducible refine thenQ.n ?_ | with_reducible refine blockQ.n ?_)
  refine Safe.ret ?_
  repeat (first | with_reducible refine thenQ.r ?_ | with_reducible refine blockQ.r ?_)
  obtain rfl := h
  exact retQ.gen (vs := [V.bool ((decide (a0_9 ≥ a1_10)) && (decide (a0_9 ≤ a2_11)))]) rfl (.tmp (v := V.bool ((decide (a0_9 ≥ a1_10)) && (decide (a0_9 ≤ a2_11)))) rfl .nil) (.free rfl) (by simp) (.inr rfl)

noncomputable def go_entry_Only_s1 (a0_20 : List api_Entry) (a1_21 : Int) : ((List api_Entry) × Int) → Option (((List api_Entry) × Int) ⊕ (List api_Entry))
  | (v4_50, v9_51) =>
    if (decide (v9_51 < (a0_20.length : Int))) = true then
      if 0 ≤ v9_51 ∧ v9_51 < (a0_20.length : Int) then
        if (((gt a0_20 v9_51).Kind) == a1_21) = true then
          if few (v4_50 ++ [(gt a0_20 v9_51)]).length then
            nextO (v4_50 ++ [(gt a0_20 v9_51)], IntKind.i64.wrap (v9_51 + 1))
          else none
        else
          nextO (v4_50, IntKind.i64.wrap (v9_51 + 1))
      else none
    else
      inrO (
        some v4_50)

noncomputable def go_entry_Only (a0_20 : List api_Entry) (a1_21 : Int) : Option (List api_Entry) :=
  whileO (go_entry_Only_s1 a0_20 a1_21) ([], 0)

theorem go_entry_Only_sc (a0_20 : List api_Entry) (a1_21 : Int) (r : List api_Entry) (h : go_entry_Only a0_20 a1_21 = some r) : SC Try.prog gl 10 [V.sl 3 (rws api_Entry.cells a0_20), V.int .i64 a1_21] (V.own 3 (rws api_Entry.cells r)) := by
  rw [go_entry_Only] at h
  refine SC.of E_good Try.func10 rfl (fun _ _ => Try.call10 _ _) rfl ?_
  repeat (first | refine Safe.seq ?_ | refine Safe.skip ?_ | with_reducible refine thenQ.n ?_ | with_reducible refine blockQ.n ?_)
  refine Safe.region ?_
  refine SafeOps.quiet0 E_good rfl rfl rfl (v := V.nils) (.fn rfl) ?_
  refine SafeOps.nil ?_
  repeat (first | refine Safe.seq ?_ | refine Safe.skip ?_ | with_reducible refine thenQ.n ?_ | with_reducible refine blockQ.n ?_)
  refine Safe.region ?_
  refine SafeOps.quiet0 E_good rfl rfl rfl (v := V.sl 3 (rws api_Entry.cells a0_20)) (.fn rfl) ?_
  refine SafeOps.quiet0 E_good rfl rfl rfl (v := V.int .i64 (a0_20.length : Int)) (.fnE rfl lenE) ?_
  refine SafeOps.quiet0 E_good rfl rfl rfl (v := V.int .i64 0) (.fn rfl) ?_
  refine SafeOps.nil ?_
  repeat (first | refine Safe.seq ?_ | refine Safe.skip ?_ | with_reducible refine thenQ.n ?_ | with_reducible refine blockQ.n ?_)
  refine Safe.block ?_
  repeat (first | refine Safe.seq ?_ | refine Safe.skip ?_ | with_reducible refine thenQ.n ?_ | with_reducible refine blockQ.n ?_)
  refine Safe.loopW (fun ((v4_50, v9_51) : (List api_Entry) × Int) => ⟨Try.f10.ntmps, [(1, V.int .i64 a1_21), (4, V.ref [7000, 118, 4] 0 (rws api_Entry.cells v4_50).length), (7, V.sl 3 (rws api_Entry.cells a0_20)), (8, V.int .i64 (a0_20.length : Int)), (9, V.int .i64 v9_51)], [([7000, 118, 4], Obj.rows 3 (rws api_Entry.cells v4_50) false)], [], []⟩) h (.empty [7000, 118, 4] 3 rfl (.cov ⟨rfl, rfl, (upT_cons (.refl _) (upT_cons (.nilref _) (upT_cons (.refl _) (upT_cons (.refl _) (upT_cons (.refl _) upT_nil))))), (upOb_cons rfl (.refl _) upOb_nil), upOut_nil, rfl⟩)) ?_
  rintro ⟨v4_50, v9_51⟩ ohr52 h hr52
  replace h : go_entry_Only_s1 a0_20 a1_21 (v4_50, v9_51) = some ohr52 := h
  rw [go_entry_Only_s1] at h
  repeat (first | refine Safe.seq ?_ | refine Safe.skip ?_ | with_reducible refine thenQ.n ?_ | with_reducible refine blockQ.n ?_)
  refine Safe.region ?_
  refine SafeOps.quiet0 E_good rfl rfl rfl (v := V.bool (decide (v9_51 < (a0_20.length : Int)))) (.fn rfl) ?_
  refine SafeOps.nil ?_
  repeat (first | refine Safe.seq ?_ | refine Safe.skip ?_ | with_reducible refine thenQ.n ?_ | with_reducible refine blockQ.n ?_)
  refine ifG h (fun hc53 h => ?_) (fun hc53 h => ?_)
  · skip
    refine Safe.condK rfl hc53 ?_
    repeat (first | refine Safe.seq ?_ | refine Safe.skip ?_ | with_reducible refine thenQ.n ?_ | with_reducible refine blockQ.n ?_)
    refine Safe.block ?_
    repeat (first | refine Safe.seq ?_ | refine Safe.skip ?_ | with_reducible refine thenQ.n ?_ | with_reducible refine blockQ.n ?_)
    refine Safe.region ?_
    refine okG h (fun hb54 h => ?_)
    refine SafeOps.quiet0 E_good rfl rfl rfl (v := V.spt 3 (rws api_Entry.cells a0_20) (Int.toNat v9_51) 0) (.idxSlM (f := api_Entry.cells) rfl rfl rfl rfl rfl hb54) ?_
    refine SafeOps.quiet0 E_good rfl rfl rfl (v := V.agg [V.int .i64 ((gt a0_20 v9_51).Kind), V.int .i64 ((gt a0_20 v9_51).A), V.int .i64 ((gt a0_20 v9_51).B)]) (.load rfl rfl (.sptM (f := api_Entry.cells) hb54 rfl) rfl) ?_
    refine SafeOps.quiet1 E_good rfl rfl rfl (.alloc rfl rfl) rfl ?_
    refine SafeOps.store (z := Obj.box [V.int .i64 ((gt a0_20 v9_51).Kind), V.int .i64 ((gt a0_20 v9_51).A), V.int .i64 ((gt a0_20 v9_51).B)]) E_good rfl rfl rfl rfl rfl rfl rfl (.boxM (c := 3) rfl rfl (Nat.le_of_ble_eq_true rfl) rfl) ?_
    refine SafeOps.nil ?_
    repeat (first | refine Safe.seq ?_ | refine Safe.skip ?_ | with_reducible refine thenQ.n ?_ | with_reducible refine blockQ.n ?_)
    refine Safe.region ?_
    refine SafeOps.quiet0 E_good rfl rfl rfl (v := V.ptr [6] 0 0) (.fn rfl) ?_
    refine SafeOps.quiet0 E_good rfl rfl rfl (v := V.int .i64 ((gt a0_20 v9_51).Kind)) (.load rfl rfl (.box rfl rfl) rfl) ?_
    refine SafeOps.quiet0 E_good rfl rfl rfl (v := V.int .i64 a1_21) (.fn rfl) ?_
    refine SafeOps.quiet0 E_good rfl rfl rfl (v := V.bool (((gt a0_20 v9_51).Kind) == a1_21)) (.fn rfl) ?_
    refine SafeOps.nil ?_
    repeat (first | refine Safe.seq ?_ | refine Safe.skip ?_ | with_reducible refine thenQ.n ?_ | with_reducible refine blockQ.n ?_)
    refine ifG h (fun hc55 h => ?_) (fun hc55 h => ?_)
    · skip
      refine Safe.condK rfl hc55 ?_
      repeat (first | refine Safe.seq ?_ | refine Safe.skip ?_ | with_reducible refine thenQ.n ?_ | with_reducible refine blockQ.n ?_)
      refine Safe.region ?_
      refine SafeOps.quiet0 E_good rfl rfl rfl (v := V.ref [7000, 118, 4] 0 (rws api_Entry.cells v4_50).length) (.fn rfl) ?_
      refine SafeOps.quiet0 E_good rfl rfl rfl (v := V.agg [V.int .i64 ((gt a0_20 v9_51).Kind), V.int .i64 ((gt a0_20 v9_51).A), V.int .i64 ((gt a0_20 v9_51).B)]) (.load rfl rfl (.box rfl rfl) rfl) ?_
      refine SafeOps.quiet1 E_good rfl rfl rfl (.litM (f := api_Entry.cells) (xs := [(gt a0_20 v9_51)]) rfl rfl (by decide) rfl rfl rfl rfl rfl) rfl ?_
      refine okG h (fun hb56 h => ?_)
      refine SafeOps.appendM api_Entry.cells (xs := v4_50) (ys := [(gt a0_20 v9_51)]) E_good rfl rfl rfl rfl rfl rfl rfl rfl rfl (.own rfl) (.own rfl) (fun _ => rfl) hb56 ?_
      refine SafeOps.quiet0 E_good rfl rfl rfl (v := V.ref [20] 0 (rws api_Entry.cells (v4_50 ++ [(gt a0_20 v9_51)])).length) (.fn rfl) ?_
      refine SafeOps.nil ?_
      repeat (first | refine Safe.seq ?_ | refine Safe.skip ?_ | with_reducible refine thenQ.n ?_ | with_reducible refine blockQ.n ?_)
      refine Safe.region ?_
      refine SafeOps.quiet0 E_good rfl rfl rfl (v := V.int .i64 (IntKind.i64.wrap (v9_51 + 1))) (.fn rfl) ?_
      refine SafeOps.quiet0 E_good rfl rfl rfl (v := V.int .i64 (IntKind.i64.wrap (v9_51 + 1))) (.fn rfl) ?_
      refine SafeOps.nil ?_
      repeat (first | refine Safe.seq ?_ | refine Safe.skip ?_ | with_reducible refine thenQ.n ?_ | with_reducible refine blockQ.n ?_)
      exact ⟨_, next_out h, (.ren [20] [7000, 118, 4] (.cov ⟨rfl, rfl, (upT_cons (.refl _) (upT_cons (.refl _) (upT_cons (.refl _) (upT_cons (.refl _) (upT_cons (.refl _) upT_nil))))), (upOb_cons rfl (.refl _) upOb_nil), upOut_nil, rfl⟩))⟩
    · skip
      refine Safe.condN rfl hc55 ?_
      repeat (first | refine Safe.seq ?_ | refine Safe.skip ?_ | with_reducible refine thenQ.n ?_ | with_reducible refine blockQ.n ?_)
      refine Safe.region ?_
      refine SafeOps.quiet0 E_good rfl rfl rfl (v := V.int .i64 (IntKind.i64.wrap (v9_51 + 1))) (.fn rfl) ?_
      refine SafeOps.quiet0 E_good rfl rfl rfl (v := V.int .i64 (IntKind.i64.wrap (v9_51 + 1))) (.fn rfl) ?_
      refine SafeOps.nil ?_
      repeat (first | refine Safe.seq ?_ | refine Safe.skip ?_ | with_reducible refine thenQ.n ?_ | with_reducible refine blockQ.n ?_)
      exact ⟨_, next_out h, (.cov ⟨rfl, rfl, (upT_cons (.refl _) (upT_cons (.refl _) (upT_cons (.refl _) (upT_cons (.refl _) (upT_cons (.refl _) upT_nil))))), (upOb_cons rfl (.refl _) upOb_nil), upOut_nil, rfl⟩)⟩
  · skip
    refine Safe.condN rfl hc53 ?_
    repeat (first | refine Safe.seq ?_ | refine Safe.skip ?_ | with_reducible refine thenQ.n ?_ | with_reducible refine blockQ.n ?_)
    refine Safe.exit ?_
    repeat (first | with_reducible refine thenQ.e ?_ | with_reducible refine blockQ.x rfl ?_ | with_reducible refine blockQ.y rfl ?_)
    replace h := inr_out h hr52
    repeat (first | refine Safe.seq ?_ | refine Safe.skip ?_ | with_reducible refine thenQ.n ?_ | with_reducible refine blockQ.n ?_)
    refine Safe.region ?_
    refine SafeOps.quiet0 E_good rfl rfl rfl (v := V.ref [7000, 118, 4] 0 (rws api_Entry.cells v4_50).length) (.fn rfl) ?_
    refine SafeOps.quiet0 E_good rfl rfl rfl (v := V.ref [7000, 118, 4] 0 (rws api_Entry.cells v4_50).length) (.fn rfl) ?_
    refine SafeOps.nil ?_
    repeat (first | refine Safe.seq ?_ | refine Safe.skip ?_ | with_reducible refine thenQ.n ?_ | with_reducible refine blockQ.n ?_)
    refine Safe.ret ?_
    repeat (first | with_reducible refine thenQ.r ?_ | with_reducible refine blockQ.r ?_)
    obtain rfl := Option.some.inj h
    exact retQ.gen (vs := [V.ref [7000, 118, 4] 0 (rws api_Entry.cells v4_50).length]) rfl (.tmp (v := V.ref [7000, 118, 4] 0 (rws api_Entry.cells v4_50).length) rfl .nil) (by exact (.own rfl rfl)) (by simp) (.inr rfl)

noncomputable def go_slices_Max_int_int_s1 (a0_93 : List Int) : (Int × Int) → Option ((Int × Int) ⊕ (Int))
  | (v3_115, v4_116) =>
    if (decide (v4_116 < (a0_93.length : Int))) = true then
      if 0 ≤ v4_116 ∧ v4_116 < (a0_93.length : Int) then
        nextO ((if (gt a0_93 v4_116) > v3_115 then (gt a0_93 v4_116) else v3_115), IntKind.i64.wrap (v4_116 + 1))
      else none
    else
      inrO (
        some v3_115)

noncomputable def go_slices_Max_int_int (a0_93 : List Int) : Option Int :=
  if (decide ((a0_93.length : Int) < 1)) = true then
    none
  else
    if 0 ≤ (0 : Int) ∧ (0 : Int) < (a0_93.length : Int) then
      whileO (go_slices_Max_int_int_s1 a0_93) ((gt a0_93 0), 1)
    else none

theorem go_slices_Max_int_int_sc (a0_93 : List Int) (r : Int) (h : go_slices_Max_int_int a0_93 = some r) : SC Try.prog gl 26 [V.sl 1 (rws (fun n => [V.int .i64 n]) a0_93)] (V.int .i64 r) := by
  rw [go_slices_Max_int_int] at h
  refine SC.of E_good Try.func26 rfl (fun _ _ => Try.call26 _ _) rfl ?_
  repeat (first | refine Safe.seq ?_ | refine Safe.skip ?_ | with_reducible refine thenQ.n ?_ | with_reducible refine blockQ.n ?_)
  refine Safe.region ?_
  refine SafeOps.quiet0 E_good rfl rfl rfl (v := V.int .i64 0) (.fn rfl) ?_
  refine SafeOps.nil ?_
  repeat (first | refine Safe.seq ?_ | refine Safe.skip ?_ | with_reducible refine thenQ.n ?_ | with_reducible refine blockQ.n ?_)
  refine Safe.region ?_
  refine SafeOps.quiet0 E_good rfl rfl rfl (v := V.sl 1 (rws (fun n => [V.int .i64 n]) a0_93)) (.fn rfl) ?_
  refine SafeOps.quiet0 E_good rfl rfl rfl (v := V.int .i64 (a0_93.length : Int)) (.fnE rfl lenE) ?_
  refine SafeOps.quiet0 E_good rfl rfl rfl (v := V.bool (decide ((a0_93.length : Int) < 1))) (.fn rfl) ?_
  refine SafeOps.nil ?_
  repeat (first | refine Safe.seq ?_ | refine Safe.skip ?_ | with_reducible refine thenQ.n ?_ | with_reducible refine blockQ.n ?_)
  refine ifG h (fun hc107 h => ?_) (fun hc107 h => ?_)
  · skip
    refine Safe.condK rfl hc107 ?_
    repeat (first | refine Safe.seq ?_ | refine Safe.skip ?_ | with_reducible refine thenQ.n ?_ | with_reducible refine blockQ.n ?_)
    refine Safe.region ?_
    cases h
  · skip
    refine Safe.condN rfl hc107 ?_
    repeat (first | refine Safe.seq ?_ | refine Safe.skip ?_ | with_reducible refine thenQ.n ?_ | with_reducible refine blockQ.n ?_)
    refine Safe.region ?_
    refine SafeOps.quiet0 E_good rfl rfl rfl (v := V.sl 1 (rws (fun n => [V.int .i64 n]) a0_93)) (.fn rfl) ?_
    refine okG h (fun hb108 h => ?_)
    refine SafeOps.quiet0 E_good rfl rfl rfl (v := V.spt 1 (rws (fun n => [V.int .i64 n]) a0_93) (Int.toNat 0) 0) (.idxSlM (f := (fun n => [V.int .i64 n])) rfl rfl rfl rfl rfl hb108) ?_
    refine SafeOps.quiet0 E_good rfl rfl rfl (v := V.int .i64 (gt a0_93 0)) (.load rfl rfl (.sptM (f := (fun n => [V.int .i64 n])) hb108 rfl) rfl) ?_
    refine SafeOps.quiet0 E_good rfl rfl rfl (v := V.int .i64 (gt a0_93 0)) (.fn rfl) ?_
    refine SafeOps.nil ?_
    repeat (first | refine Safe.seq ?_ | refine Safe.skip ?_ | with_reducible refine thenQ.n ?_ | with_reducible refine blockQ.n ?_)
    refine Safe.region ?_
    refine SafeOps.quiet0 E_good rfl rfl rfl (v := V.int .i64 1) (.fn rfl) ?_
    refine SafeOps.nil ?_
    repeat (first | refine Safe.seq ?_ | refine Safe.skip ?_ | with_reducible refine thenQ.n ?_ | with_reducible refine blockQ.n ?_)
    refine Safe.block ?_
    repeat (first | refine Safe.seq ?_ | refine Safe.skip ?_ | with_reducible refine thenQ.n ?_ | with_reducible refine blockQ.n ?_)
    refine Safe.loopW (fun ((v3_115, v4_116) : Int × Int) => ⟨Try.f26.ntmps, [(0, V.sl 1 (rws (fun n => [V.int .i64 n]) a0_93)), (3, V.int .i64 v3_115), (4, V.int .i64 v4_116)], [], [], []⟩) h (.cov ⟨rfl, rfl, (upT_cons (.refl _) (upT_cons (.refl _) (upT_cons (.refl _) upT_nil))), upOb_nil, upOut_nil, rfl⟩) ?_
    rintro ⟨v3_115, v4_116⟩ ohr117 h hr117
    replace h : go_slices_Max_int_int_s1 a0_93 (v3_115, v4_116) = some ohr117 := h
    rw [go_slices_Max_int_int_s1] at h
    repeat (first | refine Safe.seq ?_ | refine Safe.skip ?_ | with_reducible refine thenQ.n ?_ | with_reducible refine blockQ.n ?_)
    refine Safe.region ?_
    refine SafeOps.quiet0 E_good rfl rfl rfl (v := V.int .i64 v4_116) (.fn rfl) ?_
    refine SafeOps.quiet0 E_good rfl rfl rfl (v := V.sl 1 (rws (fun n => [V.int .i64 n]) a0_93)) (.fn rfl) ?_
    refine SafeOps.quiet0 E_good rfl rfl rfl (v := V.int .i64 (a0_93.length : Int)) (.fnE rfl lenE) ?_
    refine SafeOps.quiet0 E_good rfl rfl rfl (v := V.bool (decide (v4_116 < (a0_93.length : Int)))) (.fn rfl) ?_
    refine SafeOps.nil ?_
    repeat (first | refine Safe.seq ?_ | refine Safe.skip ?_ | with_reducible refine thenQ.n ?_ | with_reducible refine blockQ.n ?_)
    refine ifG h (fun hc118 h => ?_) (fun hc118 h => ?_)
    · skip
      refine Safe.condK rfl hc118 ?_
      repeat (first | refine Safe.seq ?_ | refine Safe.skip ?_ | with_reducible refine thenQ.n ?_ | with_reducible refine blockQ.n ?_)
      refine Safe.block ?_
      repeat (first | refine Safe.seq ?_ | refine Safe.skip ?_ | with_reducible refine thenQ.n ?_ | with_reducible refine blockQ.n ?_)
      refine Safe.region ?_
      refine SafeOps.quiet0 E_good rfl rfl rfl (v := V.int .i64 v3_115) (.fn rfl) ?_
      refine SafeOps.quiet0 E_good rfl rfl rfl (v := V.sl 1 (rws (fun n => [V.int .i64 n]) a0_93)) (.fn rfl) ?_
      refine SafeOps.quiet0 E_good rfl rfl rfl (v := V.int .i64 v4_116) (.fn rfl) ?_
      refine okG h (fun hb119 h => ?_)
      refine SafeOps.quiet0 E_good rfl rfl rfl (v := V.spt 1 (rws (fun n => [V.int .i64 n]) a0_93) (Int.toNat v4_116) 0) (.idxSlM (f := (fun n => [V.int .i64 n])) rfl rfl rfl rfl rfl hb119) ?_
      refine SafeOps.quiet0 E_good rfl rfl rfl (v := V.int .i64 (gt a0_93 v4_116)) (.load rfl rfl (.sptM (f := (fun n => [V.int .i64 n])) hb119 rfl) rfl) ?_
      refine SafeOps.quiet0 E_good rfl rfl rfl (v := V.int .i64 (if (gt a0_93 v4_116) > v3_115 then (gt a0_93 v4_116) else v3_115)) (.fn rfl) ?_
      refine SafeOps.quiet0 E_good rfl rfl rfl (v := V.int .i64 (if (gt a0_93 v4_116) > v3_115 then (gt a0_93 v4_116) else v3_115)) (.fn rfl) ?_
      refine SafeOps.nil ?_
      repeat (first | refine Safe.seq ?_ | refine Safe.skip ?_ | with_reducible refine thenQ.n ?_ | with_reducible refine blockQ.n ?_)
      refine Safe.region ?_
      refine SafeOps.quiet0 E_good rfl rfl rfl (v := V.int .i64 v4_116) (.fn rfl) ?_
      refine SafeOps.quiet0 E_good rfl rfl rfl (v := V.int .i64 (IntKind.i64.wrap (v4_116 + 1))) (.fn rfl) ?_
      refine SafeOps.quiet0 E_good rfl rfl rfl (v := V.int .i64 (IntKind.i64.wrap (v4_116 + 1))) (.fn rfl) ?_
      refine SafeOps.nil ?_
      repeat (first | refine Safe.seq ?_ | refine Safe.skip ?_ | with_reducible refine thenQ.n ?_ | with_reducible refine blockQ.n ?_)
      exact ⟨_, next_out h, (.cov ⟨rfl, rfl, (upT_cons (.refl _) (upT_cons (.refl _) (upT_cons (.refl _) upT_nil))), upOb_nil, upOut_nil, rfl⟩)⟩
    · skip
      refine Safe.condN rfl hc118 ?_
      repeat (first | refine Safe.seq ?_ | refine Safe.skip ?_ | with_reducible refine thenQ.n ?_ | with_reducible refine blockQ.n ?_)
      refine Safe.exit ?_
      repeat (first | with_reducible refine thenQ.e ?_ | with_reducible refine blockQ.x rfl ?_ | with_reducible refine blockQ.y rfl ?_)
      replace h := inr_out h hr117
      repeat (first | refine Safe.seq ?_ | refine Safe.skip ?_ | with_reducible refine thenQ.n ?_ | with_reducible refine blockQ.n ?_)
      refine Safe.region ?_
      refine SafeOps.quiet0 E_good rfl rfl rfl (v := V.int .i64 v3_115) (.fn rfl) ?_
      refine SafeOps.quiet0 E_good rfl rfl rfl (v := V.int .i64 v3_115) (.fn rfl) ?_
      refine SafeOps.nil ?_
      repeat (first | refine Safe.seq ?_ | refine Safe.skip ?_ | with_reducible refine thenQ.n ?_ | with_reducible refine blockQ.n ?_)
      refine Safe.ret ?_
      repeat (first | with_reducible refine thenQ.r ?_ | with_reducible refine blockQ.r ?_)
      obtain rfl := Option.some.inj h
      exact retQ.gen (vs := [V.int .i64 v3_115]) rfl (.tmp (v := V.int .i64 v3_115) rfl .nil) (.free rfl) (by simp) (.inr rfl)

noncomputable def go_entry_Fair_j10 (x_221 : List api_Entry) (v9_310 : Int) (v10_311 : Bool) (v26_312 : Int) (v8_340 : List Int) (b_350 : Bool) : Option (((List Int) × Int × Bool × Int) ⊕ (Bool × Int)) :=
  if b_350 = true then
    nextO (st v8_340 ((gt x_221 v26_312).A) 0, IntKind.i64.wrap (v9_310 + 1), false, IntKind.i64.wrap (v26_312 + 1))
  else
    nextO (st v8_340 ((gt x_221 v26_312).A) 0, IntKind.i64.wrap (v9_310 + 1), v10_311, IntKind.i64.wrap (v26_312 + 1))

noncomputable def go_entry_Fair_s9 (a2_8 : Int) (x_221 : List api_Entry) (v8_309 : List Int) (v9_310 : Int) (v10_311 : Bool) (v26_312 : Int) : ((List Int) × Int) → Option (((List Int) × Int) ⊕ (((List Int) × Int × Bool × Int) ⊕ (Bool × Int)))
  | (v8_340, v43_341) =>
    if (decide (v43_341 < (v8_309.length : Int))) = true then
      if 0 ≤ v43_341 ∧ v43_341 < (v8_340.length : Int) then
        if 0 ≤ v43_341 ∧ v43_341 < (v8_340.length : Int) then
          nextO (st v8_340 v43_341 (IntKind.i64.wrap ((gt v8_340 v43_341) + 1)), IntKind.i64.wrap (v43_341 + 1))
        else none
      else none
    else
      inrO (
        if 0 ≤ ((gt x_221 v26_312).A) ∧ ((gt x_221 v26_312).A) < (v8_340.length : Int) then
          if (decide ((IntKind.i64.wrap (v9_310 + 1)) ≥ a2_8)) = true then
            (go_slices_Max_int_int (st v8_340 ((gt x_221 v26_312).A) 0)).bind fun x_353 =>
            go_entry_Fair_j10 x_221 v9_310 v10_311 v26_312 v8_340 (decide (x_353 ≥ a2_8))
          else
            go_entry_Fair_j10 x_221 v9_310 v10_311 v26_312 v8_340 false
        else none)

noncomputable def go_entry_Fair_s7 (a1_7 : Int) (a2_8 : Int) (x_221 : List api_Entry) : ((List Int) × Int × Bool × Int) → Option (((List Int) × Int × Bool × Int) ⊕ (Bool × Int))
  | (v8_309, v9_310, v10_311, v26_312) =>
    if (decide (v26_312 < (x_221.length : Int))) = true then
      if 0 ≤ v26_312 ∧ v26_312 < (x_221.length : Int) then
        if ((decide (((gt x_221 v26_312).A) < 0)) || (decide (((gt x_221 v26_312).A) ≥ a1_7))) = true then
          inrO (
            some (false, 0))
        else
          whileO (go_entry_Fair_s9 a2_8 x_221 v8_309 v9_310 v10_311 v26_312) (v8_309, 0)
      else none
    else
      inrO (
        some (v10_311, 0))

noncomputable def go_entry_Fair (a0_6 : List api_Entry) (a1_7 : Int) (a2_8 : Int) : Option (Bool × Int) :=
  if ((!(go_entry_within a1_7 1 64)) || (decide (a2_8 < 1))) = true then
    some (false, 1)
  else
    if 0 ≤ a1_7 ∧ a1_7 ≤ a1_7 ∧ a1_7 ≤ 549755813888 then
      (go_entry_Only a0_6 0).bind fun x_221 =>
      whileO (go_entry_Fair_s7 a1_7 a2_8 x_221) (List.replicate (Int.toNat a1_7) (0 : Int), 0, true, 0)
    else none

theorem go_entry_Fair_sc (a0_6 : List api_Entry) (a1_7 : Int) (a2_8 : Int) (r : Bool × Int) (h : go_entry_Fair a0_6 a1_7 a2_8 = some r) : SC Try.prog gl 9 [V.sl 3 (rws api_Entry.cells a0_6), V.int .i64 a1_7, V.int .i64 a2_8] (V.tup [V.bool r.1, V.int .i64 r.2]) := by
  rw [go_entry_Fair] at h
  refine SC.of E_good Try.func9 rfl (fun _ _ => Try.call9 _ _) rfl ?_
  repeat (first | refine Safe.seq ?_ | refine Safe.skip ?_ | with_reducible refine thenQ.n ?_ | with_reducible refine blockQ.n ?_)
  refine Safe.region ?_
  refine SafeOps.quiet0 E_good rfl rfl rfl (v := V.bool false) (.fn rfl) ?_
  refine SafeOps.quiet0 E_good rfl rfl rfl (v := V.int .i64 0) (.fn rfl) ?_
  refine SafeOps.nil ?_
  repeat (first | refine Safe.seq ?_ | refine Safe.skip ?_ | with_reducible refine thenQ.n ?_ | with_reducible refine blockQ.n ?_)
  refine Safe.region ?_
  refine SafeOps.quiet0 E_good rfl rfl rfl (v := V.int .i64 a1_7) (.fn rfl) ?_
  refine SafeOps.quiet0 E_good rfl rfl rfl (v := V.bool (go_entry_within a1_7 1 64)) (.callP rfl rfl (go_entry_within_sc a1_7 1 64 _ rfl) rfl) ?_
  refine SafeOps.quiet0 E_good rfl rfl rfl (v := V.bool (!(go_entry_within a1_7 1 64))) (.fn rfl) ?_
  refine SafeOps.quiet0 E_good rfl rfl rfl (v := V.bool (!(go_entry_within a1_7 1 64))) (.fn rfl) ?_
  refine SafeOps.bjoin 3 20 (b := ((!(go_entry_within a1_7 1 64)) || (decide (a2_8 < 1)))) (b1 := true) (b0 := decide (a2_8 < 1)) (fun hc218 K => ?_) (fun hc218 K => ?_) bj_or ?_
  · skip
    refine SafeOps.skip (congrArg (fun b => some (!b)) hc218) rfl rfl ?_
    refine SafeOps.skip (congrArg (fun b => some (!b)) hc218) rfl rfl ?_
    refine SafeOps.quiet0 E_good rfl rfl rfl (v := V.bool true) (.pickK rfl hc218 rfl) ?_
    exact SafeOps.drop' 3 rfl rfl rfl K
  · skip
    refine SafeOps.quiet0 E_good (congrArg (fun b => some (!b)) hc218) rfl rfl (v := V.int .i64 a2_8) (.fn rfl) ?_
    refine SafeOps.quiet0 E_good (congrArg (fun b => some (!b)) hc218) rfl rfl (v := V.bool (decide (a2_8 < 1))) (.fn rfl) ?_
    refine SafeOps.quiet0 E_good rfl rfl rfl (v := V.bool (decide (a2_8 < 1))) (.pickK rfl hc218 rfl) ?_
    exact SafeOps.drop' 3 rfl rfl rfl K
  refine SafeOps.nil ?_
  repeat (first | refine Safe.seq ?_ | refine Safe.skip ?_ | with_reducible refine thenQ.n ?_ | with_reducible refine blockQ.n ?_)
  refine ifG h (fun hc219 h => ?_) (fun hc219 h => ?_)
  · skip
    refine Safe.condK rfl hc219 ?_
    repeat (first | refine Safe.seq ?_ | refine Safe.skip ?_ | with_reducible refine thenQ.n ?_ | with_reducible refine blockQ.n ?_)
    refine Safe.region ?_
    refine SafeOps.quiet0 E_good rfl rfl rfl (v := V.bool false) (.fn rfl) ?_
    refine SafeOps.quiet0 E_good rfl rfl rfl (v := V.int .i64 1) (.fn rfl) ?_
    refine SafeOps.nil ?_
    repeat (first | refine Safe.seq ?_ | refine Safe.skip ?_ | with_reducible refine thenQ.n ?_ | with_reducible refine blockQ.n ?_)
    refine Safe.ret ?_
    repeat (first | with_reducible refine thenQ.r ?_ | with_reducible refine blockQ.r ?_)
    obtain rfl := Option.some.inj h
    exact retQ.gen (vs := [V.bool false, V.int .i64 1]) rfl (.tmp (v := V.bool false) rfl (.tmp (v := V.int .i64 1) rfl .nil)) (.free rfl) (by simp) (.inr rfl)
  · skip
    refine Safe.condN rfl hc219 ?_
    repeat (first | refine Safe.seq ?_ | refine Safe.skip ?_ | with_reducible refine thenQ.n ?_ | with_reducible refine blockQ.n ?_)
    refine Safe.region ?_
    refine SafeOps.quiet0 E_good rfl rfl rfl (v := V.int .i64 a1_7) (.fn rfl) ?_
    refine okG h (fun hb220 h => ?_)
    refine SafeOps.quiet1 E_good rfl rfl rfl (.makeM (f := (fun n => [V.int .i64 n])) (d := (0 : Int)) rfl rfl rfl rfl hb220 rfl rfl rfl) rfl ?_
    refine SafeOps.quiet0 E_good rfl rfl rfl (v := V.ref [22] 0 (rws (fun n => [V.int .i64 n]) (List.replicate (Int.toNat a1_7) (0 : Int))).length) (.fn rfl) ?_
    refine SafeOps.quiet0 E_good rfl rfl rfl (v := V.int .i64 0) (.fn rfl) ?_
    refine SafeOps.nil ?_
    repeat (first | refine Safe.seq ?_ | refine Safe.skip ?_ | with_reducible refine thenQ.n ?_ | with_reducible refine blockQ.n ?_)
    refine Safe.region ?_
    refine SafeOps.quiet0 E_good rfl rfl rfl (v := V.bool true) (.fn rfl) ?_
    refine SafeOps.nil ?_
    repeat (first | refine Safe.seq ?_ | refine Safe.skip ?_ | with_reducible refine thenQ.n ?_ | with_reducible refine blockQ.n ?_)
    refine Safe.region ?_
    refine SafeOps.quiet0 E_good rfl rfl rfl (v := V.sl 3 (rws api_Entry.cells a0_6)) (.fn rfl) ?_
    refine bindG h ?_
    intro x_221 he222 h
    refine SafeOps.quiet E_good rfl rfl rfl (v := V.ref [24, 0] 0 (rws api_Entry.cells x_221).length) (.callP rfl rfl (go_entry_Only_sc a0_6 0 _ he222) rfl) rfl ?_
    refine SafeOps.quiet0 E_good rfl rfl rfl (v := V.int .i64 (x_221.length : Int)) (.fnE rfl lenE) ?_
    refine SafeOps.quiet0 E_good rfl rfl rfl (v := V.int .i64 0) (.fn rfl) ?_
    refine SafeOps.nil ?_
    repeat (first | refine Safe.seq ?_ | refine Safe.skip ?_ | with_reducible refine thenQ.n ?_ | with_reducible refine blockQ.n ?_)
    refine Safe.block ?_
    repeat (first | refine Safe.seq ?_ | refine Safe.skip ?_ | with_reducible refine thenQ.n ?_ | with_reducible refine blockQ.n ?_)
    refine Safe.loopW (fun ((v8_309, v9_310, v10_311, v26_312) : (List Int) × Int × Bool × Int) => ⟨Try.f9.ntmps, [(1, V.int .i64 a1_7), (2, V.int .i64 a2_8), (8, V.ref [22] 0 (rws (fun n => [V.int .i64 n]) v8_309).length), (9, V.int .i64 v9_310), (10, V.bool v10_311), (24, V.ref [24, 0] 0 (rws api_Entry.cells x_221).length), (25, V.int .i64 (x_221.length : Int)), (26, V.int .i64 v26_312)], [([22], Obj.rows 1 (rws (fun n => [V.int .i64 n]) v8_309) false), ([24, 0], Obj.rows 3 (rws api_Entry.cells x_221) false)], [], []⟩) h (.cov ⟨rfl, rfl, (upT_cons (.refl _) (upT_cons (.refl _) (upT_cons (.refl _) (upT_cons (.refl _) (upT_cons (.refl _) (upT_cons (.refl _) (upT_cons (.refl _) (upT_cons (.refl _) upT_nil)))))))), (upOb_cons rfl (.refl _) (upOb_cons rfl (.refl _) upOb_nil)), upOut_nil, rfl⟩) ?_
    rintro ⟨v8_309, v9_310, v10_311, v26_312⟩ ohr313 h hr313
    replace h : go_entry_Fair_s7 a1_7 a2_8 x_221 (v8_309, v9_310, v10_311, v26_312) = some ohr313 := h
    rw [go_entry_Fair_s7] at h
    repeat (first | refine Safe.seq ?_ | refine Safe.skip ?_ | with_reducible refine thenQ.n ?_ | with_reducible refine blockQ.n ?_)
    refine Safe.region ?_
    refine SafeOps.quiet0 E_good rfl rfl rfl (v := V.bool (decide (v26_312 < (x_221.length : Int)))) (.fn rfl) ?_
    refine SafeOps.nil ?_
    repeat (first | refine Safe.seq ?_ | refine Safe.skip ?_ | with_reducible refine thenQ.n ?_ | with_reducible refine blockQ.n ?_)
    refine ifG h (fun hc314 h => ?_) (fun hc314 h => ?_)
    · skip
      refine Safe.condK rfl hc314 ?_
      repeat (first | refine Safe.seq ?_ | refine Safe.skip ?_ | with_reducible refine thenQ.n ?_ | with_reducible refine blockQ.n ?_)
      refine Safe.block ?_
      repeat (first | refine Safe.seq ?_ | refine Safe.skip ?_ | with_reducible refine thenQ.n ?_ | with_reducible refine blockQ.n ?_)
      refine Safe.region ?_
      refine okG h (fun hb315 h => ?_)
      refine SafeOps.quiet0 E_good rfl rfl rfl (v := V.ptr [24, 0] (0 + Int.toNat v26_312) 0) (.idxRefM (f := api_Entry.cells) (xs := x_221) rfl rfl rfl rfl rfl rfl hb315) ?_
      refine SafeOps.quiet0 E_good rfl rfl rfl (v := V.agg [V.int .i64 ((gt x_221 v26_312).Kind), V.int .i64 ((gt x_221 v26_312).A), V.int .i64 ((gt x_221 v26_312).B)]) (.load rfl rfl (.rowsM (f := api_Entry.cells) (xs := x_221) hb315 rfl rfl) rfl) ?_
      refine SafeOps.quiet1 E_good rfl rfl rfl (.alloc rfl rfl) rfl ?_
      refine SafeOps.store (z := Obj.box [V.int .i64 ((gt x_221 v26_312).Kind), V.int .i64 ((gt x_221 v26_312).A), V.int .i64 ((gt x_221 v26_312).B)]) E_good rfl rfl rfl rfl rfl rfl rfl (.boxM (c := 3) rfl rfl (Nat.le_of_ble_eq_true rfl) rfl) ?_
      refine SafeOps.nil ?_
      repeat (first | refine Safe.seq ?_ | refine Safe.skip ?_ | with_reducible refine thenQ.n ?_ | with_reducible refine blockQ.n ?_)
      refine Safe.region ?_
      refine SafeOps.quiet0 E_good rfl rfl rfl (v := V.ptr [12] 0 1) (.fn rfl) ?_
      refine SafeOps.quiet0 E_good rfl rfl rfl (v := V.int .i64 ((gt x_221 v26_312).A)) (.load rfl rfl (.box rfl rfl) rfl) ?_
      refine SafeOps.quiet0 E_good rfl rfl rfl (v := V.bool (decide (((gt x_221 v26_312).A) < 0))) (.fn rfl) ?_
      refine SafeOps.quiet0 E_good rfl rfl rfl (v := V.bool (decide (((gt x_221 v26_312).A) < 0))) (.fn rfl) ?_
      refine SafeOps.bjoin 5 38 (b := ((decide (((gt x_221 v26_312).A) < 0)) || (decide (((gt x_221 v26_312).A) ≥ a1_7)))) (b1 := true) (b0 := decide (((gt x_221 v26_312).A) ≥ a1_7)) (fun hc316 K => ?_) (fun hc316 K => ?_) bj_or ?_
      · skip
        refine SafeOps.skip (congrArg (fun b => some (!b)) hc316) rfl rfl ?_
        refine SafeOps.skip (congrArg (fun b => some (!b)) hc316) rfl rfl ?_
        refine SafeOps.skip (congrArg (fun b => some (!b)) hc316) rfl rfl ?_
        refine SafeOps.skip (congrArg (fun b => some (!b)) hc316) rfl rfl ?_
        refine SafeOps.quiet0 E_good rfl rfl rfl (v := V.bool true) (.pickK rfl hc316 rfl) ?_
        exact SafeOps.drop' 5 rfl rfl rfl K
      · skip
        refine SafeOps.quiet0 E_good (congrArg (fun b => some (!b)) hc316) rfl rfl (v := V.ptr [12] 0 1) (.fn rfl) ?_
        refine SafeOps.quiet0 E_good (congrArg (fun b => some (!b)) hc316) rfl rfl (v := V.int .i64 ((gt x_221 v26_312).A)) (.load rfl rfl (.box rfl rfl) rfl) ?_
        refine SafeOps.quiet0 E_good (congrArg (fun b => some (!b)) hc316) rfl rfl (v := V.int .i64 a1_7) (.fn rfl) ?_
        refine SafeOps.quiet0 E_good (congrArg (fun b => some (!b)) hc316) rfl rfl (v := V.bool (decide (((gt x_221 v26_312).A) ≥ a1_7))) (.fn rfl) ?_
        refine SafeOps.quiet0 E_good rfl rfl rfl (v := V.bool (decide (((gt x_221 v26_312).A) ≥ a1_7))) (.pickK rfl hc316 rfl) ?_
        exact SafeOps.drop' 5 rfl rfl rfl K
      refine SafeOps.nil ?_
      repeat (first | refine Safe.seq ?_ | refine Safe.skip ?_ | with_reducible refine thenQ.n ?_ | with_reducible refine blockQ.n ?_)
      refine ifG h (fun hc317 h => ?_) (fun hc317 h => ?_)
      · skip
        refine Safe.condK rfl hc317 ?_
        repeat (first | refine Safe.seq ?_ | refine Safe.skip ?_ | with_reducible refine thenQ.n ?_ | with_reducible refine blockQ.n ?_)
        refine Safe.region ?_
        refine SafeOps.quiet0 E_good rfl rfl rfl (v := V.bool false) (.fn rfl) ?_
        refine SafeOps.quiet0 E_good rfl rfl rfl (v := V.int .i64 0) (.fn rfl) ?_
        refine SafeOps.nil ?_
        repeat (first | refine Safe.seq ?_ | refine Safe.skip ?_ | with_reducible refine thenQ.n ?_ | with_reducible refine blockQ.n ?_)
        refine Safe.ret ?_
        repeat (first | with_reducible refine thenQ.r ?_ | with_reducible refine blockQ.r ?_)
        replace h := inr_out h hr313
        obtain rfl := Option.some.inj h
        exact retQ.gen (vs := [V.bool false, V.int .i64 0]) rfl (.tmp (v := V.bool false) rfl (.tmp (v := V.int .i64 0) rfl .nil)) (.free rfl) (by simp) (.inr rfl)
      · skip
        refine Safe.condN rfl hc317 ?_
        repeat (first | refine Safe.seq ?_ | refine Safe.skip ?_ | with_reducible refine thenQ.n ?_ | with_reducible refine blockQ.n ?_)
        refine Safe.region ?_
        refine SafeOps.quiet0 E_good rfl rfl rfl (v := V.int .i64 v9_310) (.fn rfl) ?_
        refine SafeOps.quiet0 E_good rfl rfl rfl (v := V.int .i64 (IntKind.i64.wrap (v9_310 + 1))) (.fn rfl) ?_
        refine SafeOps.quiet0 E_good rfl rfl rfl (v := V.int .i64 (IntKind.i64.wrap (v9_310 + 1))) (.fn rfl) ?_
        refine SafeOps.nil ?_
        repeat (first | refine Safe.seq ?_ | refine Safe.skip ?_ | with_reducible refine thenQ.n ?_ | with_reducible refine blockQ.n ?_)
        refine Safe.region ?_
        refine SafeOps.quiet0 E_good rfl rfl rfl (v := V.ref [22] 0 (rws (fun n => [V.int .i64 n]) v8_309).length) (.fn rfl) ?_
        refine SafeOps.quiet0 E_good rfl rfl rfl (v := V.int .i64 (v8_309.length : Int)) (.fnE rfl lenE) ?_
        refine SafeOps.quiet0 E_good rfl rfl rfl (v := V.int .i64 0) (.fn rfl) ?_
        refine SafeOps.nil ?_
        repeat (first | refine Safe.seq ?_ | refine Safe.skip ?_ | with_reducible refine thenQ.n ?_ | with_reducible refine blockQ.n ?_)
        refine Safe.block ?_
        repeat (first | refine Safe.seq ?_ | refine Safe.skip ?_ | with_reducible refine thenQ.n ?_ | with_reducible refine blockQ.n ?_)
        refine Safe.loopW (fun ((v8_340, v43_341) : (List Int) × Int) => ⟨Try.f9.ntmps, [(1, V.int .i64 a1_7), (2, V.int .i64 a2_8), (8, V.ref [22] 0 (rws (fun n => [V.int .i64 n]) v8_340).length), (9, V.int .i64 (IntKind.i64.wrap (v9_310 + 1))), (10, V.bool v10_311), (12, V.ptr [12] 0 0), (24, V.ref [24, 0] 0 (rws api_Entry.cells x_221).length), (25, V.int .i64 (x_221.length : Int)), (26, V.int .i64 v26_312), (42, V.int .i64 (v8_309.length : Int)), (43, V.int .i64 v43_341)], [([12], Obj.box [V.int .i64 ((gt x_221 v26_312).Kind), V.int .i64 ((gt x_221 v26_312).A), V.int .i64 ((gt x_221 v26_312).B)]), ([22], Obj.rows 1 (rws (fun n => [V.int .i64 n]) v8_340) false), ([24, 0], Obj.rows 3 (rws api_Entry.cells x_221) false)], [], []⟩) h (.cov ⟨rfl, rfl, (upT_cons (.refl _) (upT_cons (.refl _) (upT_cons (.refl _) (upT_cons (.refl _) (upT_cons (.refl _) (upT_cons (.refl _) (upT_cons (.refl _) (upT_cons (.refl _) (upT_cons (.refl _) (upT_cons (.refl _) (upT_cons (.refl _) upT_nil))))))))))), (upOb_cons rfl (.refl _) (upOb_cons rfl (.refl _) (upOb_cons rfl (.refl _) upOb_nil))), upOut_nil, rfl⟩) ?_
        rintro ⟨v8_340, v43_341⟩ ohr342 h hr342
        replace h : go_entry_Fair_s9 a2_8 x_221 v8_309 v9_310 v10_311 v26_312 (v8_340, v43_341) = some ohr342 := h
        rw [go_entry_Fair_s9] at h
        repeat (first | refine Safe.seq ?_ | refine Safe.skip ?_ | with_reducible refine thenQ.n ?_ | with_reducible refine blockQ.n ?_)
        refine Safe.region ?_
        refine SafeOps.quiet0 E_good rfl rfl rfl (v := V.bool (decide (v43_341 < (v8_309.length : Int)))) (.fn rfl) ?_
        refine SafeOps.nil ?_
        repeat (first | refine Safe.seq ?_ | refine Safe.skip ?_ | with_reducible refine thenQ.n ?_ | with_reducible refine blockQ.n ?_)
        refine ifG h (fun hc343 h => ?_) (fun hc343 h => ?_)
        · skip
          refine Safe.condK rfl hc343 ?_
          repeat (first | refine Safe.seq ?_ | refine Safe.skip ?_ | with_reducible refine thenQ.n ?_ | with_reducible refine blockQ.n ?_)
          refine Safe.block ?_
          repeat (first | refine Safe.seq ?_ | refine Safe.skip ?_ | with_reducible refine thenQ.n ?_ | with_reducible refine blockQ.n ?_)
          refine Safe.region ?_
          refine SafeOps.quiet0 E_good rfl rfl rfl (v := V.int .i64 v43_341) (.fn rfl) ?_
          refine SafeOps.quiet0 E_good rfl rfl rfl (v := V.int .i64 v43_341) (.fn rfl) ?_
          refine SafeOps.nil ?_
          repeat (first | refine Safe.seq ?_ | refine Safe.skip ?_ | with_reducible refine thenQ.n ?_ | with_reducible refine blockQ.n ?_)
          refine Safe.region ?_
          refine SafeOps.quiet0 E_good rfl rfl rfl (v := V.ref [22] 0 (rws (fun n => [V.int .i64 n]) v8_340).length) (.fn rfl) ?_
          refine SafeOps.quiet0 E_good rfl rfl rfl (v := V.int .i64 v43_341) (.fn rfl) ?_
          refine okG h (fun hb344 h => ?_)
          refine SafeOps.quiet0 E_good rfl rfl rfl (v := V.ptr [22] (0 + Int.toNat v43_341) 0) (.idxRefM (f := (fun n => [V.int .i64 n])) (xs := v8_340) rfl rfl rfl rfl rfl rfl hb344) ?_
          refine SafeOps.quiet0 E_good rfl rfl rfl (v := V.int .i64 (gt v8_340 v43_341)) (.load rfl rfl (.rowsM (f := (fun n => [V.int .i64 n])) (xs := v8_340) hb344 rfl rfl) rfl) ?_
          refine SafeOps.quiet0 E_good rfl rfl rfl (v := V.int .i64 (IntKind.i64.wrap ((gt v8_340 v43_341) + 1))) (.fn rfl) ?_
          refine okG h (fun hb345 h => ?_)
          refine SafeOps.quiet0 E_good rfl rfl rfl (v := V.ptr [22] (0 + Int.toNat v43_341) 0) (.idxRefM (f := (fun n => [V.int .i64 n])) (xs := v8_340) rfl rfl rfl rfl rfl rfl hb345) ?_
          refine SafeOps.store (z := Obj.rows 1 (rws (fun n => [V.int .i64 n]) (st v8_340 v43_341 (IntKind.i64.wrap ((gt v8_340 v43_341) + 1)))) false) E_good rfl rfl rfl rfl rfl rfl rfl (.rowsM (f := (fun n => [V.int .i64 n])) (xs := v8_340) (y := IntKind.i64.wrap ((gt v8_340 v43_341) + 1)) hb345 rfl rfl rfl rfl) ?_
          refine SafeOps.see 8 (u := V.ref [22] 0 (rws (fun n => [V.int .i64 n]) (st v8_340 v43_341 (IntKind.i64.wrap ((gt v8_340 v43_341) + 1)))).length) rfl (.len (by simp [rws, st])) ?_
          refine SafeOps.see 46 (u := V.ref [22] 0 (rws (fun n => [V.int .i64 n]) (st v8_340 v43_341 (IntKind.i64.wrap ((gt v8_340 v43_341) + 1)))).length) rfl (.len (by simp [rws, st])) ?_
          refine SafeOps.nil ?_
          repeat (first | refine Safe.seq ?_ | refine Safe.skip ?_ | with_reducible refine thenQ.n ?_ | with_reducible refine blockQ.n ?_)
          refine Safe.region ?_
          refine SafeOps.quiet0 E_good rfl rfl rfl (v := V.int .i64 (IntKind.i64.wrap (v43_341 + 1))) (.fn rfl) ?_
          refine SafeOps.quiet0 E_good rfl rfl rfl (v := V.int .i64 (IntKind.i64.wrap (v43_341 + 1))) (.fn rfl) ?_
          refine SafeOps.nil ?_
          repeat (first | refine Safe.seq ?_ | refine Safe.skip ?_ | with_reducible refine thenQ.n ?_ | with_reducible refine blockQ.n ?_)
          exact ⟨_, next_out h, (.cov ⟨rfl, rfl, (upT_cons (.refl _) (upT_cons (.refl _) (upT_cons (.refl _) (upT_cons (.refl _) (upT_cons (.refl _) (upT_cons (.refl _) (upT_cons (.refl _) (upT_cons (.refl _) (upT_cons (.refl _) (upT_cons (.refl _) (upT_cons (.refl _) upT_nil))))))))))), (upOb_cons rfl (.refl _) (upOb_cons rfl (.refl _) (upOb_cons rfl (.refl _) upOb_nil))), upOut_nil, rfl⟩)⟩
        · skip
          refine Safe.condN rfl hc343 ?_
          repeat (first | refine Safe.seq ?_ | refine Safe.skip ?_ | with_reducible refine thenQ.n ?_ | with_reducible refine blockQ.n ?_)
          refine Safe.exit ?_
          repeat (first | with_reducible refine thenQ.e ?_ | with_reducible refine blockQ.x rfl ?_ | with_reducible refine blockQ.y rfl ?_)
          replace h := inr_out h hr342
          repeat (first | refine Safe.seq ?_ | refine Safe.skip ?_ | with_reducible refine thenQ.n ?_ | with_reducible refine blockQ.n ?_)
          refine Safe.region ?_
          refine SafeOps.quiet0 E_good rfl rfl rfl (v := V.ref [22] 0 (rws (fun n => [V.int .i64 n]) v8_340).length) (.fn rfl) ?_
          refine SafeOps.quiet0 E_good rfl rfl rfl (v := V.ptr [12] 0 1) (.fn rfl) ?_
          refine SafeOps.quiet0 E_good rfl rfl rfl (v := V.int .i64 ((gt x_221 v26_312).A)) (.load rfl rfl (.box rfl rfl) rfl) ?_
          refine okG h (fun hb346 h => ?_)
          refine SafeOps.quiet0 E_good rfl rfl rfl (v := V.ptr [22] (0 + Int.toNat ((gt x_221 v26_312).A)) 0) (.idxRefM (f := (fun n => [V.int .i64 n])) (xs := v8_340) rfl rfl rfl rfl rfl rfl hb346) ?_
          refine SafeOps.store (z := Obj.rows 1 (rws (fun n => [V.int .i64 n]) (st v8_340 ((gt x_221 v26_312).A) 0)) false) E_good rfl rfl rfl rfl rfl rfl rfl (.rowsM (f := (fun n => [V.int .i64 n])) (xs := v8_340) (y := 0) hb346 rfl rfl rfl rfl) ?_
          refine SafeOps.see 8 (u := V.ref [22] 0 (rws (fun n => [V.int .i64 n]) (st v8_340 ((gt x_221 v26_312).A) 0)).length) rfl (.len (by simp [rws, st])) ?_
          refine SafeOps.see 53 (u := V.ref [22] 0 (rws (fun n => [V.int .i64 n]) (st v8_340 ((gt x_221 v26_312).A) 0)).length) rfl (.len (by simp [rws, st])) ?_
          refine SafeOps.nil ?_
          repeat (first | refine Safe.seq ?_ | refine Safe.skip ?_ | with_reducible refine thenQ.n ?_ | with_reducible refine blockQ.n ?_)
          refine Safe.region ?_
          refine SafeOps.quiet0 E_good rfl rfl rfl (v := V.int .i64 (IntKind.i64.wrap (v9_310 + 1))) (.fn rfl) ?_
          refine SafeOps.quiet0 E_good rfl rfl rfl (v := V.int .i64 a2_8) (.fn rfl) ?_
          refine SafeOps.quiet0 E_good rfl rfl rfl (v := V.bool (decide ((IntKind.i64.wrap (v9_310 + 1)) ≥ a2_8))) (.fn rfl) ?_
          refine SafeOps.quiet0 E_good rfl rfl rfl (v := V.bool (decide ((IntKind.i64.wrap (v9_310 + 1)) ≥ a2_8))) (.fn rfl) ?_
          refine SafeOps.bsplit 5 65 (fun b_350 => go_entry_Fair_j10 x_221 v9_310 v10_311 v26_312 v8_340 b_350 = some ohr313) (fun HJ351 => ?_) (fun b_350 h => ?_)
          · refine ifG h (fun hc347 h => ?_) (fun hc347 h => ?_)
            · skip
              refine SafeOps.quiet0 E_good (congrArg some hc347) rfl rfl (v := V.ref [22] 0 (rws (fun n => [V.int .i64 n]) (st v8_340 ((gt x_221 v26_312).A) 0)).length) (.fn rfl) ?_
              refine bindG h ?_
              intro x_353 he354 h
              refine SafeOps.quiet0 E_good (congrArg some hc347) rfl rfl (v := V.int .i64 x_353) (.callS rfl (.cons (.full rfl rfl) .nil) (go_slices_Max_int_int_sc (st v8_340 ((gt x_221 v26_312).A) 0) _ he354) (.plain rfl) rfl) ?_
              refine SafeOps.quiet0 E_good (congrArg some hc347) rfl rfl (v := V.int .i64 a2_8) (.fn rfl) ?_
              refine SafeOps.quiet0 E_good (congrArg some hc347) rfl rfl (v := V.bool (decide (x_353 ≥ a2_8))) (.fn rfl) ?_
              refine SafeOps.quiet0 E_good rfl rfl rfl (v := V.bool (decide (x_353 ≥ a2_8))) (.pickK rfl hc347 rfl) ?_
              exact SafeOps.drop' 5 rfl rfl rfl (HJ351 _ h)
            · skip
              refine SafeOps.skip (congrArg some hc347) rfl rfl ?_
              refine SafeOps.skip (congrArg some hc347) rfl rfl ?_
              refine SafeOps.skip (congrArg some hc347) rfl rfl ?_
              refine SafeOps.skip (congrArg some hc347) rfl rfl ?_
              refine SafeOps.quiet0 E_good rfl rfl rfl (v := V.bool false) (.pickK rfl hc347 rfl) ?_
              exact SafeOps.drop' 5 rfl rfl rfl (HJ351 _ h)
          · replace h : go_entry_Fair_j10 x_221 v9_310 v10_311 v26_312 v8_340 b_350 = some ohr313 := h
            rw [go_entry_Fair_j10] at h
            refine SafeOps.nil ?_
            repeat (first | refine Safe.seq ?_ | refine Safe.skip ?_ | with_reducible refine thenQ.n ?_ | with_reducible refine blockQ.n ?_)
            refine ifG h (fun hc352 h => ?_) (fun hc352 h => ?_)
            · skip
              refine Safe.condK rfl hc352 ?_
              repeat (first | refine Safe.seq ?_ | refine Safe.skip ?_ | with_reducible refine thenQ.n ?_ | with_reducible refine blockQ.n ?_)
              refine Safe.region ?_
              refine SafeOps.quiet0 E_good rfl rfl rfl (v := V.bool false) (.fn rfl) ?_
              refine SafeOps.nil ?_
              repeat (first | refine Safe.seq ?_ | refine Safe.skip ?_ | with_reducible refine thenQ.n ?_ | with_reducible refine blockQ.n ?_)
              refine Safe.region ?_
              refine SafeOps.quiet0 E_good rfl rfl rfl (v := V.int .i64 (IntKind.i64.wrap (v26_312 + 1))) (.fn rfl) ?_
              refine SafeOps.quiet0 E_good rfl rfl rfl (v := V.int .i64 (IntKind.i64.wrap (v26_312 + 1))) (.fn rfl) ?_
              refine SafeOps.nil ?_
              repeat (first | refine Safe.seq ?_ | refine Safe.skip ?_ | with_reducible refine thenQ.n ?_ | with_reducible refine blockQ.n ?_)
              exact ⟨_, next_out h, (.cov ⟨rfl, rfl, (upT_cons (.refl _) (upT_cons (.refl _) (upT_cons (.refl _) (upT_cons (.refl _) (upT_cons (.refl _) (upT_cons (.refl _) (upT_cons (.refl _) (upT_cons (.refl _) upT_nil)))))))), (upOb_cons rfl (.refl _) (upOb_cons rfl (.refl _) upOb_nil)), upOut_nil, rfl⟩)⟩
            · skip
              refine Safe.condN rfl hc352 ?_
              repeat (first | refine Safe.seq ?_ | refine Safe.skip ?_ | with_reducible refine thenQ.n ?_ | with_reducible refine blockQ.n ?_)
              refine Safe.region ?_
              refine SafeOps.quiet0 E_good rfl rfl rfl (v := V.int .i64 (IntKind.i64.wrap (v26_312 + 1))) (.fn rfl) ?_
              refine SafeOps.quiet0 E_good rfl rfl rfl (v := V.int .i64 (IntKind.i64.wrap (v26_312 + 1))) (.fn rfl) ?_
              refine SafeOps.nil ?_
              repeat (first | refine Safe.seq ?_ | refine Safe.skip ?_ | with_reducible refine thenQ.n ?_ | with_reducible refine blockQ.n ?_)
              exact ⟨_, next_out h, (.cov ⟨rfl, rfl, (upT_cons (.refl _) (upT_cons (.refl _) (upT_cons (.refl _) (upT_cons (.refl _) (upT_cons (.refl _) (upT_cons (.refl _) (upT_cons (.refl _) (upT_cons (.refl _) upT_nil)))))))), (upOb_cons rfl (.refl _) (upOb_cons rfl (.refl _) upOb_nil)), upOut_nil, rfl⟩)⟩
    · skip
      refine Safe.condN rfl hc314 ?_
      repeat (first | refine Safe.seq ?_ | refine Safe.skip ?_ | with_reducible refine thenQ.n ?_ | with_reducible refine blockQ.n ?_)
      refine Safe.exit ?_
      repeat (first | with_reducible refine thenQ.e ?_ | with_reducible refine blockQ.x rfl ?_ | with_reducible refine blockQ.y rfl ?_)
      replace h := inr_out h hr313
      repeat (first | refine Safe.seq ?_ | refine Safe.skip ?_ | with_reducible refine thenQ.n ?_ | with_reducible refine blockQ.n ?_)
      refine Safe.region ?_
      refine SafeOps.quiet0 E_good rfl rfl rfl (v := V.bool v10_311) (.fn rfl) ?_
      refine SafeOps.quiet0 E_good rfl rfl rfl (v := V.bool v10_311) (.fn rfl) ?_
      refine SafeOps.quiet0 E_good rfl rfl rfl (v := V.int .i64 0) (.fn rfl) ?_
      refine SafeOps.nil ?_
      repeat (first | refine Safe.seq ?_ | refine Safe.skip ?_ | with_reducible refine thenQ.n ?_ | with_reducible refine blockQ.n ?_)
      refine Safe.ret ?_
      repeat (first | with_reducible refine thenQ.r ?_ | with_reducible refine blockQ.r ?_)
      obtain rfl := Option.some.inj h
      exact retQ.gen (vs := [V.bool v10_311, V.int .i64 0]) rfl (.tmp (v := V.bool v10_311) rfl (.tmp (v := V.int .i64 0) rfl .nil)) (.free rfl) (by simp) (.inr rfl)

def go_entry_bad_j2 (a0_366 : api_Entry) (v3_387 : Int) (v4_388 : Int) : Bool :=
  (((!(go_entry_within a0_366.Kind 0 7)) || (!(go_entry_within a0_366.A 0 v3_387))) || (!(go_entry_within a0_366.B 0 v4_388)))

def go_entry_bad_j3 (a0_366 : api_Entry) (v7_392 : Bool) : Bool :=
  if v7_392 = true then
    go_entry_bad_j2 a0_366 255 255
  else
    if (a0_366.Kind == 7) = true then
      go_entry_bad_j2 a0_366 0 0
    else
      go_entry_bad_j2 a0_366 255 0

def go_entry_bad (a0_366 : api_Entry) : Bool :=
  if (a0_366.Kind == 1) = true then
    go_entry_bad_j3 a0_366 (a0_366.Kind == 1)
  else
    go_entry_bad_j3 a0_366 (a0_366.Kind == 4)

theorem go_entry_bad_sc (a0_366 : api_Entry) (r : Bool) (h : go_entry_bad a0_366 = r) : SC Try.prog gl 28 [V.agg [V.int .i64 a0_366.Kind, V.int .i64 a0_366.A, V.int .i64 a0_366.B]] (V.bool r) := by
  rw [go_entry_bad] at h
  refine SC.of E_good Try.func28 rfl (fun _ _ => Try.call28 _ _) rfl ?_
  repeat (first | refine Safe.seq ?_ | refine Safe.skip ?_ | with_reducible refine thenQ.n ?_ | with_reducible refine blockQ.n ?_)
  refine Safe.region ?_
  refine SafeOps.quiet1 E_good rfl rfl rfl (.box rfl rfl) rfl ?_
  refine SafeOps.quiet0 E_good rfl rfl rfl (v := V.bool false) (.fn rfl) ?_
  refine SafeOps.nil ?_
  repeat (first | refine Safe.seq ?_ | refine Safe.skip ?_ | with_reducible refine thenQ.n ?_ | with_reducible refine blockQ.n ?_)
  refine Safe.region ?_
  refine SafeOps.quiet0 E_good rfl rfl rfl (v := V.int .i64 255) (.fn rfl) ?_
  refine SafeOps.quiet0 E_good rfl rfl rfl (v := V.int .i64 0) (.fn rfl) ?_
  refine SafeOps.nil ?_
  repeat (first | refine Safe.seq ?_ | refine Safe.skip ?_ | with_reducible refine thenQ.n ?_ | with_reducible refine blockQ.n ?_)
  refine Safe.region ?_
  refine SafeOps.quiet0 E_good rfl rfl rfl (v := V.ptr [1] 0 0) (.fn rfl) ?_
  refine SafeOps.quiet0 E_good rfl rfl rfl (v := V.int .i64 a0_366.Kind) (.load rfl rfl (.box rfl rfl) rfl) ?_
  refine SafeOps.nil ?_
  repeat (first | refine Safe.seq ?_ | refine Safe.skip ?_ | with_reducible refine thenQ.n ?_ | with_reducible refine blockQ.n ?_)
  refine Safe.joinT (fun ((v3_387, v4_388) : Int × Int) => go_entry_bad_j2 a0_366 v3_387 v4_388 = r) (fun ((v3_387, v4_388) : Int × Int) => ⟨Try.f28.ntmps, [(1, V.ptr [1] 0 0), (3, V.int .i64 v3_387), (4, V.int .i64 v4_388)], [([1], Obj.box [V.int .i64 a0_366.Kind, V.int .i64 a0_366.A, V.int .i64 a0_366.B])], [], []⟩) ?_ (fun HJ389 => ?_)
  · rintro ⟨v3_387, v4_388⟩ h
    replace h : go_entry_bad_j2 a0_366 v3_387 v4_388 = r := h
    rw [go_entry_bad_j2] at h
    repeat (first | refine Safe.seq ?_ | refine Safe.skip ?_ | with_reducible refine thenQ.n ?_ | with_reducible refine blockQ.n ?_)
    refine Safe.region ?_
    refine SafeOps.quiet0 E_good rfl rfl rfl (v := V.ptr [1] 0 0) (.fn rfl) ?_
    refine SafeOps.quiet0 E_good rfl rfl rfl (v := V.int .i64 a0_366.Kind) (.load rfl rfl (.box rfl rfl) rfl) ?_
    refine SafeOps.quiet0 E_good rfl rfl rfl (v := V.bool (go_entry_within a0_366.Kind 0 7)) (.callP rfl rfl (go_entry_within_sc a0_366.Kind 0 7 _ rfl) rfl) ?_
    refine SafeOps.quiet0 E_good rfl rfl rfl (v := V.bool (!(go_entry_within a0_366.Kind 0 7))) (.fn rfl) ?_
    refine SafeOps.quiet0 E_good rfl rfl rfl (v := V.bool (!(go_entry_within a0_366.Kind 0 7))) (.fn rfl) ?_
    refine SafeOps.bjoin 6 22 (b := ((!(go_entry_within a0_366.Kind 0 7)) || (!(go_entry_within a0_366.A 0 v3_387)))) (b1 := true) (b0 := (!(go_entry_within a0_366.A 0 v3_387))) (fun hc390 K => ?_) (fun hc390 K => ?_) bj_or ?_
    · skip
      refine SafeOps.skip (congrArg (fun b => some (!b)) hc390) rfl rfl ?_
      refine SafeOps.skip (congrArg (fun b => some (!b)) hc390) rfl rfl ?_
      refine SafeOps.skip (congrArg (fun b => some (!b)) hc390) rfl rfl ?_
      refine SafeOps.skip (congrArg (fun b => some (!b)) hc390) rfl rfl ?_
      refine SafeOps.skip (congrArg (fun b => some (!b)) hc390) rfl rfl ?_
      refine SafeOps.quiet0 E_good rfl rfl rfl (v := V.bool true) (.pickK rfl hc390 rfl) ?_
      exact SafeOps.drop' 6 rfl rfl rfl K
    · skip
      refine SafeOps.quiet0 E_good (congrArg (fun b => some (!b)) hc390) rfl rfl (v := V.ptr [1] 0 1) (.fn rfl) ?_
      refine SafeOps.quiet0 E_good (congrArg (fun b => some (!b)) hc390) rfl rfl (v := V.int .i64 a0_366.A) (.load rfl rfl (.box rfl rfl) rfl) ?_
      refine SafeOps.quiet0 E_good (congrArg (fun b => some (!b)) hc390) rfl rfl (v := V.int .i64 v3_387) (.fn rfl) ?_
      refine SafeOps.quiet0 E_good (congrArg (fun b => some (!b)) hc390) rfl rfl (v := V.bool (go_entry_within a0_366.A 0 v3_387)) (.callP rfl rfl (go_entry_within_sc a0_366.A 0 v3_387 _ rfl) rfl) ?_
      refine SafeOps.quiet0 E_good (congrArg (fun b => some (!b)) hc390) rfl rfl (v := V.bool (!(go_entry_within a0_366.A 0 v3_387))) (.fn rfl) ?_
      refine SafeOps.quiet0 E_good rfl rfl rfl (v := V.bool (!(go_entry_within a0_366.A 0 v3_387))) (.pickK rfl hc390 rfl) ?_
      exact SafeOps.drop' 6 rfl rfl rfl K
    refine SafeOps.quiet0 E_good rfl rfl rfl (v := V.bool ((!(go_entry_within a0_366.Kind 0 7)) || (!(go_entry_within a0_366.A 0 v3_387)))) (.fn rfl) ?_
    refine SafeOps.bjoin 6 29 (b := (((!(go_entry_within a0_366.Kind 0 7)) || (!(go_entry_within a0_366.A 0 v3_387))) || (!(go_entry_within a0_366.B 0 v4_388)))) (b1 := true) (b0 := (!(go_entry_within a0_366.B 0 v4_388))) (fun hc391 K => ?_) (fun hc391 K => ?_) bj_or ?_
    · skip
      refine SafeOps.skip (congrArg (fun b => some (!b)) hc391) rfl rfl ?_
      refine SafeOps.skip (congrArg (fun b => some (!b)) hc391) rfl rfl ?_
      refine SafeOps.skip (congrArg (fun b => some (!b)) hc391) rfl rfl ?_
      refine SafeOps.skip (congrArg (fun b => some (!b)) hc391) rfl rfl ?_
      refine SafeOps.skip (congrArg (fun b => some (!b)) hc391) rfl rfl ?_
      refine SafeOps.quiet0 E_good rfl rfl rfl (v := V.bool true) (.pickK rfl hc391 rfl) ?_
      exact SafeOps.drop' 6 rfl rfl rfl K
    · skip
      refine SafeOps.quiet0 E_good (congrArg (fun b => some (!b)) hc391) rfl rfl (v := V.ptr [1] 0 2) (.fn rfl) ?_
      refine SafeOps.quiet0 E_good (congrArg (fun b => some (!b)) hc391) rfl rfl (v := V.int .i64 a0_366.B) (.load rfl rfl (.box rfl rfl) rfl) ?_
      refine SafeOps.quiet0 E_good (congrArg (fun b => some (!b)) hc391) rfl rfl (v := V.int .i64 v4_388) (.fn rfl) ?_
      refine SafeOps.quiet0 E_good (congrArg (fun b => some (!b)) hc391) rfl rfl (v := V.bool (go_entry_within a0_366.B 0 v4_388)) (.callP rfl rfl (go_entry_within_sc a0_366.B 0 v4_388 _ rfl) rfl) ?_
      refine SafeOps.quiet0 E_good (congrArg (fun b => some (!b)) hc391) rfl rfl (v := V.bool (!(go_entry_within a0_366.B 0 v4_388))) (.fn rfl) ?_
      refine SafeOps.quiet0 E_good rfl rfl rfl (v := V.bool (!(go_entry_within a0_366.B 0 v4_388))) (.pickK rfl hc391 rfl) ?_
      exact SafeOps.drop' 6 rfl rfl rfl K
    refine SafeOps.quiet0 E_good rfl rfl rfl (v := V.bool (((!(go_entry_within a0_366.Kind 0 7)) || (!(go_entry_within a0_366.A 0 v3_387))) || (!(go_entry_within a0_366.B 0 v4_388)))) (.fn rfl) ?_
    refine SafeOps.nil ?_
    repeat (first | refine Safe.seq ?_ | refine Safe.skip ?_ | with_reducible refine thenQ.n ?_ | with_reducible refine blockQ.n ?_)
    refine Safe.ret ?_
    repeat (first | with_reducible refine thenQ.r ?_ | with_reducible refine blockQ.r ?_)
    obtain rfl := h
    exact retQ.gen (vs := [V.bool (((!(go_entry_within a0_366.Kind 0 7)) || (!(go_entry_within a0_366.A 0 v3_387))) || (!(go_entry_within a0_366.B 0 v4_388)))]) rfl (.tmp (v := V.bool (((!(go_entry_within a0_366.Kind 0 7)) || (!(go_entry_within a0_366.A 0 v3_387))) || (!(go_entry_within a0_366.B 0 v4_388)))) rfl .nil) (.free rfl) (by simp) (.inr rfl)
  · skip
    refine Safe.block ?_
    repeat (first | refine Safe.seq ?_ | refine Safe.skip ?_ | with_reducible refine thenQ.n ?_ | with_reducible refine blockQ.n ?_)
    refine Safe.region ?_
    refine SafeOps.quiet0 E_good rfl rfl rfl (v := V.bool (a0_366.Kind == 1)) (.fn rfl) ?_
    refine SafeOps.quiet0 E_good rfl rfl rfl (v := V.bool (a0_366.Kind == 1)) (.fn rfl) ?_
    refine SafeOps.nil ?_
    repeat (first | refine Safe.seq ?_ | refine Safe.skip ?_ | with_reducible refine thenQ.n ?_ | with_reducible refine blockQ.n ?_)
    refine Safe.joinT (fun (v7_392 : Bool) => go_entry_bad_j3 a0_366 v7_392 = r) (fun (v7_392 : Bool) => ⟨Try.f28.ntmps, [(1, V.ptr [1] 0 0), (3, V.int .i64 255), (4, V.int .i64 0), (6, V.int .i64 a0_366.Kind), (7, V.bool v7_392)], [([1], Obj.box [V.int .i64 a0_366.Kind, V.int .i64 a0_366.A, V.int .i64 a0_366.B])], [], []⟩) ?_ (fun HJ393 => ?_)
    · intro v7_392 h
      replace h : go_entry_bad_j3 a0_366 v7_392 = r := h
      rw [go_entry_bad_j3] at h
      repeat (first | refine Safe.seq ?_ | refine Safe.skip ?_ | with_reducible refine thenQ.n ?_ | with_reducible refine blockQ.n ?_)
      refine ifG h (fun hc394 h => ?_) (fun hc394 h => ?_)
      · skip
        refine Safe.condK rfl hc394 ?_
        repeat (first | refine Safe.seq ?_ | refine Safe.skip ?_ | with_reducible refine thenQ.n ?_ | with_reducible refine blockQ.n ?_)
        refine Safe.region ?_
        refine SafeOps.quiet0 E_good rfl rfl rfl (v := V.int .i64 255) (.fn rfl) ?_
        refine SafeOps.nil ?_
        repeat (first | refine Safe.skip ?_ | with_reducible refine thenQ.n ?_ | with_reducible refine blockQ.n ?_)
        exact Safe.got (HJ389 (255, 255) h) (.cov ⟨rfl, rfl, (upT_cons (.refl _) (upT_cons (.refl _) (upT_cons (.refl _) upT_nil))), (upOb_cons rfl (.refl _) upOb_nil), upOut_nil, rfl⟩)
      · skip
        refine Safe.condN rfl hc394 ?_
        repeat (first | refine Safe.seq ?_ | refine Safe.skip ?_ | with_reducible refine thenQ.n ?_ | with_reducible refine blockQ.n ?_)
        refine Safe.region ?_
        refine SafeOps.quiet0 E_good rfl rfl rfl (v := V.bool (a0_366.Kind == 7)) (.fn rfl) ?_
        refine SafeOps.quiet0 E_good rfl rfl rfl (v := V.bool (a0_366.Kind == 7)) (.fn rfl) ?_
        refine SafeOps.nil ?_
        repeat (first | refine Safe.seq ?_ | refine Safe.skip ?_ | with_reducible refine thenQ.n ?_ | with_reducible refine blockQ.n ?_)
        refine ifG h (fun hc395 h => ?_) (fun hc395 h => ?_)
        · skip
          refine Safe.condK rfl hc395 ?_
          repeat (first | refine Safe.seq ?_ | refine Safe.skip ?_ | with_reducible refine thenQ.n ?_ | with_reducible refine blockQ.n ?_)
          refine Safe.region ?_
          refine SafeOps.quiet0 E_good rfl rfl rfl (v := V.int .i64 0) (.fn rfl) ?_
          refine SafeOps.nil ?_
          repeat (first | refine Safe.skip ?_ | with_reducible refine thenQ.n ?_ | with_reducible refine blockQ.n ?_)
          exact Safe.got (HJ389 (0, 0) h) (.cov ⟨rfl, rfl, (upT_cons (.refl _) (upT_cons (.refl _) (upT_cons (.refl _) upT_nil))), (upOb_cons rfl (.refl _) upOb_nil), upOut_nil, rfl⟩)
        · skip
          refine Safe.condN rfl hc395 ?_
          repeat (first | refine Safe.skip ?_ | with_reducible refine thenQ.n ?_ | with_reducible refine blockQ.n ?_)
          exact Safe.got (HJ389 (255, 0) h) (.cov ⟨rfl, rfl, (upT_cons (.refl _) (upT_cons (.refl _) (upT_cons (.refl _) upT_nil))), (upOb_cons rfl (.refl _) upOb_nil), upOut_nil, rfl⟩)
    · skip
      refine ifG h (fun hc396 h => ?_) (fun hc396 h => ?_)
      · skip
        refine Safe.condK rfl hc396 ?_
        repeat (first | refine Safe.skip ?_ | with_reducible refine thenQ.n ?_ | with_reducible refine blockQ.n ?_)
        exact Safe.got (HJ393 ((a0_366.Kind == 1)) h) (.cov ⟨rfl, rfl, (upT_cons (.refl _) (upT_cons (.refl _) (upT_cons (.refl _) (upT_cons (.refl _) (upT_cons (.refl _) upT_nil))))), (upOb_cons rfl (.refl _) upOb_nil), upOut_nil, rfl⟩)
      · skip
        refine Safe.condN rfl hc396 ?_
        repeat (first | refine Safe.seq ?_ | refine Safe.skip ?_ | with_reducible refine thenQ.n ?_ | with_reducible refine blockQ.n ?_)
        refine Safe.region ?_
        refine SafeOps.quiet0 E_good rfl rfl rfl (v := V.bool (a0_366.Kind == 4)) (.fn rfl) ?_
        refine SafeOps.quiet0 E_good rfl rfl rfl (v := V.bool (a0_366.Kind == 4)) (.fn rfl) ?_
        refine SafeOps.nil ?_
        repeat (first | refine Safe.skip ?_ | with_reducible refine thenQ.n ?_ | with_reducible refine blockQ.n ?_)
        exact Safe.got (HJ393 ((a0_366.Kind == 4)) h) (.cov ⟨rfl, rfl, (upT_cons (.refl _) (upT_cons (.refl _) (upT_cons (.refl _) (upT_cons (.refl _) (upT_cons (.refl _) upT_nil))))), (upOb_cons rfl (.refl _) upOb_nil), upOut_nil, rfl⟩)

noncomputable def go_slices_IndexFunc_api_Entry_api_Entry_bad28_s1 (a0_362 : List api_Entry) : (Int) → Option ((Int) ⊕ (Int))
  | v8_414 =>
    if (decide (v8_414 < (a0_362.length : Int))) = true then
      if 0 ≤ v8_414 ∧ v8_414 < (a0_362.length : Int) then
        if (go_entry_bad (gt a0_362 v8_414)) = true then
          inrO (
            some v8_414)
        else
          nextO (IntKind.i64.wrap (v8_414 + 1))
      else none
    else
      inrO (
        some (-1))

noncomputable def go_slices_IndexFunc_api_Entry_api_Entry_bad28 (a0_362 : List api_Entry) : Option Int :=
  whileO (go_slices_IndexFunc_api_Entry_api_Entry_bad28_s1 a0_362) 0

theorem go_slices_IndexFunc_api_Entry_api_Entry_bad28_sc (a0_362 : List api_Entry) (r : Int) (h : go_slices_IndexFunc_api_Entry_api_Entry_bad28 a0_362 = some r) : SC Try.prog gl 49 [V.sl 3 (rws api_Entry.cells a0_362), V.fn 28 []] (V.int .i64 r) := by
  rw [go_slices_IndexFunc_api_Entry_api_Entry_bad28] at h
  refine SC.of E_good Try.func49 rfl (fun _ _ => Try.call49 _ _) rfl ?_
  repeat (first | refine Safe.seq ?_ | refine Safe.skip ?_ | with_reducible refine thenQ.n ?_ | with_reducible refine blockQ.n ?_)
  refine Safe.region ?_
  refine SafeOps.quiet0 E_good rfl rfl rfl (v := V.int .i64 0) (.fn rfl) ?_
  refine SafeOps.nil ?_
  repeat (first | refine Safe.seq ?_ | refine Safe.skip ?_ | with_reducible refine thenQ.n ?_ | with_reducible refine blockQ.n ?_)
  refine Safe.region ?_
  refine SafeOps.quiet0 E_good rfl rfl rfl (v := V.sl 3 (rws api_Entry.cells a0_362)) (.fn rfl) ?_
  refine SafeOps.quiet0 E_good rfl rfl rfl (v := V.int .i64 (a0_362.length : Int)) (.fnE rfl lenE) ?_
  refine SafeOps.quiet0 E_good rfl rfl rfl (v := V.int .i64 0) (.fn rfl) ?_
  refine SafeOps.nil ?_
  repeat (first | refine Safe.seq ?_ | refine Safe.skip ?_ | with_reducible refine thenQ.n ?_ | with_reducible refine blockQ.n ?_)
  refine Safe.block ?_
  repeat (first | refine Safe.seq ?_ | refine Safe.skip ?_ | with_reducible refine thenQ.n ?_ | with_reducible refine blockQ.n ?_)
  refine Safe.loopW (fun (v8_414 : Int) => ⟨Try.f49.ntmps, [(0, V.sl 3 (rws api_Entry.cells a0_362)), (1, V.fn 28 []), (7, V.int .i64 (a0_362.length : Int)), (8, V.int .i64 v8_414)], [], [], []⟩) h (.cov ⟨rfl, rfl, (upT_cons (.refl _) (upT_cons (.refl _) (upT_cons (.refl _) (upT_cons (.refl _) upT_nil)))), upOb_nil, upOut_nil, rfl⟩) ?_
  intro v8_414 ohr415 h hr415
  replace h : go_slices_IndexFunc_api_Entry_api_Entry_bad28_s1 a0_362 v8_414 = some ohr415 := h
  rw [go_slices_IndexFunc_api_Entry_api_Entry_bad28_s1] at h
  repeat (first | refine Safe.seq ?_ | refine Safe.skip ?_ | with_reducible refine thenQ.n ?_ | with_reducible refine blockQ.n ?_)
  refine Safe.region ?_
  refine SafeOps.quiet0 E_good rfl rfl rfl (v := V.bool (decide (v8_414 < (a0_362.length : Int)))) (.fn rfl) ?_
  refine SafeOps.nil ?_
  repeat (first | refine Safe.seq ?_ | refine Safe.skip ?_ | with_reducible refine thenQ.n ?_ | with_reducible refine blockQ.n ?_)
  refine ifG h (fun hc416 h => ?_) (fun hc416 h => ?_)
  · skip
    refine Safe.condK rfl hc416 ?_
    repeat (first | refine Safe.seq ?_ | refine Safe.skip ?_ | with_reducible refine thenQ.n ?_ | with_reducible refine blockQ.n ?_)
    refine Safe.block ?_
    repeat (first | refine Safe.seq ?_ | refine Safe.skip ?_ | with_reducible refine thenQ.n ?_ | with_reducible refine blockQ.n ?_)
    refine Safe.region ?_
    refine SafeOps.quiet0 E_good rfl rfl rfl (v := V.int .i64 v8_414) (.fn rfl) ?_
    refine SafeOps.quiet0 E_good rfl rfl rfl (v := V.int .i64 v8_414) (.fn rfl) ?_
    refine SafeOps.nil ?_
    repeat (first | refine Safe.seq ?_ | refine Safe.skip ?_ | with_reducible refine thenQ.n ?_ | with_reducible refine blockQ.n ?_)
    refine Safe.region ?_
    refine SafeOps.quiet0 E_good rfl rfl rfl (v := V.fn 28 []) (.fn rfl) ?_
    refine SafeOps.quiet0 E_good rfl rfl rfl (v := V.sl 3 (rws api_Entry.cells a0_362)) (.fn rfl) ?_
    refine SafeOps.quiet0 E_good rfl rfl rfl (v := V.int .i64 v8_414) (.fn rfl) ?_
    refine okG h (fun hb417 h => ?_)
    refine SafeOps.quiet0 E_good rfl rfl rfl (v := V.spt 3 (rws api_Entry.cells a0_362) (Int.toNat v8_414) 0) (.idxSlM (f := api_Entry.cells) rfl rfl rfl rfl rfl hb417) ?_
    refine SafeOps.quiet0 E_good rfl rfl rfl (v := V.agg [V.int .i64 ((gt a0_362 v8_414).Kind), V.int .i64 ((gt a0_362 v8_414).A), V.int .i64 ((gt a0_362 v8_414).B)]) (.load rfl rfl (.sptM (f := api_Entry.cells) hb417 rfl) rfl) ?_
    refine SafeOps.quiet0 E_good rfl rfl rfl (v := V.bool (go_entry_bad (gt a0_362 v8_414))) (.callP rfl rfl (go_entry_bad_sc (gt a0_362 v8_414) _ rfl) rfl) ?_
    refine SafeOps.nil ?_
    repeat (first | refine Safe.seq ?_ | refine Safe.skip ?_ | with_reducible refine thenQ.n ?_ | with_reducible refine blockQ.n ?_)
    refine ifG h (fun hc418 h => ?_) (fun hc418 h => ?_)
    · skip
      refine Safe.condK rfl hc418 ?_
      repeat (first | refine Safe.seq ?_ | refine Safe.skip ?_ | with_reducible refine thenQ.n ?_ | with_reducible refine blockQ.n ?_)
      refine Safe.region ?_
      refine SafeOps.quiet0 E_good rfl rfl rfl (v := V.int .i64 v8_414) (.fn rfl) ?_
      refine SafeOps.quiet0 E_good rfl rfl rfl (v := V.int .i64 v8_414) (.fn rfl) ?_
      refine SafeOps.nil ?_
      repeat (first | refine Safe.seq ?_ | refine Safe.skip ?_ | with_reducible refine thenQ.n ?_ | with_reducible refine blockQ.n ?_)
      refine Safe.ret ?_
      repeat (first | with_reducible refine thenQ.r ?_ | with_reducible refine blockQ.r ?_)
      replace h := inr_out h hr415
      obtain rfl := Option.some.inj h
      exact retQ.gen (vs := [V.int .i64 v8_414]) rfl (.tmp (v := V.int .i64 v8_414) rfl .nil) (.free rfl) (by simp) (.inr rfl)
    · skip
      refine Safe.condN rfl hc418 ?_
      repeat (first | refine Safe.seq ?_ | refine Safe.skip ?_ | with_reducible refine thenQ.n ?_ | with_reducible refine blockQ.n ?_)
      refine Safe.region ?_
      refine SafeOps.quiet0 E_good rfl rfl rfl (v := V.int .i64 (IntKind.i64.wrap (v8_414 + 1))) (.fn rfl) ?_
      refine SafeOps.quiet0 E_good rfl rfl rfl (v := V.int .i64 (IntKind.i64.wrap (v8_414 + 1))) (.fn rfl) ?_
      refine SafeOps.nil ?_
      repeat (first | refine Safe.seq ?_ | refine Safe.skip ?_ | with_reducible refine thenQ.n ?_ | with_reducible refine blockQ.n ?_)
      exact ⟨_, next_out h, (.cov ⟨rfl, rfl, (upT_cons (.refl _) (upT_cons (.refl _) (upT_cons (.refl _) (upT_cons (.refl _) upT_nil)))), upOb_nil, upOut_nil, rfl⟩)⟩
  · skip
    refine Safe.condN rfl hc416 ?_
    repeat (first | refine Safe.seq ?_ | refine Safe.skip ?_ | with_reducible refine thenQ.n ?_ | with_reducible refine blockQ.n ?_)
    refine Safe.exit ?_
    repeat (first | with_reducible refine thenQ.e ?_ | with_reducible refine blockQ.x rfl ?_ | with_reducible refine blockQ.y rfl ?_)
    replace h := inr_out h hr415
    repeat (first | refine Safe.seq ?_ | refine Safe.skip ?_ | with_reducible refine thenQ.n ?_ | with_reducible refine blockQ.n ?_)
    refine Safe.region ?_
    refine SafeOps.quiet0 E_good rfl rfl rfl (v := V.int .i64 (-1)) (.fn rfl) ?_
    refine SafeOps.nil ?_
    repeat (first | refine Safe.seq ?_ | refine Safe.skip ?_ | with_reducible refine thenQ.n ?_ | with_reducible refine blockQ.n ?_)
    refine Safe.ret ?_
    repeat (first | with_reducible refine thenQ.r ?_ | with_reducible refine blockQ.r ?_)
    obtain rfl := Option.some.inj h
    exact retQ.gen (vs := [V.int .i64 (-1)]) rfl (.tmp (v := V.int .i64 (-1)) rfl .nil) (.free rfl) (by simp) (.inr rfl)

noncomputable def go_slices_ContainsFunc_api_Entry_api_Entry_bad28 (a0_361 : List api_Entry) : Option Bool :=
  (go_slices_IndexFunc_api_Entry_api_Entry_bad28 a0_361).bind fun x_421 =>
  some (decide (x_421 ≥ 0))

theorem go_slices_ContainsFunc_api_Entry_api_Entry_bad28_sc (a0_361 : List api_Entry) (r : Bool) (h : go_slices_ContainsFunc_api_Entry_api_Entry_bad28 a0_361 = some r) : SC Try.prog gl 27 [V.sl 3 (rws api_Entry.cells a0_361), V.fn 28 []] (V.bool r) := by
  rw [go_slices_ContainsFunc_api_Entry_api_Entry_bad28] at h
  refine SC.of E_good Try.func27 rfl (fun _ _ => Try.call27 _ _) rfl ?_
  repeat (first | refine Safe.seq ?_ | refine Safe.skip ?_ | with_reducible refine thenQ.n ?_ | with_reducible refine blockQ.n ?_)
  refine Safe.region ?_
  refine SafeOps.quiet0 E_good rfl rfl rfl (v := V.bool false) (.fn rfl) ?_
  refine SafeOps.nil ?_
  repeat (first | refine Safe.seq ?_ | refine Safe.skip ?_ | with_reducible refine thenQ.n ?_ | with_reducible refine blockQ.n ?_)
  refine Safe.region ?_
  refine SafeOps.quiet0 E_good rfl rfl rfl (v := V.sl 3 (rws api_Entry.cells a0_361)) (.fn rfl) ?_
  refine SafeOps.quiet0 E_good rfl rfl rfl (v := V.fn 28 []) (.fn rfl) ?_
  refine bindG h ?_
  intro x_421 he422 h
  refine SafeOps.quiet0 E_good rfl rfl rfl (v := V.int .i64 x_421) (.callP rfl rfl (go_slices_IndexFunc_api_Entry_api_Entry_bad28_sc a0_361 _ he422) rfl) ?_
  refine SafeOps.quiet0 E_good rfl rfl rfl (v := V.bool (decide (x_421 ≥ 0))) (.fn rfl) ?_
  refine SafeOps.quiet0 E_good rfl rfl rfl (v := V.bool (decide (x_421 ≥ 0))) (.fn rfl) ?_
  refine SafeOps.nil ?_
  repeat (first | refine Safe.seq ?_ | refine Safe.skip ?_ | with_reducible refine thenQ.n ?_ | with_reducible refine blockQ.n ?_)
  refine Safe.ret ?_
  repeat (first | with_reducible refine thenQ.r ?_ | with_reducible refine blockQ.r ?_)
  obtain rfl := Option.some.inj h
  exact retQ.gen (vs := [V.bool (decide (x_421 ≥ 0))]) rfl (.tmp (v := V.bool (decide (x_421 ≥ 0))) rfl .nil) (.free rfl) (by simp) (.inr rfl)

noncomputable def go_entry_Check (a0_359 : List api_Entry) : Option Int :=
  if (decide ((a0_359.length : Int) > 65536)) = true then
    some 3
  else
    (go_slices_ContainsFunc_api_Entry_api_Entry_bad28 a0_359).bind fun x_428 =>
    if x_428 = true then
      some 1
    else
      some 0

theorem go_entry_Check_sc (a0_359 : List api_Entry) (r : Int) (h : go_entry_Check a0_359 = some r) : SC Try.prog gl 12 [V.sl 3 (rws api_Entry.cells a0_359)] (V.int .i64 r) := by
  rw [go_entry_Check] at h
  refine SC.of E_good Try.func12 rfl (fun _ _ => Try.call12 _ _) rfl ?_
  repeat (first | refine Safe.seq ?_ | refine Safe.skip ?_ | with_reducible refine thenQ.n ?_ | with_reducible refine blockQ.n ?_)
  refine Safe.region ?_
  refine SafeOps.quiet0 E_good rfl rfl rfl (v := V.int .i64 0) (.fn rfl) ?_
  refine SafeOps.nil ?_
  repeat (first | refine Safe.seq ?_ | refine Safe.skip ?_ | with_reducible refine thenQ.n ?_ | with_reducible refine blockQ.n ?_)
  refine Safe.block ?_
  repeat (first | refine Safe.seq ?_ | refine Safe.skip ?_ | with_reducible refine thenQ.n ?_ | with_reducible refine blockQ.n ?_)
  refine Safe.region ?_
  refine SafeOps.quiet0 E_good rfl rfl rfl (v := V.sl 3 (rws api_Entry.cells a0_359)) (.fn rfl) ?_
  refine SafeOps.quiet0 E_good rfl rfl rfl (v := V.int .i64 (a0_359.length : Int)) (.fnE rfl lenE) ?_
  refine SafeOps.quiet0 E_good rfl rfl rfl (v := V.bool (decide ((a0_359.length : Int) > 65536))) (.fn rfl) ?_
  refine SafeOps.quiet0 E_good rfl rfl rfl (v := V.bool (decide ((a0_359.length : Int) > 65536))) (.fn rfl) ?_
  refine SafeOps.nil ?_
  repeat (first | refine Safe.seq ?_ | refine Safe.skip ?_ | with_reducible refine thenQ.n ?_ | with_reducible refine blockQ.n ?_)
  refine ifG h (fun hc427 h => ?_) (fun hc427 h => ?_)
  · skip
    refine Safe.condK rfl hc427 ?_
    repeat (first | refine Safe.seq ?_ | refine Safe.skip ?_ | with_reducible refine thenQ.n ?_ | with_reducible refine blockQ.n ?_)
    refine Safe.region ?_
    refine SafeOps.quiet0 E_good rfl rfl rfl (v := V.int .i64 3) (.fn rfl) ?_
    refine SafeOps.nil ?_
    repeat (first | refine Safe.seq ?_ | refine Safe.skip ?_ | with_reducible refine thenQ.n ?_ | with_reducible refine blockQ.n ?_)
    refine Safe.ret ?_
    repeat (first | with_reducible refine thenQ.r ?_ | with_reducible refine blockQ.r ?_)
    obtain rfl := Option.some.inj h
    exact retQ.gen (vs := [V.int .i64 3]) rfl (.tmp (v := V.int .i64 3) rfl .nil) (.free rfl) (by simp) (.inr rfl)
  · skip
    refine Safe.condN rfl hc427 ?_
    repeat (first | refine Safe.seq ?_ | refine Safe.skip ?_ | with_reducible refine thenQ.n ?_ | with_reducible refine blockQ.n ?_)
    refine Safe.region ?_
    refine SafeOps.quiet0 E_good rfl rfl rfl (v := V.sl 3 (rws api_Entry.cells a0_359)) (.fn rfl) ?_
    refine bindG h ?_
    intro x_428 he429 h
    refine SafeOps.quiet0 E_good rfl rfl rfl (v := V.bool x_428) (.callP rfl rfl (go_slices_ContainsFunc_api_Entry_api_Entry_bad28_sc a0_359 _ he429) rfl) ?_
    refine SafeOps.quiet0 E_good rfl rfl rfl (v := V.bool x_428) (.fn rfl) ?_
    refine SafeOps.nil ?_
    repeat (first | refine Safe.seq ?_ | refine Safe.skip ?_ | with_reducible refine thenQ.n ?_ | with_reducible refine blockQ.n ?_)
    refine ifG h (fun hc430 h => ?_) (fun hc430 h => ?_)
    · skip
      refine Safe.condK rfl hc430 ?_
      repeat (first | refine Safe.seq ?_ | refine Safe.skip ?_ | with_reducible refine thenQ.n ?_ | with_reducible refine blockQ.n ?_)
      refine Safe.region ?_
      refine SafeOps.quiet0 E_good rfl rfl rfl (v := V.int .i64 1) (.fn rfl) ?_
      refine SafeOps.nil ?_
      repeat (first | refine Safe.seq ?_ | refine Safe.skip ?_ | with_reducible refine thenQ.n ?_ | with_reducible refine blockQ.n ?_)
      refine Safe.ret ?_
      repeat (first | with_reducible refine thenQ.r ?_ | with_reducible refine blockQ.r ?_)
      obtain rfl := Option.some.inj h
      exact retQ.gen (vs := [V.int .i64 1]) rfl (.tmp (v := V.int .i64 1) rfl .nil) (.free rfl) (by simp) (.inr rfl)
    · skip
      refine Safe.condN rfl hc430 ?_
      repeat (first | refine Safe.seq ?_ | refine Safe.skip ?_ | with_reducible refine thenQ.n ?_ | with_reducible refine blockQ.n ?_)
      refine Safe.region ?_
      refine SafeOps.quiet0 E_good rfl rfl rfl (v := V.int .i64 0) (.fn rfl) ?_
      refine SafeOps.nil ?_
      repeat (first | refine Safe.seq ?_ | refine Safe.skip ?_ | with_reducible refine thenQ.n ?_ | with_reducible refine blockQ.n ?_)
      refine Safe.ret ?_
      repeat (first | with_reducible refine thenQ.r ?_ | with_reducible refine blockQ.r ?_)
      obtain rfl := Option.some.inj h
      exact retQ.gen (vs := [V.int .i64 0]) rfl (.tmp (v := V.int .i64 0) rfl .nil) (.free rfl) (by simp) (.inr rfl)

noncomputable def go_entry_Write_s1 (a0_358 : List api_Entry) : ((List Int) × Int) → Option (((List Int) × Int) ⊕ ((List Int) × Int))
  | (v5_461, v19_462) =>
    if (decide (v19_462 < (a0_358.length : Int))) = true then
      if 0 ≤ v19_462 ∧ v19_462 < (a0_358.length : Int) then
        if few (v5_461 ++ [IntKind.u8.wrap ((gt a0_358 v19_462).Kind), IntKind.u8.wrap ((gt a0_358 v19_462).A), IntKind.u8.wrap ((gt a0_358 v19_462).B)]).length then
          nextO (v5_461 ++ [IntKind.u8.wrap ((gt a0_358 v19_462).Kind), IntKind.u8.wrap ((gt a0_358 v19_462).A), IntKind.u8.wrap ((gt a0_358 v19_462).B)], IntKind.i64.wrap (v19_462 + 1))
        else none
      else none
    else
      inrO (
        some (v5_461, 0))

noncomputable def go_entry_Write (a0_358 : List api_Entry) : Option ((List Int) × Int) :=
  (go_entry_Check a0_358).bind fun x_449 =>
  if (x_449 != 0) = true then
    some ([], x_449)
  else
    if 0 ≤ (0 : Int) ∧ (0 : Int) ≤ (IntKind.i64.wrap (3 * (a0_358.length : Int))) ∧ (IntKind.i64.wrap (3 * (a0_358.length : Int))) ≤ 549755813888 then
      whileO (go_entry_Write_s1 a0_358) (List.replicate (Int.toNat 0) (0 : Int), 0)
    else none

theorem go_entry_Write_sc (a0_358 : List api_Entry) (r : (List Int) × Int) (h : go_entry_Write a0_358 = some r) : SC Try.prog gl 13 [V.sl 3 (rws api_Entry.cells a0_358)] (V.tup [V.own 1 (rws (fun n => [V.int .u8 n]) r.1), V.int .i64 r.2]) := by
  rw [go_entry_Write] at h
  refine SC.of E_good Try.func13 rfl (fun _ _ => Try.call13 _ _) rfl ?_
  repeat (first | refine Safe.seq ?_ | refine Safe.skip ?_ | with_reducible refine thenQ.n ?_ | with_reducible refine blockQ.n ?_)
  refine Safe.region ?_
  refine SafeOps.quiet0 E_good rfl rfl rfl (v := V.nils) (.fn rfl) ?_
  refine SafeOps.quiet0 E_good rfl rfl rfl (v := V.int .i64 0) (.fn rfl) ?_
  refine SafeOps.nil ?_
  repeat (first | refine Safe.seq ?_ | refine Safe.skip ?_ | with_reducible refine thenQ.n ?_ | with_reducible refine blockQ.n ?_)
  refine Safe.region ?_
  refine SafeOps.quiet0 E_good rfl rfl rfl (v := V.sl 3 (rws api_Entry.cells a0_358)) (.fn rfl) ?_
  refine bindG h ?_
  intro x_449 he450 h
  refine SafeOps.quiet0 E_good rfl rfl rfl (v := V.int .i64 x_449) (.callP rfl rfl (go_entry_Check_sc a0_358 _ he450) rfl) ?_
  refine SafeOps.quiet0 E_good rfl rfl rfl (v := V.int .i64 x_449) (.fn rfl) ?_
  refine SafeOps.nil ?_
  repeat (first | refine Safe.seq ?_ | refine Safe.skip ?_ | with_reducible refine thenQ.n ?_ | with_reducible refine blockQ.n ?_)
  refine Safe.region ?_
  refine SafeOps.quiet0 E_good rfl rfl rfl (v := V.int .i64 x_449) (.fn rfl) ?_
  refine SafeOps.quiet0 E_good rfl rfl rfl (v := V.bool (x_449 != 0)) (.fn rfl) ?_
  refine SafeOps.nil ?_
  repeat (first | refine Safe.seq ?_ | refine Safe.skip ?_ | with_reducible refine thenQ.n ?_ | with_reducible refine blockQ.n ?_)
  refine ifG h (fun hc451 h => ?_) (fun hc451 h => ?_)
  · skip
    refine Safe.condK rfl hc451 ?_
    repeat (first | refine Safe.seq ?_ | refine Safe.skip ?_ | with_reducible refine thenQ.n ?_ | with_reducible refine blockQ.n ?_)
    refine Safe.region ?_
    refine SafeOps.quiet0 E_good rfl rfl rfl (v := V.int .i64 x_449) (.fn rfl) ?_
    refine SafeOps.quiet0 E_good rfl rfl rfl (v := V.nils) (.fn rfl) ?_
    refine SafeOps.quiet0 E_good rfl rfl rfl (v := V.int .i64 x_449) (.fn rfl) ?_
    refine SafeOps.nil ?_
    repeat (first | refine Safe.seq ?_ | refine Safe.skip ?_ | with_reducible refine thenQ.n ?_ | with_reducible refine blockQ.n ?_)
    refine Safe.ret ?_
    repeat (first | with_reducible refine thenQ.r ?_ | with_reducible refine blockQ.r ?_)
    obtain rfl := Option.some.inj h
    exact retQ.gen (vs := [V.nils, V.int .i64 x_449]) rfl (.tmp (v := V.nils) rfl (.tmp (v := V.int .i64 x_449) rfl .nil)) (by exact (.tup (.cons (.nils _) (.cons (.free rfl) .nil)))) (by simp) (.inr rfl)
  · skip
    refine Safe.condN rfl hc451 ?_
    repeat (first | refine Safe.seq ?_ | refine Safe.skip ?_ | with_reducible refine thenQ.n ?_ | with_reducible refine blockQ.n ?_)
    refine Safe.region ?_
    refine SafeOps.quiet0 E_good rfl rfl rfl (v := V.sl 3 (rws api_Entry.cells a0_358)) (.fn rfl) ?_
    refine SafeOps.quiet0 E_good rfl rfl rfl (v := V.int .i64 (a0_358.length : Int)) (.fnE rfl lenE) ?_
    refine SafeOps.quiet0 E_good rfl rfl rfl (v := V.int .i64 (IntKind.i64.wrap (3 * (a0_358.length : Int)))) (.fn rfl) ?_
    refine okG h (fun hb452 h => ?_)
    refine SafeOps.quiet1 E_good rfl rfl rfl (.makeM (f := (fun n => [V.int .u8 n])) (d := (0 : Int)) rfl rfl rfl rfl hb452 rfl rfl rfl) rfl ?_
    refine SafeOps.quiet0 E_good rfl rfl rfl (v := V.ref [16] 0 (rws (fun n => [V.int .u8 n]) (List.replicate (Int.toNat 0) (0 : Int))).length) (.fn rfl) ?_
    refine SafeOps.nil ?_
    repeat (first | refine Safe.seq ?_ | refine Safe.skip ?_ | with_reducible refine thenQ.n ?_ | with_reducible refine blockQ.n ?_)
    refine Safe.region ?_
    refine SafeOps.quiet0 E_good rfl rfl rfl (v := V.sl 3 (rws api_Entry.cells a0_358)) (.fn rfl) ?_
    refine SafeOps.quiet0 E_good rfl rfl rfl (v := V.int .i64 (a0_358.length : Int)) (.fnE rfl lenE) ?_
    refine SafeOps.quiet0 E_good rfl rfl rfl (v := V.int .i64 0) (.fn rfl) ?_
    refine SafeOps.nil ?_
    repeat (first | refine Safe.seq ?_ | refine Safe.skip ?_ | with_reducible refine thenQ.n ?_ | with_reducible refine blockQ.n ?_)
    refine Safe.block ?_
    repeat (first | refine Safe.seq ?_ | refine Safe.skip ?_ | with_reducible refine thenQ.n ?_ | with_reducible refine blockQ.n ?_)
    refine Safe.loopW (fun ((v5_461, v19_462) : (List Int) × Int) => ⟨Try.f13.ntmps, [(5, V.ref [7000, 118, 5] 0 (rws (fun n => [V.int .u8 n]) v5_461).length), (17, V.sl 3 (rws api_Entry.cells a0_358)), (18, V.int .i64 (a0_358.length : Int)), (19, V.int .i64 v19_462)], [([7000, 118, 5], Obj.rows 1 (rws (fun n => [V.int .u8 n]) v5_461) false)], [], []⟩) h (.ren [16] [7000, 118, 5] (.cov ⟨rfl, rfl, (upT_cons (.refl _) (upT_cons (.refl _) (upT_cons (.refl _) (upT_cons (.refl _) upT_nil)))), (upOb_cons rfl (.refl _) upOb_nil), upOut_nil, rfl⟩)) ?_
    rintro ⟨v5_461, v19_462⟩ ohr463 h hr463
    replace h : go_entry_Write_s1 a0_358 (v5_461, v19_462) = some ohr463 := h
    rw [go_entry_Write_s1] at h
    repeat (first | refine Safe.seq ?_ | refine Safe.skip ?_ | with_reducible refine thenQ.n ?_ | with_reducible refine blockQ.n ?_)
    refine Safe.region ?_
    refine SafeOps.quiet0 E_good rfl rfl rfl (v := V.bool (decide (v19_462 < (a0_358.length : Int)))) (.fn rfl) ?_
    refine SafeOps.nil ?_
    repeat (first | refine Safe.seq ?_ | refine Safe.skip ?_ | with_reducible refine thenQ.n ?_ | with_reducible refine blockQ.n ?_)
    refine ifG h (fun hc464 h => ?_) (fun hc464 h => ?_)
    · skip
      refine Safe.condK rfl hc464 ?_
      repeat (first | refine Safe.seq ?_ | refine Safe.skip ?_ | with_reducible refine thenQ.n ?_ | with_reducible refine blockQ.n ?_)
      refine Safe.block ?_
      repeat (first | refine Safe.seq ?_ | refine Safe.skip ?_ | with_reducible refine thenQ.n ?_ | with_reducible refine blockQ.n ?_)
      refine Safe.region ?_
      refine okG h (fun hb465 h => ?_)
      refine SafeOps.quiet0 E_good rfl rfl rfl (v := V.spt 3 (rws api_Entry.cells a0_358) (Int.toNat v19_462) 0) (.idxSlM (f := api_Entry.cells) rfl rfl rfl rfl rfl hb465) ?_
      refine SafeOps.quiet0 E_good rfl rfl rfl (v := V.agg [V.int .i64 ((gt a0_358 v19_462).Kind), V.int .i64 ((gt a0_358 v19_462).A), V.int .i64 ((gt a0_358 v19_462).B)]) (.load rfl rfl (.sptM (f := api_Entry.cells) hb465 rfl) rfl) ?_
      refine SafeOps.quiet1 E_good rfl rfl rfl (.alloc rfl rfl) rfl ?_
      refine SafeOps.store (z := Obj.box [V.int .i64 ((gt a0_358 v19_462).Kind), V.int .i64 ((gt a0_358 v19_462).A), V.int .i64 ((gt a0_358 v19_462).B)]) E_good rfl rfl rfl rfl rfl rfl rfl (.boxM (c := 3) rfl rfl (Nat.le_of_ble_eq_true rfl) rfl) ?_
      refine SafeOps.nil ?_
      repeat (first | refine Safe.seq ?_ | refine Safe.skip ?_ | with_reducible refine thenQ.n ?_ | with_reducible refine blockQ.n ?_)
      refine Safe.region ?_
      refine SafeOps.quiet0 E_good rfl rfl rfl (v := V.ref [7000, 118, 5] 0 (rws (fun n => [V.int .u8 n]) v5_461).length) (.fn rfl) ?_
      refine SafeOps.quiet0 E_good rfl rfl rfl (v := V.ptr [7] 0 0) (.fn rfl) ?_
      refine SafeOps.quiet0 E_good rfl rfl rfl (v := V.int .i64 ((gt a0_358 v19_462).Kind)) (.load rfl rfl (.box rfl rfl) rfl) ?_
      refine SafeOps.quiet0 E_good rfl rfl rfl (v := V.int .u8 (IntKind.u8.wrap ((gt a0_358 v19_462).Kind))) (.fn rfl) ?_
      refine SafeOps.quiet0 E_good rfl rfl rfl (v := V.ptr [7] 0 1) (.fn rfl) ?_
      refine SafeOps.quiet0 E_good rfl rfl rfl (v := V.int .i64 ((gt a0_358 v19_462).A)) (.load rfl rfl (.box rfl rfl) rfl) ?_
      refine SafeOps.quiet0 E_good rfl rfl rfl (v := V.int .u8 (IntKind.u8.wrap ((gt a0_358 v19_462).A))) (.fn rfl) ?_
      refine SafeOps.quiet0 E_good rfl rfl rfl (v := V.ptr [7] 0 2) (.fn rfl) ?_
      refine SafeOps.quiet0 E_good rfl rfl rfl (v := V.int .i64 ((gt a0_358 v19_462).B)) (.load rfl rfl (.box rfl rfl) rfl) ?_
      refine SafeOps.quiet0 E_good rfl rfl rfl (v := V.int .u8 (IntKind.u8.wrap ((gt a0_358 v19_462).B))) (.fn rfl) ?_
      refine SafeOps.quiet1 E_good rfl rfl rfl (.litM (f := (fun n => [V.int .u8 n])) (xs := [IntKind.u8.wrap ((gt a0_358 v19_462).Kind), IntKind.u8.wrap ((gt a0_358 v19_462).A), IntKind.u8.wrap ((gt a0_358 v19_462).B)]) rfl rfl (by decide) rfl rfl rfl rfl rfl) rfl ?_
      refine okG h (fun hb466 h => ?_)
      refine SafeOps.appendM (fun n => [V.int .u8 n]) (xs := v5_461) (ys := [IntKind.u8.wrap ((gt a0_358 v19_462).Kind), IntKind.u8.wrap ((gt a0_358 v19_462).A), IntKind.u8.wrap ((gt a0_358 v19_462).B)]) E_good rfl rfl rfl rfl rfl rfl rfl rfl rfl (.own rfl) (.own rfl) (fun _ => rfl) hb466 ?_
      refine SafeOps.quiet0 E_good rfl rfl rfl (v := V.ref [34] 0 (rws (fun n => [V.int .u8 n]) (v5_461 ++ [IntKind.u8.wrap ((gt a0_358 v19_462).Kind), IntKind.u8.wrap ((gt a0_358 v19_462).A), IntKind.u8.wrap ((gt a0_358 v19_462).B)])).length) (.fn rfl) ?_
      refine SafeOps.nil ?_
      repeat (first | refine Safe.seq ?_ | refine Safe.skip ?_ | with_reducible refine thenQ.n ?_ | with_reducible refine blockQ.n ?_)
      refine Safe.region ?_
      refine SafeOps.quiet0 E_good rfl rfl rfl (v := V.int .i64 (IntKind.i64.wrap (v19_462 + 1))) (.fn rfl) ?_
      refine SafeOps.quiet0 E_good rfl rfl rfl (v := V.int .i64 (IntKind.i64.wrap (v19_462 + 1))) (.fn rfl) ?_
      refine SafeOps.nil ?_
      repeat (first | refine Safe.seq ?_ | refine Safe.skip ?_ | with_reducible refine thenQ.n ?_ | with_reducible refine blockQ.n ?_)
      exact ⟨_, next_out h, (.ren [34] [7000, 118, 5] (.cov ⟨rfl, rfl, (upT_cons (.refl _) (upT_cons (.refl _) (upT_cons (.refl _) (upT_cons (.refl _) upT_nil)))), (upOb_cons rfl (.refl _) upOb_nil), upOut_nil, rfl⟩))⟩
    · skip
      refine Safe.condN rfl hc464 ?_
      repeat (first | refine Safe.seq ?_ | refine Safe.skip ?_ | with_reducible refine thenQ.n ?_ | with_reducible refine blockQ.n ?_)
      refine Safe.exit ?_
      repeat (first | with_reducible refine thenQ.e ?_ | with_reducible refine blockQ.x rfl ?_ | with_reducible refine blockQ.y rfl ?_)
      replace h := inr_out h hr463
      repeat (first | refine Safe.seq ?_ | refine Safe.skip ?_ | with_reducible refine thenQ.n ?_ | with_reducible refine blockQ.n ?_)
      refine Safe.region ?_
      refine SafeOps.quiet0 E_good rfl rfl rfl (v := V.ref [7000, 118, 5] 0 (rws (fun n => [V.int .u8 n]) v5_461).length) (.fn rfl) ?_
      refine SafeOps.quiet0 E_good rfl rfl rfl (v := V.ref [7000, 118, 5] 0 (rws (fun n => [V.int .u8 n]) v5_461).length) (.fn rfl) ?_
      refine SafeOps.quiet0 E_good rfl rfl rfl (v := V.int .i64 0) (.fn rfl) ?_
      refine SafeOps.nil ?_
      repeat (first | refine Safe.seq ?_ | refine Safe.skip ?_ | with_reducible refine thenQ.n ?_ | with_reducible refine blockQ.n ?_)
      refine Safe.ret ?_
      repeat (first | with_reducible refine thenQ.r ?_ | with_reducible refine blockQ.r ?_)
      obtain rfl := Option.some.inj h
      exact retQ.gen (vs := [V.ref [7000, 118, 5] 0 (rws (fun n => [V.int .u8 n]) v5_461).length, V.int .i64 0]) rfl (.tmp (v := V.ref [7000, 118, 5] 0 (rws (fun n => [V.int .u8 n]) v5_461).length) rfl (.tmp (v := V.int .i64 0) rfl .nil)) (by exact (.tup (.cons (.own rfl rfl) (.cons (.free rfl) .nil)))) (by simp) (.inr rfl)

noncomputable def go_ravellaw19_live_j1 (x_484 : List Int) (b_492 : Bool) : Option Bool :=
  if b_492 = true then
    if 0 ≤ (1 : Int) ∧ (1 : Int) < (x_484.length : Int) then
      some ((gt x_484 1) == 5)
    else none
  else
    some false

noncomputable def go_ravellaw19_live  : Option Bool :=
  (go_entry_Fair [api_Entry.zero, (api_Entry.mk 0 1 0), api_Entry.zero, (api_Entry.mk 0 1 0)] 2 2).bind fun (x_481, x_482) =>
  (go_entry_Write [(api_Entry.mk 2 5 0)]).bind fun (x_484, x_485) =>
  if (((x_481 && (x_482 == 0)) && (x_485 == 0)) && ((x_484.length : Int) == 3)) = true then
    if 0 ≤ (0 : Int) ∧ (0 : Int) < (x_484.length : Int) then
      go_ravellaw19_live_j1 x_484 ((gt x_484 0) == 2)
    else none
  else
    go_ravellaw19_live_j1 x_484 false

theorem go_ravellaw19_live_sc  (r : Bool) (h : go_ravellaw19_live  = some r) : SC Try.prog gl 8 [] (V.bool r) := by
  rw [go_ravellaw19_live] at h
  refine SC.of E_good Try.func8 rfl (fun _ _ => Try.call8 _ _) rfl ?_
  repeat (first | refine Safe.seq ?_ | refine Safe.skip ?_ | with_reducible refine thenQ.n ?_ | with_reducible refine blockQ.n ?_)
  refine Safe.region ?_
  refine SafeOps.quiet0 E_good rfl rfl rfl (v := V.bool false) (.fn rfl) ?_
  refine SafeOps.nil ?_
  repeat (first | refine Safe.seq ?_ | refine Safe.skip ?_ | with_reducible refine thenQ.n ?_ | with_reducible refine blockQ.n ?_)
  refine Safe.region ?_
  refine SafeOps.quiet0 E_good rfl rfl rfl (v := V.agg [V.int .i64 0, V.int .i64 0, V.int .i64 0]) (.fn rfl) ?_
  refine SafeOps.quiet0 E_good rfl rfl rfl (v := V.agg [V.int .i64 0, V.int .i64 1, V.int .i64 0]) (.fn rfl) ?_
  refine SafeOps.quiet0 E_good rfl rfl rfl (v := V.agg [V.int .i64 0, V.int .i64 0, V.int .i64 0]) (.fn rfl) ?_
  refine SafeOps.quiet0 E_good rfl rfl rfl (v := V.agg [V.int .i64 0, V.int .i64 1, V.int .i64 0]) (.fn rfl) ?_
  refine SafeOps.quiet1 E_good rfl rfl rfl (.litM (f := api_Entry.cells) (xs := [api_Entry.zero, (api_Entry.mk 0 1 0), api_Entry.zero, (api_Entry.mk 0 1 0)]) rfl rfl (by decide) rfl rfl rfl rfl rfl) rfl ?_
  refine bindG h ?_
  rintro ⟨x_481, x_482⟩ he483 h
  refine SafeOps.quiet0 E_good rfl rfl rfl (v := V.tup [V.bool x_481, V.int .i64 x_482]) (.callS rfl (.cons (.full rfl rfl) (.cons (.free rfl) (.cons (.free rfl) .nil))) (go_entry_Fair_sc [api_Entry.zero, (api_Entry.mk 0 1 0), api_Entry.zero, (api_Entry.mk 0 1 0)] 2 2 _ he483) (.tupL (.cons (.plain rfl) (.cons (.plain rfl) .nil))) rfl) ?_
  refine SafeOps.quiet0 E_good rfl rfl rfl (v := V.tup [V.bool x_481, V.int .i64 x_482]) (.fn rfl) ?_
  refine SafeOps.quiet0 E_good rfl rfl rfl (v := V.bool x_481) (.fn rfl) ?_
  refine SafeOps.quiet0 E_good rfl rfl rfl (v := V.int .i64 x_482) (.fn rfl) ?_
  refine SafeOps.quiet0 E_good rfl rfl rfl (v := V.bool x_481) (.fn rfl) ?_
  refine SafeOps.quiet0 E_good rfl rfl rfl (v := V.int .i64 x_482) (.fn rfl) ?_
  refine SafeOps.nil ?_
  repeat (first | refine Safe.seq ?_ | refine Safe.skip ?_ | with_reducible refine thenQ.n ?_ | with_reducible refine blockQ.n ?_)
  refine Safe.region ?_
  refine SafeOps.quiet0 E_good rfl rfl rfl (v := V.agg [V.int .i64 2, V.int .i64 5, V.int .i64 0]) (.fn rfl) ?_
  refine SafeOps.quiet1 E_good rfl rfl rfl (.litM (f := api_Entry.cells) (xs := [(api_Entry.mk 2 5 0)]) rfl rfl (by decide) rfl rfl rfl rfl rfl) rfl ?_
  refine bindG h ?_
  rintro ⟨x_484, x_485⟩ he486 h
  refine SafeOps.quiet E_good rfl rfl rfl (v := V.tup [V.ref [17, 0] 0 (rws (fun n => [V.int .u8 n]) x_484).length, V.int .i64 x_485]) (.callS rfl (.cons (.full rfl rfl) .nil) (go_entry_Write_sc [(api_Entry.mk 2 5 0)] _ he486) (.tupL (.cons (.ownM (fun _ => rfl)) (.cons (.plain rfl) .nil))) rfl) rfl ?_
  refine SafeOps.quiet0 E_good rfl rfl rfl (v := V.tup [V.ref [17, 0] 0 (rws (fun n => [V.int .u8 n]) x_484).length, V.int .i64 x_485]) (.fn rfl) ?_
  refine SafeOps.quiet0 E_good rfl rfl rfl (v := V.ref [17, 0] 0 (rws (fun n => [V.int .u8 n]) x_484).length) (.fn rfl) ?_
  refine SafeOps.quiet0 E_good rfl rfl rfl (v := V.int .i64 x_485) (.fn rfl) ?_
  refine SafeOps.quiet0 E_good rfl rfl rfl (v := V.ref [17, 0] 0 (rws (fun n => [V.int .u8 n]) x_484).length) (.fn rfl) ?_
  refine SafeOps.quiet0 E_good rfl rfl rfl (v := V.int .i64 x_485) (.fn rfl) ?_
  refine SafeOps.nil ?_
  repeat (first | refine Safe.seq ?_ | refine Safe.skip ?_ | with_reducible refine thenQ.n ?_ | with_reducible refine blockQ.n ?_)
  refine Safe.region ?_
  refine SafeOps.quiet0 E_good rfl rfl rfl (v := V.bool x_481) (.fn rfl) ?_
  refine SafeOps.quiet0 E_good rfl rfl rfl (v := V.bool x_481) (.fn rfl) ?_
  refine SafeOps.bjoin 3 24 (b := (x_481 && (x_482 == 0))) (b1 := (x_482 == 0)) (b0 := false) (fun hc487 K => ?_) (fun hc487 K => ?_) bj_and ?_
  · skip
    refine SafeOps.quiet0 E_good (congrArg some hc487) rfl rfl (v := V.int .i64 x_482) (.fn rfl) ?_
    refine SafeOps.quiet0 E_good (congrArg some hc487) rfl rfl (v := V.bool (x_482 == 0)) (.fn rfl) ?_
    refine SafeOps.quiet0 E_good rfl rfl rfl (v := V.bool (x_482 == 0)) (.pickK rfl hc487 rfl) ?_
    exact SafeOps.drop' 3 rfl rfl rfl K
  · skip
    refine SafeOps.skip (congrArg some hc487) rfl rfl ?_
    refine SafeOps.skip (congrArg some hc487) rfl rfl ?_
    refine SafeOps.quiet0 E_good rfl rfl rfl (v := V.bool false) (.pickK rfl hc487 rfl) ?_
    exact SafeOps.drop' 3 rfl rfl rfl K
  refine SafeOps.quiet0 E_good rfl rfl rfl (v := V.bool (x_481 && (x_482 == 0))) (.fn rfl) ?_
  refine SafeOps.bjoin 3 28 (b := ((x_481 && (x_482 == 0)) && (x_485 == 0))) (b1 := (x_485 == 0)) (b0 := false) (fun hc488 K => ?_) (fun hc488 K => ?_) bj_and ?_
  · skip
    refine SafeOps.quiet0 E_good (congrArg some hc488) rfl rfl (v := V.int .i64 x_485) (.fn rfl) ?_
    refine SafeOps.quiet0 E_good (congrArg some hc488) rfl rfl (v := V.bool (x_485 == 0)) (.fn rfl) ?_
    refine SafeOps.quiet0 E_good rfl rfl rfl (v := V.bool (x_485 == 0)) (.pickK rfl hc488 rfl) ?_
    exact SafeOps.drop' 3 rfl rfl rfl K
  · skip
    refine SafeOps.skip (congrArg some hc488) rfl rfl ?_
    refine SafeOps.skip (congrArg some hc488) rfl rfl ?_
    refine SafeOps.quiet0 E_good rfl rfl rfl (v := V.bool false) (.pickK rfl hc488 rfl) ?_
    exact SafeOps.drop' 3 rfl rfl rfl K
  refine SafeOps.quiet0 E_good rfl rfl rfl (v := V.bool ((x_481 && (x_482 == 0)) && (x_485 == 0))) (.fn rfl) ?_
  refine SafeOps.bjoin 4 33 (b := (((x_481 && (x_482 == 0)) && (x_485 == 0)) && ((x_484.length : Int) == 3))) (b1 := ((x_484.length : Int) == 3)) (b0 := false) (fun hc489 K => ?_) (fun hc489 K => ?_) bj_and ?_
  · skip
    refine SafeOps.quiet0 E_good (congrArg some hc489) rfl rfl (v := V.ref [17, 0] 0 (rws (fun n => [V.int .u8 n]) x_484).length) (.fn rfl) ?_
    refine SafeOps.quiet0 E_good (congrArg some hc489) rfl rfl (v := V.int .i64 (x_484.length : Int)) (.fnE rfl lenE) ?_
    refine SafeOps.quiet0 E_good (congrArg some hc489) rfl rfl (v := V.bool ((x_484.length : Int) == 3)) (.fn rfl) ?_
    refine SafeOps.quiet0 E_good rfl rfl rfl (v := V.bool ((x_484.length : Int) == 3)) (.pickK rfl hc489 rfl) ?_
    exact SafeOps.drop' 4 rfl rfl rfl K
  · skip
    refine SafeOps.skip (congrArg some hc489) rfl rfl ?_
    refine SafeOps.skip (congrArg some hc489) rfl rfl ?_
    refine SafeOps.skip (congrArg some hc489) rfl rfl ?_
    refine SafeOps.quiet0 E_good rfl rfl rfl (v := V.bool false) (.pickK rfl hc489 rfl) ?_
    exact SafeOps.drop' 4 rfl rfl rfl K
  refine SafeOps.quiet0 E_good rfl rfl rfl (v := V.bool (((x_481 && (x_482 == 0)) && (x_485 == 0)) && ((x_484.length : Int) == 3))) (.fn rfl) ?_
  refine SafeOps.bsplit 5 39 (fun b_492 => go_ravellaw19_live_j1 x_484 b_492 = some r) (fun HJ493 => ?_) (fun b_492 h => ?_)
  · refine ifG h (fun hc490 h => ?_) (fun hc490 h => ?_)
    · skip
      refine SafeOps.quiet0 E_good (congrArg some hc490) rfl rfl (v := V.ref [17, 0] 0 (rws (fun n => [V.int .u8 n]) x_484).length) (.fn rfl) ?_
      refine okG h (fun hb497 h => ?_)
      refine SafeOps.quiet0 E_good (congrArg some hc490) rfl rfl (v := V.ptr [17, 0] (0 + Int.toNat 0) 0) (.idxRefM (f := (fun n => [V.int .u8 n])) (xs := x_484) rfl rfl rfl rfl rfl rfl hb497) ?_
      refine SafeOps.quiet0 E_good (congrArg some hc490) rfl rfl (v := V.int .u8 (gt x_484 0)) (.load rfl rfl (.rowsM (f := (fun n => [V.int .u8 n])) (xs := x_484) hb497 rfl rfl) rfl) ?_
      refine SafeOps.quiet0 E_good (congrArg some hc490) rfl rfl (v := V.bool ((gt x_484 0) == 2)) (.fn rfl) ?_
      refine SafeOps.quiet0 E_good rfl rfl rfl (v := V.bool ((gt x_484 0) == 2)) (.pickK rfl hc490 rfl) ?_
      exact SafeOps.drop' 5 rfl rfl rfl (HJ493 _ h)
    · skip
      refine SafeOps.skip (congrArg some hc490) rfl rfl ?_
      refine SafeOps.skip (congrArg some hc490) rfl rfl ?_
      refine SafeOps.skip (congrArg some hc490) rfl rfl ?_
      refine SafeOps.skip (congrArg some hc490) rfl rfl ?_
      refine SafeOps.quiet0 E_good rfl rfl rfl (v := V.bool false) (.pickK rfl hc490 rfl) ?_
      exact SafeOps.drop' 5 rfl rfl rfl (HJ493 _ h)
  · replace h : go_ravellaw19_live_j1 x_484 b_492 = some r := h
    rw [go_ravellaw19_live_j1] at h
    refine SafeOps.quiet0 E_good rfl rfl rfl (v := V.bool b_492) (.fn rfl) ?_
    refine ifG h (fun hc494 h => ?_) (fun hc494 h => ?_)
    · skip
      refine SafeOps.quiet0 E_good (congrArg some hc494) rfl rfl (v := V.ref [17, 0] 0 (rws (fun n => [V.int .u8 n]) x_484).length) (.fn rfl) ?_
      refine okG h (fun hb496 h => ?_)
      refine SafeOps.quiet0 E_good (congrArg some hc494) rfl rfl (v := V.ptr [17, 0] (0 + Int.toNat 1) 0) (.idxRefM (f := (fun n => [V.int .u8 n])) (xs := x_484) rfl rfl rfl rfl rfl rfl hb496) ?_
      refine SafeOps.quiet0 E_good (congrArg some hc494) rfl rfl (v := V.int .u8 (gt x_484 1)) (.load rfl rfl (.rowsM (f := (fun n => [V.int .u8 n])) (xs := x_484) hb496 rfl rfl) rfl) ?_
      refine SafeOps.quiet0 E_good (congrArg some hc494) rfl rfl (v := V.bool ((gt x_484 1) == 5)) (.fn rfl) ?_
      refine SafeOps.quiet0 E_good rfl rfl rfl (v := V.bool ((gt x_484 1) == 5)) (.pickK rfl hc494 rfl) ?_
      refine SafeOps.quiet0 E_good rfl rfl rfl (v := V.bool ((gt x_484 1) == 5)) (.fn rfl) ?_
      refine SafeOps.nil ?_
      repeat (first | refine Safe.seq ?_ | refine Safe.skip ?_ | with_reducible refine thenQ.n ?_ | with_reducible refine blockQ.n ?_)
      refine Safe.ret ?_
      repeat (first | with_reducible refine thenQ.r ?_ | with_reducible refine blockQ.r ?_)
      obtain rfl := Option.some.inj h
      exact retQ.gen (vs := [V.bool ((gt x_484 1) == 5)]) rfl (.tmp (v := V.bool ((gt x_484 1) == 5)) rfl .nil) (.free rfl) (by simp) (.inr rfl)
    · skip
      refine SafeOps.skip (congrArg some hc494) rfl rfl ?_
      refine SafeOps.skip (congrArg some hc494) rfl rfl ?_
      refine SafeOps.skip (congrArg some hc494) rfl rfl ?_
      refine SafeOps.skip (congrArg some hc494) rfl rfl ?_
      refine SafeOps.quiet0 E_good rfl rfl rfl (v := V.bool false) (.pickK rfl hc494 rfl) ?_
      refine SafeOps.quiet0 E_good rfl rfl rfl (v := V.bool false) (.fn rfl) ?_
      refine SafeOps.nil ?_
      repeat (first | refine Safe.seq ?_ | refine Safe.skip ?_ | with_reducible refine thenQ.n ?_ | with_reducible refine blockQ.n ?_)
      refine Safe.ret ?_
      repeat (first | with_reducible refine thenQ.r ?_ | with_reducible refine blockQ.r ?_)
      obtain rfl := Option.some.inj h
      exact retQ.gen (vs := [V.bool false]) rfl (.tmp (v := V.bool false) rfl .nil) (.free rfl) (by simp) (.inr rfl)

theorem okT29 : (eqOk Try.prog E 20 29 && !Try.prog.eqGuardType Try.prog.depth 29) = true := by kernel_rfl

noncomputable def go_ravelref19_SameList_s1 (a0_719 : List api_Entry) (a1_720 : List api_Entry) : (Int) → Option ((Int) ⊕ (Bool))
  | v13_749 =>
    if (decide (v13_749 < (a0_719.length : Int))) = true then
      if 0 ≤ v13_749 ∧ v13_749 < (a0_719.length : Int) then
        if 0 ≤ v13_749 ∧ v13_749 < (a1_720.length : Int) then
          if (!(api_Entry.beq (gt a0_719 v13_749) (gt a1_720 v13_749))) = true then
            inrO (
              some false)
          else
            nextO (IntKind.i64.wrap (v13_749 + 1))
        else none
      else none
    else
      inrO (
        some true)

noncomputable def go_ravelref19_SameList (a0_719 : List api_Entry) (a1_720 : List api_Entry) : Option Bool :=
  if ((a0_719.length : Int) != (a1_720.length : Int)) = true then
    some false
  else
    whileO (go_ravelref19_SameList_s1 a0_719 a1_720) 0

theorem go_ravelref19_SameList_sc (a0_719 : List api_Entry) (a1_720 : List api_Entry) (r : Bool) (h : go_ravelref19_SameList a0_719 a1_720 = some r) : SC Try.prog gl 11 [V.sl 3 (rws api_Entry.cells a0_719), V.sl 3 (rws api_Entry.cells a1_720)] (V.bool r) := by
  rw [go_ravelref19_SameList] at h
  refine SC.of E_good Try.func11 rfl (fun _ _ => Try.call11 _ _) rfl ?_
  repeat (first | refine Safe.seq ?_ | refine Safe.skip ?_ | with_reducible refine thenQ.n ?_ | with_reducible refine blockQ.n ?_)
  refine Safe.region ?_
  refine SafeOps.quiet0 E_good rfl rfl rfl (v := V.bool false) (.fn rfl) ?_
  refine SafeOps.nil ?_
  repeat (first | refine Safe.seq ?_ | refine Safe.skip ?_ | with_reducible refine thenQ.n ?_ | with_reducible refine blockQ.n ?_)
  refine Safe.region ?_
  refine SafeOps.quiet0 E_good rfl rfl rfl (v := V.sl 3 (rws api_Entry.cells a0_719)) (.fn rfl) ?_
  refine SafeOps.quiet0 E_good rfl rfl rfl (v := V.int .i64 (a0_719.length : Int)) (.fnE rfl lenE) ?_
  refine SafeOps.quiet0 E_good rfl rfl rfl (v := V.sl 3 (rws api_Entry.cells a1_720)) (.fn rfl) ?_
  refine SafeOps.quiet0 E_good rfl rfl rfl (v := V.int .i64 (a1_720.length : Int)) (.fnE rfl lenE) ?_
  refine SafeOps.quiet0 E_good rfl rfl rfl (v := V.bool ((a0_719.length : Int) != (a1_720.length : Int))) (.fn rfl) ?_
  refine SafeOps.nil ?_
  repeat (first | refine Safe.seq ?_ | refine Safe.skip ?_ | with_reducible refine thenQ.n ?_ | with_reducible refine blockQ.n ?_)
  refine ifG h (fun hc739 h => ?_) (fun hc739 h => ?_)
  · skip
    refine Safe.condK rfl hc739 ?_
    repeat (first | refine Safe.seq ?_ | refine Safe.skip ?_ | with_reducible refine thenQ.n ?_ | with_reducible refine blockQ.n ?_)
    refine Safe.region ?_
    refine SafeOps.quiet0 E_good rfl rfl rfl (v := V.bool false) (.fn rfl) ?_
    refine SafeOps.nil ?_
    repeat (first | refine Safe.seq ?_ | refine Safe.skip ?_ | with_reducible refine thenQ.n ?_ | with_reducible refine blockQ.n ?_)
    refine Safe.ret ?_
    repeat (first | with_reducible refine thenQ.r ?_ | with_reducible refine blockQ.r ?_)
    obtain rfl := Option.some.inj h
    exact retQ.gen (vs := [V.bool false]) rfl (.tmp (v := V.bool false) rfl .nil) (.free rfl) (by simp) (.inr rfl)
  · skip
    refine Safe.condN rfl hc739 ?_
    repeat (first | refine Safe.seq ?_ | refine Safe.skip ?_ | with_reducible refine thenQ.n ?_ | with_reducible refine blockQ.n ?_)
    refine Safe.region ?_
    refine SafeOps.quiet0 E_good rfl rfl rfl (v := V.sl 3 (rws api_Entry.cells a0_719)) (.fn rfl) ?_
    refine SafeOps.quiet0 E_good rfl rfl rfl (v := V.int .i64 (a0_719.length : Int)) (.fnE rfl lenE) ?_
    refine SafeOps.quiet0 E_good rfl rfl rfl (v := V.int .i64 0) (.fn rfl) ?_
    refine SafeOps.nil ?_
    repeat (first | refine Safe.seq ?_ | refine Safe.skip ?_ | with_reducible refine thenQ.n ?_ | with_reducible refine blockQ.n ?_)
    refine Safe.block ?_
    repeat (first | refine Safe.seq ?_ | refine Safe.skip ?_ | with_reducible refine thenQ.n ?_ | with_reducible refine blockQ.n ?_)
    refine Safe.loopW (fun (v13_749 : Int) => ⟨Try.f11.ntmps, [(0, V.sl 3 (rws api_Entry.cells a0_719)), (1, V.sl 3 (rws api_Entry.cells a1_720)), (12, V.int .i64 (a0_719.length : Int)), (13, V.int .i64 v13_749)], [], [], []⟩) h (.cov ⟨rfl, rfl, (upT_cons (.refl _) (upT_cons (.refl _) (upT_cons (.refl _) (upT_cons (.refl _) upT_nil)))), upOb_nil, upOut_nil, rfl⟩) ?_
    intro v13_749 ohr750 h hr750
    replace h : go_ravelref19_SameList_s1 a0_719 a1_720 v13_749 = some ohr750 := h
    rw [go_ravelref19_SameList_s1] at h
    repeat (first | refine Safe.seq ?_ | refine Safe.skip ?_ | with_reducible refine thenQ.n ?_ | with_reducible refine blockQ.n ?_)
    refine Safe.region ?_
    refine SafeOps.quiet0 E_good rfl rfl rfl (v := V.bool (decide (v13_749 < (a0_719.length : Int)))) (.fn rfl) ?_
    refine SafeOps.nil ?_
    repeat (first | refine Safe.seq ?_ | refine Safe.skip ?_ | with_reducible refine thenQ.n ?_ | with_reducible refine blockQ.n ?_)
    refine ifG h (fun hc751 h => ?_) (fun hc751 h => ?_)
    · skip
      refine Safe.condK rfl hc751 ?_
      repeat (first | refine Safe.seq ?_ | refine Safe.skip ?_ | with_reducible refine thenQ.n ?_ | with_reducible refine blockQ.n ?_)
      refine Safe.block ?_
      repeat (first | refine Safe.seq ?_ | refine Safe.skip ?_ | with_reducible refine thenQ.n ?_ | with_reducible refine blockQ.n ?_)
      refine Safe.region ?_
      refine SafeOps.quiet0 E_good rfl rfl rfl (v := V.int .i64 v13_749) (.fn rfl) ?_
      refine SafeOps.quiet0 E_good rfl rfl rfl (v := V.int .i64 v13_749) (.fn rfl) ?_
      refine SafeOps.nil ?_
      repeat (first | refine Safe.seq ?_ | refine Safe.skip ?_ | with_reducible refine thenQ.n ?_ | with_reducible refine blockQ.n ?_)
      refine Safe.regionD (n := 9) [] [] E_good mixed rfl ?_
      refine DAny.take (i := 0) rfl (by kernel_rfl) [] (by kernel_rfl) (by kernel_rfl) (by kernel_rfl) rfl rfl rfl (v := V.sl 3 (rws api_Entry.cells a0_719)) (fun _ hz => (.fn rfl)) ?_
      refine DAny.take (i := 1) rfl (by kernel_rfl) [] (by kernel_rfl) (by kernel_rfl) (by kernel_rfl) rfl rfl rfl (v := V.int .i64 v13_749) (fun _ hz => (.fn rfl)) ?_
      refine okG h (fun hb752 h => ?_)
      refine DAny.take (i := 2) rfl (by kernel_rfl) [] (by kernel_rfl) (by kernel_rfl) (by kernel_rfl) rfl rfl rfl (v := V.spt 3 (rws api_Entry.cells a0_719) (Int.toNat v13_749) 0) (fun _ hz => (.idxSlM (f := api_Entry.cells) rfl rfl rfl rfl rfl hb752)) ?_
      refine DAny.take (i := 3) rfl (by kernel_rfl) [] (by kernel_rfl) (by kernel_rfl) (by kernel_rfl) rfl rfl rfl (v := V.agg [V.int .i64 ((gt a0_719 v13_749).Kind), V.int .i64 ((gt a0_719 v13_749).A), V.int .i64 ((gt a0_719 v13_749).B)]) (fun _ hz => (.load rfl rfl (.sptM (f := api_Entry.cells) hb752 rfl) rfl)) ?_
      refine DAny.take (i := 4) rfl (by kernel_rfl) [] (by kernel_rfl) (by kernel_rfl) (by kernel_rfl) rfl rfl rfl (v := V.sl 3 (rws api_Entry.cells a1_720)) (fun _ hz => (.fn rfl)) ?_
      refine DAny.take (i := 5) rfl (by kernel_rfl) [] (by kernel_rfl) (by kernel_rfl) (by kernel_rfl) rfl rfl rfl (v := V.int .i64 v13_749) (fun _ hz => (.fn rfl)) ?_
      refine okG h (fun hb753 h => ?_)
      refine DAny.take (i := 6) rfl (by kernel_rfl) [] (by kernel_rfl) (by kernel_rfl) (by kernel_rfl) rfl rfl rfl (v := V.spt 3 (rws api_Entry.cells a1_720) (Int.toNat v13_749) 0) (fun _ hz => (.idxSlM (f := api_Entry.cells) rfl rfl rfl rfl rfl hb753)) ?_
      refine DAny.take (i := 7) rfl (by kernel_rfl) [] (by kernel_rfl) (by kernel_rfl) (by kernel_rfl) rfl rfl rfl (v := V.agg [V.int .i64 ((gt a1_720 v13_749).Kind), V.int .i64 ((gt a1_720 v13_749).A), V.int .i64 ((gt a1_720 v13_749).B)]) (fun _ hz => (.load rfl rfl (.sptM (f := api_Entry.cells) hb753 rfl) rfl)) ?_
      refine DAny.take (i := 8) rfl (by kernel_rfl) [] (by kernel_rfl) (by kernel_rfl) (by kernel_rfl) rfl rfl rfl (v := V.bool (!(api_Entry.beq (gt a0_719 v13_749) (gt a1_720 v13_749)))) (fun _ hz => (.neA rfl rfl rfl rfl okT29 rfl)) ?_
      refine DAny.nil (by kernel_rfl) ?_
      repeat (first | refine Safe.seq ?_ | refine Safe.skip ?_ | with_reducible refine thenQ.n ?_ | with_reducible refine blockQ.n ?_)
      refine ifG h (fun hc754 h => ?_) (fun hc754 h => ?_)
      · skip
        refine Safe.condK rfl hc754 ?_
        repeat (first | refine Safe.seq ?_ | refine Safe.skip ?_ | with_reducible refine thenQ.n ?_ | with_reducible refine blockQ.n ?_)
        refine Safe.region ?_
        refine SafeOps.quiet0 E_good rfl rfl rfl (v := V.bool false) (.fn rfl) ?_
        refine SafeOps.nil ?_
        repeat (first | refine Safe.seq ?_ | refine Safe.skip ?_ | with_reducible refine thenQ.n ?_ | with_reducible refine blockQ.n ?_)
        refine Safe.ret ?_
        repeat (first | with_reducible refine thenQ.r ?_ | with_reducible refine blockQ.r ?_)
        replace h := inr_out h hr750
        obtain rfl := Option.some.inj h
        exact retQ.gen (vs := [V.bool false]) rfl (.tmp (v := V.bool false) rfl .nil) (.free rfl) (by simp) (.inr rfl)
      · skip
        refine Safe.condN rfl hc754 ?_
        repeat (first | refine Safe.seq ?_ | refine Safe.skip ?_ | with_reducible refine thenQ.n ?_ | with_reducible refine blockQ.n ?_)
        refine Safe.region ?_
        refine SafeOps.quiet0 E_good rfl rfl rfl (v := V.int .i64 (IntKind.i64.wrap (v13_749 + 1))) (.fn rfl) ?_
        refine SafeOps.quiet0 E_good rfl rfl rfl (v := V.int .i64 (IntKind.i64.wrap (v13_749 + 1))) (.fn rfl) ?_
        refine SafeOps.nil ?_
        repeat (first | refine Safe.seq ?_ | refine Safe.skip ?_ | with_reducible refine thenQ.n ?_ | with_reducible refine blockQ.n ?_)
        exact ⟨_, next_out h, (.cov ⟨rfl, rfl, (upT_cons (.refl _) (upT_cons (.refl _) (upT_cons (.refl _) (upT_cons (.refl _) upT_nil)))), upOb_nil, upOut_nil, rfl⟩)⟩
    · skip
      refine Safe.condN rfl hc751 ?_
      repeat (first | refine Safe.seq ?_ | refine Safe.skip ?_ | with_reducible refine thenQ.n ?_ | with_reducible refine blockQ.n ?_)
      refine Safe.exit ?_
      repeat (first | with_reducible refine thenQ.e ?_ | with_reducible refine blockQ.x rfl ?_ | with_reducible refine blockQ.y rfl ?_)
      replace h := inr_out h hr750
      repeat (first | refine Safe.seq ?_ | refine Safe.skip ?_ | with_reducible refine thenQ.n ?_ | with_reducible refine blockQ.n ?_)
      refine Safe.region ?_
      refine SafeOps.quiet0 E_good rfl rfl rfl (v := V.bool true) (.fn rfl) ?_
      refine SafeOps.nil ?_
      repeat (first | refine Safe.seq ?_ | refine Safe.skip ?_ | with_reducible refine thenQ.n ?_ | with_reducible refine blockQ.n ?_)
      refine Safe.ret ?_
      repeat (first | with_reducible refine thenQ.r ?_ | with_reducible refine blockQ.r ?_)
      obtain rfl := Option.some.inj h
      exact retQ.gen (vs := [V.bool true]) rfl (.tmp (v := V.bool true) rfl .nil) (.free rfl) (by simp) (.inr rfl)

@[ext] structure api_Instr where
  Op : Int
  A : Int
  B : Int
  deriving Inhabited
def api_Instr.cells (x : api_Instr) : List V := [V.int .i64 x.Op, V.int .i64 x.A, V.int .i64 x.B]
def api_Instr.zero : api_Instr := ⟨0, 0, 0⟩
def api_Instr.beq (x y : api_Instr) : Bool := ((x.Op == y.Op) && ((x.A == y.A) && ((x.B == y.B) && true)))

@[ext] structure api_Config where
  Workers : Int
  Cap : Int
  Budget : Int
  Weights : List Int
  Quotas : List Int
  Progs : List (List api_Instr)
  Tasks : Int
  Fds : Int
  Sems : List Int
  deriving Inhabited
def api_Config.cells (x : api_Config) : List V := [V.int .i64 x.Workers, V.int .i64 x.Cap, V.int .i64 x.Budget, V.sl 1 (rws (fun n => [V.int .i64 n]) x.Weights), V.sl 1 (rws (fun n => [V.int .i64 n]) x.Quotas), V.sl 1 (rws (fun l => [V.sl 3 (rws api_Instr.cells l)]) x.Progs), V.int .i64 x.Tasks, V.int .i64 x.Fds, V.sl 1 (rws (fun n => [V.int .i64 n]) x.Sems)]
def api_Config.zero : api_Config := ⟨0, 0, 0, [], [], [], 0, 0, []⟩

end Go.Proofs.Ythhpnmfcmgdghaa
