/- Helper lemmas for the claim's theorem: an abstract machine over the model, proved sound; no condition beyond each lemma's own. -/
import Derived.Test.YtoapmmcoaggekaaT2
set_option linter.unusedVariables false
set_option linter.unusedSimpArgs false
set_option linter.unnecessarySimpa false
set_option linter.unusedSectionVars false
namespace Go.Proofs.Ytoapmmcoaggekaa
open Go Go.AM
set_option maxRecDepth 100000
set_option maxHeartbeats 1000000
set_option linter.unusedVariables false
set_option linter.unusedSimpArgs false
variable {gl : List (Nat × List V)}
noncomputable def go_ravelref07_push (a0_2499 : List Int) (a1_2500 : api_Deque) (a2_2501 : api_Hand) : Option ((List Int) × api_Hand × Bool) :=
 if (a2_2501.Pc == 0) = true then
  if 0 ≤ a1_2500.Base ∧ a1_2500.Base < (a0_2499.length : Int) then
   letO (go_ravelref07_at (api_Hand.mk a2_2501.Kind a2_2501.Pc a2_2501.V (gt a0_2499 a1_2500.Base) a2_2501.B a2_2501.Won a2_2501.State) 1) fun x_2583 =>
   some (a0_2499, x_2583, go_ravelref07_count (gt a0_2499 a1_2500.Base) 0)
  else none
 else
  if (a2_2501.Pc == 1) = true then
   if 0 ≤ (IntKind.i64.wrap (a1_2500.Base + 1)) ∧ (IntKind.i64.wrap (a1_2500.Base + 1)) < (a0_2499.length : Int) then
    if (decide ((IntKind.i64.wrap ((gt a0_2499 (IntKind.i64.wrap (a1_2500.Base + 1))) - a2_2501.T)) ≥ a1_2500.Cap)) = true then
     letO (go_ravelref07_ended (api_Hand.mk a2_2501.Kind a2_2501.Pc a2_2501.V a2_2501.T (gt a0_2499 (IntKind.i64.wrap (a1_2500.Base + 1))) a2_2501.Won a2_2501.State) 3) fun x_2598 =>
     some (a0_2499, x_2598, go_ravelref07_count (gt a0_2499 (IntKind.i64.wrap (a1_2500.Base + 1))) 0)
    else
     letO (go_ravelref07_at (api_Hand.mk a2_2501.Kind a2_2501.Pc a2_2501.V a2_2501.T (gt a0_2499 (IntKind.i64.wrap (a1_2500.Base + 1))) a2_2501.Won a2_2501.State) 2) fun x_2600 =>
     some (a0_2499, x_2600, go_ravelref07_count (gt a0_2499 (IntKind.i64.wrap (a1_2500.Base + 1))) 0)
   else none
  else
   if (decide (a2_2501.B < 0)) = true then
    some ([], a2_2501, false)
   else
    if (a2_2501.Pc == 2) = true then
     (go_ravelref07_slot a1_2500 a2_2501.B).bind fun x_2610 =>
     (go_ravelref01_With a0_2499 x_2610 a2_2501.V).bind fun x_2612 =>
     letO (go_ravelref07_at a2_2501 3) fun x_2614 =>
     some (x_2612, x_2614, true)
    else
     (go_ravelref01_With a0_2499 (IntKind.i64.wrap (a1_2500.Base + 1)) (IntKind.i64.wrap (a2_2501.B + 1))).bind fun x_2616 =>
     letO (go_ravelref07_ended a2_2501 1) fun x_2618 =>
     some (x_2616, x_2618, true)

noncomputable def go_ravelref07_pop_j2 (a0_2625 : List Int) (a1_2626 : api_Deque) (a2_2627 : api_Hand) (v0_2829 : List Int) : Option ((List Int) × api_Hand × Bool) :=
 letO (go_ravelref07_at (api_Hand.mk a2_2627.Kind a2_2627.Pc a2_2627.V a2_2627.T a2_2627.B ((gt a0_2625 a1_2626.Base) == a2_2627.T) a2_2627.State) 6) fun x_2831 =>
 some (v0_2829, x_2831, true)

noncomputable def go_ravelref07_pop_j3 (a0_2625 : List Int) (a1_2626 : api_Deque) (a2_2627 : api_Hand) (v9_2836 : Int) : Option ((List Int) × api_Hand × Bool) :=
 (go_ravelref01_With a0_2625 (IntKind.i64.wrap (a1_2626.Base + 1)) (IntKind.i64.wrap (a2_2627.T + 1))).bind fun x_2838 =>
 letO (go_ravelref07_ended a2_2627 v9_2836) fun x_2840 =>
 some (x_2838, x_2840, true)

noncomputable def go_ravelref07_pop (a0_2625 : List Int) (a1_2626 : api_Deque) (a2_2627 : api_Hand) : Option ((List Int) × api_Hand × Bool) :=
 if (a2_2627.Pc == 0) = true then
  if 0 ≤ (IntKind.i64.wrap (a1_2626.Base + 1)) ∧ (IntKind.i64.wrap (a1_2626.Base + 1)) < (a0_2625.length : Int) then
   letO (go_ravelref07_at (api_Hand.mk a2_2627.Kind a2_2627.Pc a2_2627.V a2_2627.T (gt a0_2625 (IntKind.i64.wrap (a1_2626.Base + 1))) a2_2627.Won a2_2627.State) 1) fun x_2753 =>
   some (a0_2625, x_2753, go_ravelref07_count (gt a0_2625 (IntKind.i64.wrap (a1_2626.Base + 1))) 0)
  else none
 else
  if (a2_2627.Pc == 1) = true then
   (go_ravelref01_With a0_2625 (IntKind.i64.wrap (a1_2626.Base + 1)) (IntKind.i64.wrap (a2_2627.B - 1))).bind fun x_2760 =>
   letO (go_ravelref07_at (api_Hand.mk a2_2627.Kind a2_2627.Pc a2_2627.V a2_2627.T (IntKind.i64.wrap (a2_2627.B - 1)) a2_2627.Won a2_2627.State) 2) fun x_2762 =>
   some (x_2760, x_2762, decide ((IntKind.i64.wrap (a2_2627.B - 1)) ≥ (-1)))
  else
   if (a2_2627.Pc == 2) = true then
    if 0 ≤ a1_2626.Base ∧ a1_2626.Base < (a0_2625.length : Int) then
     if (decide ((gt a0_2625 a1_2626.Base) > a2_2627.B)) = true then
      letO (go_ravelref07_at (api_Hand.mk a2_2627.Kind a2_2627.Pc a2_2627.V (gt a0_2625 a1_2626.Base) a2_2627.B a2_2627.Won a2_2627.State) 3) fun x_2777 =>
      some (a0_2625, x_2777, go_ravelref07_count (gt a0_2625 a1_2626.Base) 0)
     else
      letO (go_ravelref07_at (api_Hand.mk a2_2627.Kind a2_2627.Pc a2_2627.V (gt a0_2625 a1_2626.Base) a2_2627.B a2_2627.Won a2_2627.State) 4) fun x_2779 =>
      some (a0_2625, x_2779, go_ravelref07_count (gt a0_2625 a1_2626.Base) 0)
    else none
   else
    if ((decide (a2_2627.T < 0)) && (a2_2627.Pc != 4)) = true then
     some ([], a2_2627, false)
    else
     if (a2_2627.Pc == 3) = true then
      (go_ravelref01_With a0_2625 (IntKind.i64.wrap (a1_2626.Base + 1)) a2_2627.T).bind fun x_2788 =>
      letO (go_ravelref07_ended a2_2627 2) fun x_2790 =>
      some (x_2788, x_2790, true)
     else
      if (a2_2627.Pc == 4) = true then
       if (decide (a2_2627.B < 0)) = true then
        some ([], a2_2627, false)
       else
        (go_ravelref07_slot a1_2626 a2_2627.B).bind fun x_2805 =>
        if 0 ≤ x_2805 ∧ x_2805 < (a0_2625.length : Int) then
         if (decide (a2_2627.B > a2_2627.T)) = true then
          letO (go_ravelref07_ended (api_Hand.mk a2_2627.Kind a2_2627.Pc (gt a0_2625 x_2805) a2_2627.T a2_2627.B a2_2627.Won a2_2627.State) 1) fun x_2811 =>
          some (a0_2625, x_2811, true)
         else
          letO (go_ravelref07_at (api_Hand.mk a2_2627.Kind a2_2627.Pc (gt a0_2625 x_2805) a2_2627.T a2_2627.B a2_2627.Won a2_2627.State) 5) fun x_2813 =>
          some (a0_2625, x_2813, true)
        else none
      else
       if (a2_2627.Pc == 5) = true then
        if 0 ≤ a1_2626.Base ∧ a1_2626.Base < (a0_2625.length : Int) then
         if ((gt a0_2625 a1_2626.Base) == a2_2627.T) = true then
          (go_ravelref01_With a0_2625 a1_2626.Base (IntKind.i64.wrap (a2_2627.T + 1))).bind fun x_2834 =>
          go_ravelref07_pop_j2 a0_2625 a1_2626 a2_2627 x_2834
         else
          go_ravelref07_pop_j2 a0_2625 a1_2626 a2_2627 a0_2625
        else none
       else
        if a2_2627.Won = true then
         go_ravelref07_pop_j3 a0_2625 a1_2626 a2_2627 1
        else
         go_ravelref07_pop_j3 a0_2625 a1_2626 a2_2627 2

noncomputable def go_ravelref07_steal (a0_2847 : List Int) (a1_2848 : api_Deque) (a2_2849 : api_Hand) : Option ((List Int) × api_Hand × Bool) :=
 if (a2_2849.Pc == 0) = true then
  if 0 ≤ a1_2848.Base ∧ a1_2848.Base < (a0_2847.length : Int) then
   letO (go_ravelref07_at (api_Hand.mk a2_2849.Kind a2_2849.Pc a2_2849.V (gt a0_2847 a1_2848.Base) a2_2849.B a2_2849.Won a2_2849.State) 1) fun x_2913 =>
   some (a0_2847, x_2913, go_ravelref07_count (gt a0_2847 a1_2848.Base) 0)
  else none
 else
  if (a2_2849.Pc == 1) = true then
   if 0 ≤ (IntKind.i64.wrap (a1_2848.Base + 1)) ∧ (IntKind.i64.wrap (a1_2848.Base + 1)) < (a0_2847.length : Int) then
    if (decide ((IntKind.i64.wrap ((gt a0_2847 (IntKind.i64.wrap (a1_2848.Base + 1))) - a2_2849.T)) < 1)) = true then
     letO (go_ravelref07_ended (api_Hand.mk a2_2849.Kind a2_2849.Pc a2_2849.V a2_2849.T (gt a0_2847 (IntKind.i64.wrap (a1_2848.Base + 1))) a2_2849.Won a2_2849.State) 2) fun x_2928 =>
     some (a0_2847, x_2928, go_ravelref07_count (gt a0_2847 (IntKind.i64.wrap (a1_2848.Base + 1))) (-1))
    else
     letO (go_ravelref07_at (api_Hand.mk a2_2849.Kind a2_2849.Pc a2_2849.V a2_2849.T (gt a0_2847 (IntKind.i64.wrap (a1_2848.Base + 1))) a2_2849.Won a2_2849.State) 2) fun x_2930 =>
     some (a0_2847, x_2930, go_ravelref07_count (gt a0_2847 (IntKind.i64.wrap (a1_2848.Base + 1))) (-1))
   else none
  else
   if (decide (a2_2849.T < 0)) = true then
    some ([], a2_2849, false)
   else
    if (a2_2849.Pc == 2) = true then
     (go_ravelref07_slot a1_2848 a2_2849.T).bind fun x_2939 =>
     if 0 ≤ x_2939 ∧ x_2939 < (a0_2847.length : Int) then
      letO (go_ravelref07_at (api_Hand.mk a2_2849.Kind a2_2849.Pc (gt a0_2847 x_2939) a2_2849.T a2_2849.B a2_2849.Won a2_2849.State) 3) fun x_2942 =>
      some (a0_2847, x_2942, true)
     else none
    else
     if 0 ≤ a1_2848.Base ∧ a1_2848.Base < (a0_2847.length : Int) then
      if ((gt a0_2847 a1_2848.Base) != a2_2849.T) = true then
       letO (go_ravelref07_ended a2_2849 4) fun x_2948 =>
       some (a0_2847, x_2948, true)
      else
       (go_ravelref01_With a0_2847 a1_2848.Base (IntKind.i64.wrap (a2_2849.T + 1))).bind fun x_2950 =>
       letO (go_ravelref07_ended a2_2849 1) fun x_2952 =>
       some (x_2950, x_2952, true)
     else none

noncomputable def go_ravelref07_Step_j1 (v0_3000 : List Int) (v9_3001 : Bool) (v50_3002 : Int) (v51_3003 : Int) (v52_3004 : Int) (v53_3005 : Int) (v54_3006 : Int) (v55_3007 : Bool) (v56_3008 : Int) : Option ((List Int) × api_Hand × Int) :=
 if (!v9_3001) = true then
  some ([], api_Hand.zero, 9)
 else
  some (v0_3000, (api_Hand.mk v50_3002 v51_3003 v52_3004 v53_3005 v54_3006 v55_3007 v56_3008), 0)

noncomputable def go_ravelref07_Step (a0_2467 : List Int) (a1_2468 : api_Deque) (a2_2469 : api_Hand) : Option ((List Int) × api_Hand × Int) :=
 if (((go_ravelref07_Check a0_2467 a1_2468) != 0) || (!(go_ravelref07_May a2_2469))) = true then
  some ([], api_Hand.zero, 1)
 else
  if (a2_2469.State != 0) = true then
   some ([], api_Hand.zero, 9)
  else
   if few ([] ++ a0_2467).length then
    if (a2_2469.Kind == 1) = true then
     (go_ravelref07_push ([] ++ a0_2467) a1_2468 a2_2469).bind fun (x_3012, x_3013, x_3014) =>
     go_ravelref07_Step_j1 x_3012 x_3014 x_3013.Kind x_3013.Pc x_3013.V x_3013.T x_3013.B x_3013.Won x_3013.State
    else
     if (a2_2469.Kind == 2) = true then
      (go_ravelref07_pop ([] ++ a0_2467) a1_2468 a2_2469).bind fun (x_3017, x_3018, x_3019) =>
      go_ravelref07_Step_j1 x_3017 x_3019 x_3018.Kind x_3018.Pc x_3018.V x_3018.T x_3018.B x_3018.Won x_3018.State
     else
      (go_ravelref07_steal ([] ++ a0_2467) a1_2468 a2_2469).bind fun (x_3021, x_3022, x_3023) =>
      go_ravelref07_Step_j1 x_3021 x_3023 x_3022.Kind x_3022.Pc x_3022.V x_3022.T x_3022.B x_3022.Won x_3022.State
   else none

noncomputable def go_ravelref07_Solo_s2 (a1_3034 : api_Deque) : ((List Int) × Int × Int × Int × Int × Int × Bool × Int) → Option (((List Int) × Int × Int × Int × Int × Int × Bool × Int) ⊕ ((List Int) × api_Hand × Int))
 | (v0_3172, v50_3173, v51_3174, v52_3175, v53_3176, v54_3177, v55_3178, v56_3179) =>
  if (v56_3179 == 0) = true then
   (go_ravelref07_Step v0_3172 a1_3034 (api_Hand.mk v50_3173 v51_3174 v52_3175 v53_3176 v54_3177 v55_3178 v56_3179)).bind fun (x_3182, x_3183, x_3184) =>
   if (x_3184 != 0) = true then
    inrO (
     some ([], api_Hand.zero, x_3184))
   else
    nextO (x_3182, x_3183.Kind, x_3183.Pc, x_3183.V, x_3183.T, x_3183.B, x_3183.Won, x_3183.State)
  else
   inrO (
    some (v0_3172, (api_Hand.mk v50_3173 v51_3174 v52_3175 v53_3176 v54_3177 v55_3178 v56_3179), 0))

noncomputable def go_ravelref07_Solo (a0_3033 : List Int) (a1_3034 : api_Deque) (a2_3035 : api_Hand) : Option ((List Int) × api_Hand × Int) :=
 if (((go_ravelref07_Check a0_3033 a1_3034) != 0) || (!(go_ravelref07_May a2_3035))) = true then
  some ([], api_Hand.zero, 1)
 else
  if few ([] ++ a0_3033).length then
   whileO (go_ravelref07_Solo_s2 a1_3034) ([] ++ a0_3033, a2_3035.Kind, a2_3035.Pc, a2_3035.V, a2_3035.T, a2_3035.B, a2_3035.Won, a2_3035.State)
  else none

def go_ravelref07_Start (a0_3194 : Int) (a1_3195 : Int) : api_Hand × Int :=
 if ((go_ravelref07_pcs a0_3194) == 0) = true then
  (api_Hand.zero, 1)
 else
  ((api_Hand.mk a0_3194 0 a1_3195 0 0 false 0), 0)

end Go.Proofs.Ytoapmmcoaggekaa
