/- Helper lemmas for the claim's theorem: an abstract machine over the model, proved sound; no condition beyond each lemma's own. -/
import Derived.Test.YtoapmmcoaggekaaT2
set_option linter.unusedVariables false
set_option linter.unusedSimpArgs false
set_option linter.unnecessarySimpa false
set_option linter.unusedSectionVars false
namespace Go.Proofs.Ytoapmmcoaggekaa
open Go Go.AM
set_option maxRecDepth 100000
set_option maxHeartbeats 1000000
set_option linter.unusedVariables false
set_option linter.unusedSimpArgs false
variable {gl : List (Nat × List V)}
noncomputable def go_ravelref07_pop_j2 (a230 : List Int) (a231 : api_Deque) (a232 : api_Hand) (v233 : List Int) : Option ((List Int) × api_Hand × Bool) :=
 letO (go_ravelref07_at (api_Hand.mk a232.Kind a232.Pc a232.V a232.T a232.B ((gt a230 a231.Base) == a232.T) a232.State) 6) fun x234 =>
 some (v233, x234, true)

noncomputable def go_ravelref07_pop_j3 (a230 : List Int) (a231 : api_Deque) (a232 : api_Hand) (v235 : Int) : Option ((List Int) × api_Hand × Bool) :=
 (go_ravelref01_With a230 (IntKind.i64.wrap (a231.Base + 1)) (IntKind.i64.wrap (a232.T + 1))).bind fun x236 =>
 letO (go_ravelref07_ended a232 v235) fun x237 =>
 some (x236, x237, true)

noncomputable def go_ravelref07_pop (a230 : List Int) (a231 : api_Deque) (a232 : api_Hand) : Option ((List Int) × api_Hand × Bool) :=
 if (a232.Pc == 0) = true then
  if 0 ≤ (IntKind.i64.wrap (a231.Base + 1)) ∧ (IntKind.i64.wrap (a231.Base + 1)) < (a230.length : Int) then
   letO (go_ravelref07_at (api_Hand.mk a232.Kind a232.Pc a232.V a232.T (gt a230 (IntKind.i64.wrap (a231.Base + 1))) a232.Won a232.State) 1) fun x238 =>
   some (a230, x238, go_ravelref07_count (gt a230 (IntKind.i64.wrap (a231.Base + 1))) 0)
  else none
 else
  if (a232.Pc == 1) = true then
   (go_ravelref01_With a230 (IntKind.i64.wrap (a231.Base + 1)) (IntKind.i64.wrap (a232.B - 1))).bind fun x239 =>
   letO (go_ravelref07_at (api_Hand.mk a232.Kind a232.Pc a232.V a232.T (IntKind.i64.wrap (a232.B - 1)) a232.Won a232.State) 2) fun x240 =>
   some (x239, x240, decide ((IntKind.i64.wrap (a232.B - 1)) ≥ (-1)))
  else
   if (a232.Pc == 2) = true then
    if 0 ≤ a231.Base ∧ a231.Base < (a230.length : Int) then
     if (decide ((gt a230 a231.Base) > a232.B)) = true then
      letO (go_ravelref07_at (api_Hand.mk a232.Kind a232.Pc a232.V (gt a230 a231.Base) a232.B a232.Won a232.State) 3) fun x241 =>
      some (a230, x241, go_ravelref07_count (gt a230 a231.Base) 0)
     else
      letO (go_ravelref07_at (api_Hand.mk a232.Kind a232.Pc a232.V (gt a230 a231.Base) a232.B a232.Won a232.State) 4) fun x242 =>
      some (a230, x242, go_ravelref07_count (gt a230 a231.Base) 0)
    else none
   else
    if ((decide (a232.T < 0)) && (a232.Pc != 4)) = true then
     some ([], a232, false)
    else
     if (a232.Pc == 3) = true then
      (go_ravelref01_With a230 (IntKind.i64.wrap (a231.Base + 1)) a232.T).bind fun x243 =>
      letO (go_ravelref07_ended a232 2) fun x244 =>
      some (x243, x244, true)
     else
      if (a232.Pc == 4) = true then
       if (decide (a232.B < 0)) = true then
        some ([], a232, false)
       else
        (go_ravelref07_slot a231 a232.B).bind fun x245 =>
        if 0 ≤ x245 ∧ x245 < (a230.length : Int) then
         if (decide (a232.B > a232.T)) = true then
          letO (go_ravelref07_ended (api_Hand.mk a232.Kind a232.Pc (gt a230 x245) a232.T a232.B a232.Won a232.State) 1) fun x246 =>
          some (a230, x246, true)
         else
          letO (go_ravelref07_at (api_Hand.mk a232.Kind a232.Pc (gt a230 x245) a232.T a232.B a232.Won a232.State) 5) fun x247 =>
          some (a230, x247, true)
        else none
      else
       if (a232.Pc == 5) = true then
        if 0 ≤ a231.Base ∧ a231.Base < (a230.length : Int) then
         if ((gt a230 a231.Base) == a232.T) = true then
          (go_ravelref01_With a230 a231.Base (IntKind.i64.wrap (a232.T + 1))).bind fun x248 =>
          go_ravelref07_pop_j2 a230 a231 a232 x248
         else
          go_ravelref07_pop_j2 a230 a231 a232 a230
        else none
       else
        if a232.Won = true then
         go_ravelref07_pop_j3 a230 a231 a232 1
        else
         go_ravelref07_pop_j3 a230 a231 a232 2

noncomputable def go_ravelref07_steal (a249 : List Int) (a250 : api_Deque) (a251 : api_Hand) : Option ((List Int) × api_Hand × Bool) :=
 if (a251.Pc == 0) = true then
  if 0 ≤ a250.Base ∧ a250.Base < (a249.length : Int) then
   letO (go_ravelref07_at (api_Hand.mk a251.Kind a251.Pc a251.V (gt a249 a250.Base) a251.B a251.Won a251.State) 1) fun x252 =>
   some (a249, x252, go_ravelref07_count (gt a249 a250.Base) 0)
  else none
 else
  if (a251.Pc == 1) = true then
   if 0 ≤ (IntKind.i64.wrap (a250.Base + 1)) ∧ (IntKind.i64.wrap (a250.Base + 1)) < (a249.length : Int) then
    if (decide ((IntKind.i64.wrap ((gt a249 (IntKind.i64.wrap (a250.Base + 1))) - a251.T)) < 1)) = true then
     letO (go_ravelref07_ended (api_Hand.mk a251.Kind a251.Pc a251.V a251.T (gt a249 (IntKind.i64.wrap (a250.Base + 1))) a251.Won a251.State) 2) fun x253 =>
     some (a249, x253, go_ravelref07_count (gt a249 (IntKind.i64.wrap (a250.Base + 1))) (-1))
    else
     letO (go_ravelref07_at (api_Hand.mk a251.Kind a251.Pc a251.V a251.T (gt a249 (IntKind.i64.wrap (a250.Base + 1))) a251.Won a251.State) 2) fun x254 =>
     some (a249, x254, go_ravelref07_count (gt a249 (IntKind.i64.wrap (a250.Base + 1))) (-1))
   else none
  else
   if (decide (a251.T < 0)) = true then
    some ([], a251, false)
   else
    if (a251.Pc == 2) = true then
     (go_ravelref07_slot a250 a251.T).bind fun x255 =>
     if 0 ≤ x255 ∧ x255 < (a249.length : Int) then
      letO (go_ravelref07_at (api_Hand.mk a251.Kind a251.Pc (gt a249 x255) a251.T a251.B a251.Won a251.State) 3) fun x256 =>
      some (a249, x256, true)
     else none
    else
     if 0 ≤ a250.Base ∧ a250.Base < (a249.length : Int) then
      if ((gt a249 a250.Base) != a251.T) = true then
       letO (go_ravelref07_ended a251 4) fun x257 =>
       some (a249, x257, true)
      else
       (go_ravelref01_With a249 a250.Base (IntKind.i64.wrap (a251.T + 1))).bind fun x258 =>
       letO (go_ravelref07_ended a251 1) fun x259 =>
       some (x258, x259, true)
     else none

noncomputable def go_ravelref07_Step_j1 (v260 : List Int) (v261 : Bool) (v262 : Int) (v263 : Int) (v264 : Int) (v265 : Int) (v266 : Int) (v267 : Bool) (v268 : Int) : Option ((List Int) × api_Hand × Int) :=
 if (!v261) = true then
  some ([], api_Hand.zero, 9)
 else
  some (v260, (api_Hand.mk v262 v263 v264 v265 v266 v267 v268), 0)

noncomputable def go_ravelref07_Step (a269 : List Int) (a270 : api_Deque) (a271 : api_Hand) : Option ((List Int) × api_Hand × Int) :=
 if (((go_ravelref07_Check a269 a270) != 0) || (!(go_ravelref07_May a271))) = true then
  some ([], api_Hand.zero, 1)
 else
  if (a271.State != 0) = true then
   some ([], api_Hand.zero, 9)
  else
   if few ([] ++ a269).length then
    if (a271.Kind == 1) = true then
     (go_ravelref07_push ([] ++ a269) a270 a271).bind fun (x272, x273, x274) =>
     go_ravelref07_Step_j1 x272 x274 x273.Kind x273.Pc x273.V x273.T x273.B x273.Won x273.State
    else
     if (a271.Kind == 2) = true then
      (go_ravelref07_pop ([] ++ a269) a270 a271).bind fun (x275, x276, x277) =>
      go_ravelref07_Step_j1 x275 x277 x276.Kind x276.Pc x276.V x276.T x276.B x276.Won x276.State
     else
      (go_ravelref07_steal ([] ++ a269) a270 a271).bind fun (x278, x279, x280) =>
      go_ravelref07_Step_j1 x278 x280 x279.Kind x279.Pc x279.V x279.T x279.B x279.Won x279.State
   else none

def go_ravelref07_Start (a295 : Int) (a296 : Int) : api_Hand × Int :=
 if ((go_ravelref07_pcs a295) == 0) = true then
  (api_Hand.zero, 1)
 else
  ((api_Hand.mk a295 0 a296 0 0 false 0), 0)

end Go.Proofs.Ytoapmmcoaggekaa
