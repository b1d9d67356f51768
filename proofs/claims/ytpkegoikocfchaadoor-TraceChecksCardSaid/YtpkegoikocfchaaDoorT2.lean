/- Helper lemmas for the claim's theorem: an abstract machine over the model, proved sound; no condition beyond each lemma's own. -/
import Derived.Test.YtpkegoikocfchaaDoorT1
set_option linter.unusedVariables false
set_option linter.unusedSimpArgs false
set_option linter.unnecessarySimpa false
set_option linter.unusedSectionVars false
namespace Go.Proofs.YtpkegoikocfchaaDoor
open Go Go.AM
set_option maxRecDepth 100000
set_option maxHeartbeats 1000000
set_option linter.unusedVariables false
set_option linter.unusedSimpArgs false
def go_ravelref04_in (a125 : Int) (a126 : Int) (a127 : Int) : Bool :=
 ((decide (a125 ≥ a126)) && (decide (a125 ≤ a127)))

theorem go_ravelref04_in_sc (a125 : Int) (a126 : Int) (a127 : Int) (r : Bool) (h : go_ravelref04_in a125 a126 a127 = r) : SC Tryd.prog gl 54 [I a125, I a126, I a127] (V.bool r) := by
 rw [go_ravelref04_in] at h
 refine SC.of E_good Tryd.func54 rfl (fun _ _ => Tryd.call54 _ _) rfl ?_
 repeat first|apply sq|apply sk|with_reducible first|apply tn|apply bn
 refine Safe.region ?_
 refine Qf E_good ?_
 refine SafeOps.nil ?_
 repeat first|apply sq|apply sk|with_reducible first|apply tn|apply bn
 refine Safe.region ?_
 refine Qf E_good ?_
 refine Qf E_good ?_
 refine Q0 E_good rfl (v := V.bool (decide (a125 ≥ a126))) (.fn rfl) ?_
 refine Qf E_good ?_
 refine SafeOps.bjoin 4 14 (b := ((decide (a125 ≥ a126)) && (decide (a125 ≤ a127)))) (b1 := decide (a125 ≤ a127)) (b0 := false) (fun hc6683 K => ?_) (fun hc6683 K => ?_) bj_and ?_
 ·skip
  refine qT E_good hc6683 (.fn rfl) ?_
  refine qT E_good hc6683 (.fn rfl) ?_
  refine qT E_good hc6683 (v := V.bool (decide (a125 ≤ a127))) (.fn rfl) ?_
  refine Q0 E_good rfl (v := V.bool (decide (a125 ≤ a127))) (.pickK rfl hc6683 rfl) ?_
  exact SafeOps.drop' 4 rfl rfl rfl K
 ·skip
  refine sT hc6683 ?_
  refine sT hc6683 ?_
  refine sT hc6683 ?_
  refine Q0 E_good rfl (v := V.bool false) (.pickK rfl hc6683 rfl) ?_
  exact SafeOps.drop' 4 rfl rfl rfl K
 refine Qf E_good ?_
 refine SafeOps.nil ?_
 repeat first|apply sq|apply sk|with_reducible first|apply tn|apply bn
 refine Safe.ret ?_
 repeat (first | with_reducible refine thenQ.r ?_ | with_reducible refine blockQ.r ?_)
 obtain rfl := h
 exact retQ.gen (vs := [V.bool ((decide (a125 ≥ a126)) && (decide (a125 ≤ a127)))]) rfl (.tmp rfl .nil) (.free rfl) (by simp) (.inr rfl)

def go_ravelref04_may (a128 : api_Instr) : Bool :=
 if (a128.Op == 1) = true then
  ((go_ravelref04_in a128.A 1 100) && (a128.B == 0))
 else
  if (a128.Op == 2) = true then
   ((go_ravelref04_in a128.A 0 15) && (go_ravelref04_in a128.B 0 3))
  else
   if ((a128.Op == 3) || (a128.Op == 9)) = true then
    ((a128.A == 0) && (a128.B == 0))
   else
    if (a128.Op == 4) = true then
     ((go_ravelref04_in a128.A 1 1000) && (a128.B == 0))
    else
     if (a128.Op == 5) = true then
      ((go_ravelref04_in a128.A 0 15) && (a128.B == 0))
     else
      if (a128.Op == 6) = true then
       ((go_ravelref04_in a128.A 0 3) && (a128.B == 0))
      else
       ((((a128.Op == 7) || (a128.Op == 8)) && (go_ravelref04_in a128.A 0 7)) && (a128.B == 0))

theorem go_ravelref04_may_sc (a128 : api_Instr) (r : Bool) (h : go_ravelref04_may a128 = r) : SC Tryd.prog gl 47 [V.agg [I a128.Op, I a128.A, I a128.B]] (V.bool r) := by
 rw [go_ravelref04_may] at h
 refine SC.of E_good Tryd.func47 rfl (fun _ _ => Tryd.call47 _ _) rfl ?_
 repeat first|apply sq|apply sk|with_reducible first|apply tn|apply bn
 refine Safe.region ?_
 refine SafeOps.quiet1 E_good rfl rfl rfl (.box rfl rfl) rfl ?_
 refine Qf E_good ?_
 refine SafeOps.nil ?_
 repeat first|apply sq|apply sk|with_reducible first|apply tn|apply bn
 refine Safe.region ?_
 refine Q0 E_good rfl (v := V.ptr [1] 0 0) (.fn rfl) ?_
 refine Q0 E_good rfl (v := I a128.Op) (.load rfl rfl (.box rfl rfl) rfl) ?_
 refine Q0 E_good rfl (v := V.bool (a128.Op == 1)) (.fn rfl) ?_
 refine SafeOps.nil ?_
 repeat first|apply sq|apply sk|with_reducible first|apply tn|apply bn
 refine ifG h (fun hc6707 h => ?_) (fun hc6707 h => ?_)
 ·skip
  refine Safe.condK rfl hc6707 ?_
  repeat first|apply sq|apply sk|with_reducible first|apply tn|apply bn
  refine Safe.region ?_
  refine Q0 E_good rfl (v := V.ptr [1] 0 1) (.fn rfl) ?_
  refine Q0 E_good rfl (v := I a128.A) (.load rfl rfl (.box rfl rfl) rfl) ?_
  refine Q0 E_good rfl (v := V.bool (go_ravelref04_in a128.A 1 100)) (.callP rfl rfl (go_ravelref04_in_sc a128.A 1 100 _ rfl) rfl) ?_
  refine Qf E_good ?_
  refine SafeOps.bjoin 4 13 (b := ((go_ravelref04_in a128.A 1 100) && (a128.B == 0))) (b1 := (a128.B == 0)) (b0 := false) (fun hc6708 K => ?_) (fun hc6708 K => ?_) bj_and ?_
  ·skip
   refine qT E_good hc6708 (v := V.ptr [1] 0 2) (.fn rfl) ?_
   refine qT E_good hc6708 (v := I a128.B) (.load rfl rfl (.box rfl rfl) rfl) ?_
   refine qT E_good hc6708 (v := V.bool (a128.B == 0)) (.fn rfl) ?_
   refine Q0 E_good rfl (v := V.bool (a128.B == 0)) (.pickK rfl hc6708 rfl) ?_
   exact SafeOps.drop' 4 rfl rfl rfl K
  ·skip
   refine sT hc6708 ?_
   refine sT hc6708 ?_
   refine sT hc6708 ?_
   refine Q0 E_good rfl (v := V.bool false) (.pickK rfl hc6708 rfl) ?_
   exact SafeOps.drop' 4 rfl rfl rfl K
  refine Qf E_good ?_
  refine SafeOps.nil ?_
  repeat first|apply sq|apply sk|with_reducible first|apply tn|apply bn
  refine Safe.ret ?_
  repeat (first | with_reducible refine thenQ.r ?_ | with_reducible refine blockQ.r ?_)
  obtain rfl := h
  exact retQ.gen (vs := [V.bool ((go_ravelref04_in a128.A 1 100) && (a128.B == 0))]) rfl (.tmp rfl .nil) (.free rfl) (by simp) (.inr rfl)
 ·skip
  refine Safe.condN rfl hc6707 ?_
  repeat first|apply sq|apply sk|with_reducible first|apply tn|apply bn
  refine Safe.region ?_
  refine Q0 E_good rfl (v := V.ptr [1] 0 0) (.fn rfl) ?_
  refine Q0 E_good rfl (v := I a128.Op) (.load rfl rfl (.box rfl rfl) rfl) ?_
  refine Q0 E_good rfl (v := V.bool (a128.Op == 2)) (.fn rfl) ?_
  refine SafeOps.nil ?_
  repeat first|apply sq|apply sk|with_reducible first|apply tn|apply bn
  refine ifG h (fun hc6710 h => ?_) (fun hc6710 h => ?_)
  ·skip
   refine Safe.condK rfl hc6710 ?_
   repeat first|apply sq|apply sk|with_reducible first|apply tn|apply bn
   refine Safe.region ?_
   refine Q0 E_good rfl (v := V.ptr [1] 0 1) (.fn rfl) ?_
   refine Q0 E_good rfl (v := I a128.A) (.load rfl rfl (.box rfl rfl) rfl) ?_
   refine Q0 E_good rfl (v := V.bool (go_ravelref04_in a128.A 0 15)) (.callP rfl rfl (go_ravelref04_in_sc a128.A 0 15 _ rfl) rfl) ?_
   refine Qf E_good ?_
   refine SafeOps.bjoin 4 24 (b := ((go_ravelref04_in a128.A 0 15) && (go_ravelref04_in a128.B 0 3))) (b1 := go_ravelref04_in a128.B 0 3) (b0 := false) (fun hc6711 K => ?_) (fun hc6711 K => ?_) bj_and ?_
   ·skip
    refine qT E_good hc6711 (v := V.ptr [1] 0 2) (.fn rfl) ?_
    refine qT E_good hc6711 (v := I a128.B) (.load rfl rfl (.box rfl rfl) rfl) ?_
    refine qT E_good hc6711 (v := V.bool (go_ravelref04_in a128.B 0 3)) (.callP rfl rfl (go_ravelref04_in_sc a128.B 0 3 _ rfl) rfl) ?_
    refine Q0 E_good rfl (v := V.bool (go_ravelref04_in a128.B 0 3)) (.pickK rfl hc6711 rfl) ?_
    exact SafeOps.drop' 4 rfl rfl rfl K
   ·skip
    refine sT hc6711 ?_
    refine sT hc6711 ?_
    refine sT hc6711 ?_
    refine Q0 E_good rfl (v := V.bool false) (.pickK rfl hc6711 rfl) ?_
    exact SafeOps.drop' 4 rfl rfl rfl K
   refine Qf E_good ?_
   refine SafeOps.nil ?_
   repeat first|apply sq|apply sk|with_reducible first|apply tn|apply bn
   refine Safe.ret ?_
   repeat (first | with_reducible refine thenQ.r ?_ | with_reducible refine blockQ.r ?_)
   obtain rfl := h
   exact retQ.gen (vs := [V.bool ((go_ravelref04_in a128.A 0 15) && (go_ravelref04_in a128.B 0 3))]) rfl (.tmp rfl .nil) (.free rfl) (by simp) (.inr rfl)
  ·skip
   refine Safe.condN rfl hc6710 ?_
   repeat first|apply sq|apply sk|with_reducible first|apply tn|apply bn
   refine Safe.region ?_
   refine Q0 E_good rfl (v := V.ptr [1] 0 0) (.fn rfl) ?_
   refine Q0 E_good rfl (v := I a128.Op) (.load rfl rfl (.box rfl rfl) rfl) ?_
   refine Q0 E_good rfl (v := V.bool (a128.Op == 3)) (.fn rfl) ?_
   refine Qf E_good ?_
   refine SafeOps.bjoin 4 32 (b := ((a128.Op == 3) || (a128.Op == 9))) (b1 := true) (b0 := (a128.Op == 9)) (fun hc6712 K => ?_) (fun hc6712 K => ?_) bj_or ?_
   ·skip
    refine sF hc6712 ?_
    refine sF hc6712 ?_
    refine sF hc6712 ?_
    refine Q0 E_good rfl (v := V.bool true) (.pickK rfl hc6712 rfl) ?_
    exact SafeOps.drop' 4 rfl rfl rfl K
   ·skip
    refine qF E_good hc6712 (v := V.ptr [1] 0 0) (.fn rfl) ?_
    refine qF E_good hc6712 (v := I a128.Op) (.load rfl rfl (.box rfl rfl) rfl) ?_
    refine qF E_good hc6712 (v := V.bool (a128.Op == 9)) (.fn rfl) ?_
    refine Q0 E_good rfl (v := V.bool (a128.Op == 9)) (.pickK rfl hc6712 rfl) ?_
    exact SafeOps.drop' 4 rfl rfl rfl K
   refine SafeOps.nil ?_
   repeat first|apply sq|apply sk|with_reducible first|apply tn|apply bn
   refine ifG h (fun hc6714 h => ?_) (fun hc6714 h => ?_)
   ·skip
    refine Safe.condK rfl hc6714 ?_
    repeat first|apply sq|apply sk|with_reducible first|apply tn|apply bn
    refine Safe.region ?_
    refine Q0 E_good rfl (v := V.ptr [1] 0 1) (.fn rfl) ?_
    refine Q0 E_good rfl (v := I a128.A) (.load rfl rfl (.box rfl rfl) rfl) ?_
    refine Q0 E_good rfl (v := V.bool (a128.A == 0)) (.fn rfl) ?_
    refine Qf E_good ?_
    refine SafeOps.bjoin 4 40 (b := ((a128.A == 0) && (a128.B == 0))) (b1 := (a128.B == 0)) (b0 := false) (fun hc6715 K => ?_) (fun hc6715 K => ?_) bj_and ?_
    ·skip
     refine qT E_good hc6715 (v := V.ptr [1] 0 2) (.fn rfl) ?_
     refine qT E_good hc6715 (v := I a128.B) (.load rfl rfl (.box rfl rfl) rfl) ?_
     refine qT E_good hc6715 (v := V.bool (a128.B == 0)) (.fn rfl) ?_
     refine Q0 E_good rfl (v := V.bool (a128.B == 0)) (.pickK rfl hc6715 rfl) ?_
     exact SafeOps.drop' 4 rfl rfl rfl K
    ·skip
     refine sT hc6715 ?_
     refine sT hc6715 ?_
     refine sT hc6715 ?_
     refine Q0 E_good rfl (v := V.bool false) (.pickK rfl hc6715 rfl) ?_
     exact SafeOps.drop' 4 rfl rfl rfl K
    refine Qf E_good ?_
    refine SafeOps.nil ?_
    repeat first|apply sq|apply sk|with_reducible first|apply tn|apply bn
    refine Safe.ret ?_
    repeat (first | with_reducible refine thenQ.r ?_ | with_reducible refine blockQ.r ?_)
    obtain rfl := h
    exact retQ.gen (vs := [V.bool ((a128.A == 0) && (a128.B == 0))]) rfl (.tmp rfl .nil) (.free rfl) (by simp) (.inr rfl)
   ·skip
    refine Safe.condN rfl hc6714 ?_
    repeat first|apply sq|apply sk|with_reducible first|apply tn|apply bn
    refine Safe.region ?_
    refine Q0 E_good rfl (v := V.ptr [1] 0 0) (.fn rfl) ?_
    refine Q0 E_good rfl (v := I a128.Op) (.load rfl rfl (.box rfl rfl) rfl) ?_
    refine Q0 E_good rfl (v := V.bool (a128.Op == 4)) (.fn rfl) ?_
    refine SafeOps.nil ?_
    repeat first|apply sq|apply sk|with_reducible first|apply tn|apply bn
    refine ifG h (fun hc6717 h => ?_) (fun hc6717 h => ?_)
    ·skip
     refine Safe.condK rfl hc6717 ?_
     repeat first|apply sq|apply sk|with_reducible first|apply tn|apply bn
     refine Safe.region ?_
     refine Q0 E_good rfl (v := V.ptr [1] 0 1) (.fn rfl) ?_
     refine Q0 E_good rfl (v := I a128.A) (.load rfl rfl (.box rfl rfl) rfl) ?_
     refine Q0 E_good rfl (v := V.bool (go_ravelref04_in a128.A 1 1000)) (.callP rfl rfl (go_ravelref04_in_sc a128.A 1 1000 _ rfl) rfl) ?_
     refine Qf E_good ?_
     refine SafeOps.bjoin 4 51 (b := ((go_ravelref04_in a128.A 1 1000) && (a128.B == 0))) (b1 := (a128.B == 0)) (b0 := false) (fun hc6718 K => ?_) (fun hc6718 K => ?_) bj_and ?_
     ·skip
      refine qT E_good hc6718 (v := V.ptr [1] 0 2) (.fn rfl) ?_
      refine qT E_good hc6718 (v := I a128.B) (.load rfl rfl (.box rfl rfl) rfl) ?_
      refine qT E_good hc6718 (v := V.bool (a128.B == 0)) (.fn rfl) ?_
      refine Q0 E_good rfl (v := V.bool (a128.B == 0)) (.pickK rfl hc6718 rfl) ?_
      exact SafeOps.drop' 4 rfl rfl rfl K
     ·skip
      refine sT hc6718 ?_
      refine sT hc6718 ?_
      refine sT hc6718 ?_
      refine Q0 E_good rfl (v := V.bool false) (.pickK rfl hc6718 rfl) ?_
      exact SafeOps.drop' 4 rfl rfl rfl K
     refine Qf E_good ?_
     refine SafeOps.nil ?_
     repeat first|apply sq|apply sk|with_reducible first|apply tn|apply bn
     refine Safe.ret ?_
     repeat (first | with_reducible refine thenQ.r ?_ | with_reducible refine blockQ.r ?_)
     obtain rfl := h
     exact retQ.gen (vs := [V.bool ((go_ravelref04_in a128.A 1 1000) && (a128.B == 0))]) rfl (.tmp rfl .nil) (.free rfl) (by simp) (.inr rfl)
    ·skip
     refine Safe.condN rfl hc6717 ?_
     repeat first|apply sq|apply sk|with_reducible first|apply tn|apply bn
     refine Safe.region ?_
     refine Q0 E_good rfl (v := V.ptr [1] 0 0) (.fn rfl) ?_
     refine Q0 E_good rfl (v := I a128.Op) (.load rfl rfl (.box rfl rfl) rfl) ?_
     refine Q0 E_good rfl (v := V.bool (a128.Op == 5)) (.fn rfl) ?_
     refine SafeOps.nil ?_
     repeat first|apply sq|apply sk|with_reducible first|apply tn|apply bn
     refine ifG h (fun hc6720 h => ?_) (fun hc6720 h => ?_)
     ·skip
      refine Safe.condK rfl hc6720 ?_
      repeat first|apply sq|apply sk|with_reducible first|apply tn|apply bn
      refine Safe.region ?_
      refine Q0 E_good rfl (v := V.ptr [1] 0 1) (.fn rfl) ?_
      refine Q0 E_good rfl (v := I a128.A) (.load rfl rfl (.box rfl rfl) rfl) ?_
      refine Q0 E_good rfl (v := V.bool (go_ravelref04_in a128.A 0 15)) (.callP rfl rfl (go_ravelref04_in_sc a128.A 0 15 _ rfl) rfl) ?_
      refine Qf E_good ?_
      refine SafeOps.bjoin 4 62 (b := ((go_ravelref04_in a128.A 0 15) && (a128.B == 0))) (b1 := (a128.B == 0)) (b0 := false) (fun hc6721 K => ?_) (fun hc6721 K => ?_) bj_and ?_
      ·skip
       refine qT E_good hc6721 (v := V.ptr [1] 0 2) (.fn rfl) ?_
       refine qT E_good hc6721 (v := I a128.B) (.load rfl rfl (.box rfl rfl) rfl) ?_
       refine qT E_good hc6721 (v := V.bool (a128.B == 0)) (.fn rfl) ?_
       refine Q0 E_good rfl (v := V.bool (a128.B == 0)) (.pickK rfl hc6721 rfl) ?_
       exact SafeOps.drop' 4 rfl rfl rfl K
      ·skip
       refine sT hc6721 ?_
       refine sT hc6721 ?_
       refine sT hc6721 ?_
       refine Q0 E_good rfl (v := V.bool false) (.pickK rfl hc6721 rfl) ?_
       exact SafeOps.drop' 4 rfl rfl rfl K
      refine Qf E_good ?_
      refine SafeOps.nil ?_
      repeat first|apply sq|apply sk|with_reducible first|apply tn|apply bn
      refine Safe.ret ?_
      repeat (first | with_reducible refine thenQ.r ?_ | with_reducible refine blockQ.r ?_)
      obtain rfl := h
      exact retQ.gen (vs := [V.bool ((go_ravelref04_in a128.A 0 15) && (a128.B == 0))]) rfl (.tmp rfl .nil) (.free rfl) (by simp) (.inr rfl)
     ·skip
      refine Safe.condN rfl hc6720 ?_
      repeat first|apply sq|apply sk|with_reducible first|apply tn|apply bn
      refine Safe.region ?_
      refine Q0 E_good rfl (v := V.ptr [1] 0 0) (.fn rfl) ?_
      refine Q0 E_good rfl (v := I a128.Op) (.load rfl rfl (.box rfl rfl) rfl) ?_
      refine Q0 E_good rfl (v := V.bool (a128.Op == 6)) (.fn rfl) ?_
      refine SafeOps.nil ?_
      repeat first|apply sq|apply sk|with_reducible first|apply tn|apply bn
      refine ifG h (fun hc6723 h => ?_) (fun hc6723 h => ?_)
      ·skip
       refine Safe.condK rfl hc6723 ?_
       repeat first|apply sq|apply sk|with_reducible first|apply tn|apply bn
       refine Safe.region ?_
       refine Q0 E_good rfl (v := V.ptr [1] 0 1) (.fn rfl) ?_
       refine Q0 E_good rfl (v := I a128.A) (.load rfl rfl (.box rfl rfl) rfl) ?_
       refine Q0 E_good rfl (v := V.bool (go_ravelref04_in a128.A 0 3)) (.callP rfl rfl (go_ravelref04_in_sc a128.A 0 3 _ rfl) rfl) ?_
       refine Qf E_good ?_
       refine SafeOps.bjoin 4 73 (b := ((go_ravelref04_in a128.A 0 3) && (a128.B == 0))) (b1 := (a128.B == 0)) (b0 := false) (fun hc6724 K => ?_) (fun hc6724 K => ?_) bj_and ?_
       ·skip
        refine qT E_good hc6724 (v := V.ptr [1] 0 2) (.fn rfl) ?_
        refine qT E_good hc6724 (v := I a128.B) (.load rfl rfl (.box rfl rfl) rfl) ?_
        refine qT E_good hc6724 (v := V.bool (a128.B == 0)) (.fn rfl) ?_
        refine Q0 E_good rfl (v := V.bool (a128.B == 0)) (.pickK rfl hc6724 rfl) ?_
        exact SafeOps.drop' 4 rfl rfl rfl K
       ·skip
        refine sT hc6724 ?_
        refine sT hc6724 ?_
        refine sT hc6724 ?_
        refine Q0 E_good rfl (v := V.bool false) (.pickK rfl hc6724 rfl) ?_
        exact SafeOps.drop' 4 rfl rfl rfl K
       refine Qf E_good ?_
       refine SafeOps.nil ?_
       repeat first|apply sq|apply sk|with_reducible first|apply tn|apply bn
       refine Safe.ret ?_
       repeat (first | with_reducible refine thenQ.r ?_ | with_reducible refine blockQ.r ?_)
       obtain rfl := h
       exact retQ.gen (vs := [V.bool ((go_ravelref04_in a128.A 0 3) && (a128.B == 0))]) rfl (.tmp rfl .nil) (.free rfl) (by simp) (.inr rfl)
      ·skip
       refine Safe.condN rfl hc6723 ?_
       repeat first|apply sq|apply sk|with_reducible first|apply tn|apply bn
       refine Safe.region ?_
       refine Q0 E_good rfl (v := V.ptr [1] 0 0) (.fn rfl) ?_
       refine Q0 E_good rfl (v := I a128.Op) (.load rfl rfl (.box rfl rfl) rfl) ?_
       refine Q0 E_good rfl (v := V.bool (a128.Op == 7)) (.fn rfl) ?_
       refine Qf E_good ?_
       refine SafeOps.bjoin 4 81 (b := ((a128.Op == 7) || (a128.Op == 8))) (b1 := true) (b0 := (a128.Op == 8)) (fun hc6725 K => ?_) (fun hc6725 K => ?_) bj_or ?_
       ·skip
        refine sF hc6725 ?_
        refine sF hc6725 ?_
        refine sF hc6725 ?_
        refine Q0 E_good rfl (v := V.bool true) (.pickK rfl hc6725 rfl) ?_
        exact SafeOps.drop' 4 rfl rfl rfl K
       ·skip
        refine qF E_good hc6725 (v := V.ptr [1] 0 0) (.fn rfl) ?_
        refine qF E_good hc6725 (v := I a128.Op) (.load rfl rfl (.box rfl rfl) rfl) ?_
        refine qF E_good hc6725 (v := V.bool (a128.Op == 8)) (.fn rfl) ?_
        refine Q0 E_good rfl (v := V.bool (a128.Op == 8)) (.pickK rfl hc6725 rfl) ?_
        exact SafeOps.drop' 4 rfl rfl rfl K
       refine Qf E_good ?_
       refine SafeOps.bjoin 4 86 (b := (((a128.Op == 7) || (a128.Op == 8)) && (go_ravelref04_in a128.A 0 7))) (b1 := go_ravelref04_in a128.A 0 7) (b0 := false) (fun hc6726 K => ?_) (fun hc6726 K => ?_) bj_and ?_
       ·skip
        refine qT E_good hc6726 (v := V.ptr [1] 0 1) (.fn rfl) ?_
        refine qT E_good hc6726 (v := I a128.A) (.load rfl rfl (.box rfl rfl) rfl) ?_
        refine qT E_good hc6726 (v := V.bool (go_ravelref04_in a128.A 0 7)) (.callP rfl rfl (go_ravelref04_in_sc a128.A 0 7 _ rfl) rfl) ?_
        refine Q0 E_good rfl (v := V.bool (go_ravelref04_in a128.A 0 7)) (.pickK rfl hc6726 rfl) ?_
        exact SafeOps.drop' 4 rfl rfl rfl K
       ·skip
        refine sT hc6726 ?_
        refine sT hc6726 ?_
        refine sT hc6726 ?_
        refine Q0 E_good rfl (v := V.bool false) (.pickK rfl hc6726 rfl) ?_
        exact SafeOps.drop' 4 rfl rfl rfl K
       refine Qf E_good ?_
       refine SafeOps.bjoin 4 91 (b := ((((a128.Op == 7) || (a128.Op == 8)) && (go_ravelref04_in a128.A 0 7)) && (a128.B == 0))) (b1 := (a128.B == 0)) (b0 := false) (fun hc6727 K => ?_) (fun hc6727 K => ?_) bj_and ?_
       ·skip
        refine qT E_good hc6727 (v := V.ptr [1] 0 2) (.fn rfl) ?_
        refine qT E_good hc6727 (v := I a128.B) (.load rfl rfl (.box rfl rfl) rfl) ?_
        refine qT E_good hc6727 (v := V.bool (a128.B == 0)) (.fn rfl) ?_
        refine Q0 E_good rfl (v := V.bool (a128.B == 0)) (.pickK rfl hc6727 rfl) ?_
        exact SafeOps.drop' 4 rfl rfl rfl K
       ·skip
        refine sT hc6727 ?_
        refine sT hc6727 ?_
        refine sT hc6727 ?_
        refine Q0 E_good rfl (v := V.bool false) (.pickK rfl hc6727 rfl) ?_
        exact SafeOps.drop' 4 rfl rfl rfl K
       refine Qf E_good ?_
       refine SafeOps.nil ?_
       repeat first|apply sq|apply sk|with_reducible first|apply tn|apply bn
       refine Safe.ret ?_
       repeat (first | with_reducible refine thenQ.r ?_ | with_reducible refine blockQ.r ?_)
       obtain rfl := h
       exact retQ.gen (vs := [V.bool ((((a128.Op == 7) || (a128.Op == 8)) && (go_ravelref04_in a128.A 0 7)) && (a128.B == 0))]) rfl (.tmp rfl .nil) (.free rfl) (by simp) (.inr rfl)

noncomputable def go_ravelref04_Check_s1 (a129 : List api_Instr) : (Int) → Option ((Int) ⊕ (Int))
 | v130 =>
  if (decide (v130 < (a129.length : Int))) = true then
   if 0 ≤ v130 ∧ v130 < (a129.length : Int) then
    if (!(go_ravelref04_may (gt a129 v130))) = true then
     inrO (
      some 1)
    else
     nextO (IntKind.i64.wrap (v130 + 1))
   else none
  else
   inrO (
    some 0)

noncomputable def go_ravelref04_Check (a129 : List api_Instr) : Option Int :=
 if ((decide ((a129.length : Int) < 1)) || (decide ((a129.length : Int) > 32))) = true then
  some 1
 else
  whileO (go_ravelref04_Check_s1 a129) 0

theorem go_ravelref04_Check_sc (a129 : List api_Instr) (r : Int) (h : go_ravelref04_Check a129 = some r) : SC Tryd.prog gl 37 [V.sl 3 (rws api_Instr.cells a129)] (I r) := by
 rw [go_ravelref04_Check] at h
 refine SC.of E_good Tryd.func37 rfl (fun _ _ => Tryd.call37 _ _) rfl ?_
 repeat first|apply sq|apply sk|with_reducible first|apply tn|apply bn
 refine Safe.region ?_
 refine Qf E_good ?_
 refine SafeOps.nil ?_
 repeat first|apply sq|apply sk|with_reducible first|apply tn|apply bn
 refine Safe.region ?_
 refine Qf E_good ?_
 refine Q0 E_good rfl (v := I (a129.length : Int)) (.fnE rfl lenE) ?_
 refine Q0 E_good rfl (v := V.bool (decide ((a129.length : Int) < 1))) (.fn rfl) ?_
 refine Qf E_good ?_
 refine SafeOps.bjoin 4 12 (b := ((decide ((a129.length : Int) < 1)) || (decide ((a129.length : Int) > 32)))) (b1 := true) (b0 := decide ((a129.length : Int) > 32)) (fun hc6738 K => ?_) (fun hc6738 K => ?_) bj_or ?_
 ·skip
  refine sF hc6738 ?_
  refine sF hc6738 ?_
  refine sF hc6738 ?_
  refine Q0 E_good rfl (v := V.bool true) (.pickK rfl hc6738 rfl) ?_
  exact SafeOps.drop' 4 rfl rfl rfl K
 ·skip
  refine qF E_good hc6738 (.fn rfl) ?_
  refine qF E_good hc6738 (v := I (a129.length : Int)) (.fnE rfl lenE) ?_
  refine qF E_good hc6738 (v := V.bool (decide ((a129.length : Int) > 32))) (.fn rfl) ?_
  refine Q0 E_good rfl (v := V.bool (decide ((a129.length : Int) > 32))) (.pickK rfl hc6738 rfl) ?_
  exact SafeOps.drop' 4 rfl rfl rfl K
 refine SafeOps.nil ?_
 repeat first|apply sq|apply sk|with_reducible first|apply tn|apply bn
 refine ifG h (fun hc6739 h => ?_) (fun hc6739 h => ?_)
 ·skip
  refine Safe.condK rfl hc6739 ?_
  repeat first|apply sq|apply sk|with_reducible first|apply tn|apply bn
  refine Safe.region ?_
  refine Qf E_good ?_
  refine SafeOps.nil ?_
  repeat first|apply sq|apply sk|with_reducible first|apply tn|apply bn
  refine Safe.ret ?_
  repeat (first | with_reducible refine thenQ.r ?_ | with_reducible refine blockQ.r ?_)
  obtain rfl := Option.some.inj h
  exact retQ.gen (vs := [I 1]) rfl (.tmp rfl .nil) (.free rfl) (by simp) (.inr rfl)
 ·skip
  refine Safe.condN rfl hc6739 ?_
  repeat first|apply sq|apply sk|with_reducible first|apply tn|apply bn
  refine Safe.region ?_
  refine Qf E_good ?_
  refine Q0 E_good rfl (v := I (a129.length : Int)) (.fnE rfl lenE) ?_
  refine Qf E_good ?_
  refine SafeOps.nil ?_
  repeat first|apply sq|apply sk|with_reducible first|apply tn|apply bn
  refine Safe.block ?_
  repeat first|apply sq|apply sk|with_reducible first|apply tn|apply bn
  refine Safe.loopW (fun (v130 : Int) => ⟨Tryd.f37.ntmps, [(13, V.sl 3 (rws api_Instr.cells a129)), (14, I (a129.length : Int)), (15, I v130)], [], [], []⟩) h (.cov ⟨rfl, rfl, (ut (ut (ut upT_nil))), upOb_nil, upOut_nil, rfl⟩) ?_
  intro v130 ohr6748 h hr6748
  replace h : go_ravelref04_Check_s1 a129 v130 = some ohr6748 := h
  rw [go_ravelref04_Check_s1] at h
  repeat first|apply sq|apply sk|with_reducible first|apply tn|apply bn
  refine Safe.region ?_
  refine Q0 E_good rfl (v := V.bool (decide (v130 < (a129.length : Int)))) (.fn rfl) ?_
  refine SafeOps.nil ?_
  repeat first|apply sq|apply sk|with_reducible first|apply tn|apply bn
  refine ifG h (fun hc6749 h => ?_) (fun hc6749 h => ?_)
  ·skip
   refine Safe.condK rfl hc6749 ?_
   repeat first|apply sq|apply sk|with_reducible first|apply tn|apply bn
   refine Safe.block ?_
   repeat first|apply sq|apply sk|with_reducible first|apply tn|apply bn
   refine Safe.region ?_
   refine okG h (fun hb6750 h => ?_)
   refine Q0 E_good rfl (v := V.spt 3 (rws api_Instr.cells a129) (Int.toNat v130) 0) (.idxSlM (f := api_Instr.cells) rfl rfl rfl rfl rfl hb6750) ?_
   refine Q0 E_good rfl (v := V.agg [I ((gt a129 v130).Op), I ((gt a129 v130).A), I ((gt a129 v130).B)]) (.load rfl rfl (.sptM (f := api_Instr.cells) hb6750 rfl) rfl) ?_
   refine SafeOps.quiet1 E_good rfl rfl rfl (.alloc rfl rfl) rfl ?_
   refine SafeOps.store (z := Obj.box [I ((gt a129 v130).Op), I ((gt a129 v130).A), I ((gt a129 v130).B)]) E_good rfl rfl rfl rfl rfl rfl rfl (.boxM (c := 3) rfl rfl (Nat.le_of_ble_eq_true rfl) rfl) ?_
   refine SafeOps.nil ?_
   repeat first|apply sq|apply sk|with_reducible first|apply tn|apply bn
   refine Safe.region ?_
   refine Q0 E_good rfl (v := V.agg [I ((gt a129 v130).Op), I ((gt a129 v130).A), I ((gt a129 v130).B)]) (.load rfl rfl (.box rfl rfl) rfl) ?_
   refine Q0 E_good rfl (v := V.bool (go_ravelref04_may (gt a129 v130))) (.callP rfl rfl (go_ravelref04_may_sc (gt a129 v130) _ rfl) rfl) ?_
   refine Q0 E_good rfl (v := V.bool (!(go_ravelref04_may (gt a129 v130)))) (.fn rfl) ?_
   refine SafeOps.nil ?_
   repeat first|apply sq|apply sk|with_reducible first|apply tn|apply bn
   refine ifG h (fun hc6751 h => ?_) (fun hc6751 h => ?_)
   ·skip
    refine Safe.condK rfl hc6751 ?_
    repeat first|apply sq|apply sk|with_reducible first|apply tn|apply bn
    refine Safe.region ?_
    refine Qf E_good ?_
    refine SafeOps.nil ?_
    repeat first|apply sq|apply sk|with_reducible first|apply tn|apply bn
    refine Safe.ret ?_
    repeat (first | with_reducible refine thenQ.r ?_ | with_reducible refine blockQ.r ?_)
    replace h := inr_out h hr6748
    obtain rfl := Option.some.inj h
    exact retQ.gen (vs := [I 1]) rfl (.tmp rfl .nil) (.free rfl) (by simp) (.inr rfl)
   ·skip
    refine Safe.condN rfl hc6751 ?_
    repeat first|apply sq|apply sk|with_reducible first|apply tn|apply bn
    refine Safe.region ?_
    refine Q0 E_good rfl (v := I (IntKind.i64.wrap (v130 + 1))) (.fn rfl) ?_
    refine Qf E_good ?_
    refine SafeOps.nil ?_
    repeat first|apply sq|apply sk|with_reducible first|apply tn|apply bn
    exact ⟨_, next_out h, (.cov ⟨rfl, rfl, (ut (ut (ut upT_nil))), upOb_nil, upOut_nil, rfl⟩)⟩
  ·skip
   refine Safe.condN rfl hc6749 ?_
   repeat first|apply sq|apply sk|with_reducible first|apply tn|apply bn
   refine Safe.exit ?_
   repeat (first | with_reducible refine thenQ.e ?_ | with_reducible refine blockQ.x rfl ?_ | with_reducible refine blockQ.y rfl ?_)
   replace h := inr_out h hr6748
   repeat first|apply sq|apply sk|with_reducible first|apply tn|apply bn
   refine Safe.region ?_
   refine Qf E_good ?_
   refine SafeOps.nil ?_
   repeat first|apply sq|apply sk|with_reducible first|apply tn|apply bn
   refine Safe.ret ?_
   repeat (first | with_reducible refine thenQ.r ?_ | with_reducible refine blockQ.r ?_)
   obtain rfl := Option.some.inj h
   exact retQ.gen (vs := [I 0]) rfl (.tmp rfl .nil) (.free rfl) (by simp) (.inr rfl)

noncomputable def go_ravelref04_CheckAll_s4 (a131 : List (List api_Instr)) (v132 : Int) : (Int) → Option ((Int) ⊕ ((Int) ⊕ (Int)))
 | v133 =>
  if (decide (v133 < ((gt a131 v132).length : Int))) = true then
   if 0 ≤ v133 ∧ v133 < ((gt a131 v132).length : Int) then
    if ((((gt (gt a131 v132) v133).Op) == 2) && (decide (((gt (gt a131 v132) v133).A) ≥ (a131.length : Int)))) = true then
     inrO (
      inrO (
       some 1))
    else
     nextO (IntKind.i64.wrap (v133 + 1))
   else none
  else
   inrO (
    nextO (IntKind.i64.wrap (v132 + 1)))

noncomputable def go_ravelref04_CheckAll_s3 (a131 : List (List api_Instr)) : (Int) → Option ((Int) ⊕ (Int))
 | v132 =>
  if (decide (v132 < (a131.length : Int))) = true then
   if 0 ≤ v132 ∧ v132 < (a131.length : Int) then
    (go_ravelref04_Check (gt a131 v132)).bind fun x134 =>
    if (x134 != 0) = true then
     inrO (
      some 1)
    else
     whileO (go_ravelref04_CheckAll_s4 a131 v132) 0
   else none
  else
   inrO (
    some 0)

noncomputable def go_ravelref04_CheckAll (a131 : List (List api_Instr)) : Option Int :=
 if ((decide ((a131.length : Int) < 1)) || (decide ((a131.length : Int) > 16))) = true then
  some 1
 else
  whileO (go_ravelref04_CheckAll_s3 a131) 0

theorem go_ravelref04_CheckAll_sc (a131 : List (List api_Instr)) (r : Int) (h : go_ravelref04_CheckAll a131 = some r) : SC Tryd.prog gl 29 [V.sl 1 (rws (fun l => [V.sl 3 (rws api_Instr.cells l)]) a131)] (I r) := by
 rw [go_ravelref04_CheckAll] at h
 refine SC.of E_good Tryd.func29 rfl (fun _ _ => Tryd.call29 _ _) rfl ?_
 repeat first|apply sq|apply sk|with_reducible first|apply tn|apply bn
 refine Safe.region ?_
 refine Qf E_good ?_
 refine SafeOps.nil ?_
 repeat first|apply sq|apply sk|with_reducible first|apply tn|apply bn
 refine Safe.region ?_
 refine Qf E_good ?_
 refine Q0 E_good rfl (v := I (a131.length : Int)) (.fnE rfl lenE) ?_
 refine Q0 E_good rfl (v := V.bool (decide ((a131.length : Int) < 1))) (.fn rfl) ?_
 refine Qf E_good ?_
 refine SafeOps.bjoin 4 14 (b := ((decide ((a131.length : Int) < 1)) || (decide ((a131.length : Int) > 16)))) (b1 := true) (b0 := decide ((a131.length : Int) > 16)) (fun hc6813 K => ?_) (fun hc6813 K => ?_) bj_or ?_
 ·skip
  refine sF hc6813 ?_
  refine sF hc6813 ?_
  refine sF hc6813 ?_
  refine Q0 E_good rfl (v := V.bool true) (.pickK rfl hc6813 rfl) ?_
  exact SafeOps.drop' 4 rfl rfl rfl K
 ·skip
  refine qF E_good hc6813 (.fn rfl) ?_
  refine qF E_good hc6813 (v := I (a131.length : Int)) (.fnE rfl lenE) ?_
  refine qF E_good hc6813 (v := V.bool (decide ((a131.length : Int) > 16))) (.fn rfl) ?_
  refine Q0 E_good rfl (v := V.bool (decide ((a131.length : Int) > 16))) (.pickK rfl hc6813 rfl) ?_
  exact SafeOps.drop' 4 rfl rfl rfl K
 refine SafeOps.nil ?_
 repeat first|apply sq|apply sk|with_reducible first|apply tn|apply bn
 refine ifG h (fun hc6814 h => ?_) (fun hc6814 h => ?_)
 ·skip
  refine Safe.condK rfl hc6814 ?_
  repeat first|apply sq|apply sk|with_reducible first|apply tn|apply bn
  refine Safe.region ?_
  refine Qf E_good ?_
  refine SafeOps.nil ?_
  repeat first|apply sq|apply sk|with_reducible first|apply tn|apply bn
  refine Safe.ret ?_
  repeat (first | with_reducible refine thenQ.r ?_ | with_reducible refine blockQ.r ?_)
  obtain rfl := Option.some.inj h
  exact retQ.gen (vs := [I 1]) rfl (.tmp rfl .nil) (.free rfl) (by simp) (.inr rfl)
 ·skip
  refine Safe.condN rfl hc6814 ?_
  repeat first|apply sq|apply sk|with_reducible first|apply tn|apply bn
  refine Safe.region ?_
  refine Qf E_good ?_
  refine Q0 E_good rfl (v := I (a131.length : Int)) (.fnE rfl lenE) ?_
  refine Qf E_good ?_
  refine SafeOps.nil ?_
  repeat first|apply sq|apply sk|with_reducible first|apply tn|apply bn
  refine Safe.block ?_
  repeat first|apply sq|apply sk|with_reducible first|apply tn|apply bn
  refine Safe.loopW (fun (v132 : Int) => ⟨Tryd.f29.ntmps, [(0, V.sl 1 (rws (fun l => [V.sl 3 (rws api_Instr.cells l)]) a131)), (15, V.sl 1 (rws (fun l => [V.sl 3 (rws api_Instr.cells l)]) a131)), (16, I (a131.length : Int)), (17, I v132)], [], [], []⟩) h (.cov ⟨rfl, rfl, (ut (ut (ut (ut upT_nil)))), upOb_nil, upOut_nil, rfl⟩) ?_
  intro v132 ohr6857 h hr6857
  replace h : go_ravelref04_CheckAll_s3 a131 v132 = some ohr6857 := h
  rw [go_ravelref04_CheckAll_s3] at h
  repeat first|apply sq|apply sk|with_reducible first|apply tn|apply bn
  refine Safe.region ?_
  refine Q0 E_good rfl (v := V.bool (decide (v132 < (a131.length : Int)))) (.fn rfl) ?_
  refine SafeOps.nil ?_
  repeat first|apply sq|apply sk|with_reducible first|apply tn|apply bn
  refine ifG h (fun hc6858 h => ?_) (fun hc6858 h => ?_)
  ·skip
   refine Safe.condK rfl hc6858 ?_
   repeat first|apply sq|apply sk|with_reducible first|apply tn|apply bn
   refine Safe.block ?_
   repeat first|apply sq|apply sk|with_reducible first|apply tn|apply bn
   refine Safe.region ?_
   refine okG h (fun hb6859 h => ?_)
   refine Q0 E_good rfl (v := V.spt 1 (rws (fun l => [V.sl 3 (rws api_Instr.cells l)]) a131) (Int.toNat v132) 0) (.idxSlM (f := (fun l => [V.sl 3 (rws api_Instr.cells l)])) rfl rfl rfl rfl rfl hb6859) ?_
   refine Q0 E_good rfl (v := V.sl 3 (rws api_Instr.cells (gt a131 v132))) (.load rfl rfl (.sptM (f := (fun l => [V.sl 3 (rws api_Instr.cells l)])) hb6859 rfl) rfl) ?_
   refine Qf E_good ?_
   refine SafeOps.nil ?_
   repeat first|apply sq|apply sk|with_reducible first|apply tn|apply bn
   refine Safe.region ?_
   refine Qf E_good ?_
   refine bindG h ?_
   intro x134 he6861 h
   refine Q0 E_good rfl (v := I x134) (.callP rfl rfl (go_ravelref04_Check_sc (gt a131 v132) _ he6861) rfl) ?_
   refine Q0 E_good rfl (v := V.bool (x134 != 0)) (.fn rfl) ?_
   refine SafeOps.nil ?_
   repeat first|apply sq|apply sk|with_reducible first|apply tn|apply bn
   refine ifG h (fun hc6862 h => ?_) (fun hc6862 h => ?_)
   ·skip
    refine Safe.condK rfl hc6862 ?_
    repeat first|apply sq|apply sk|with_reducible first|apply tn|apply bn
    refine Safe.region ?_
    refine Qf E_good ?_
    refine SafeOps.nil ?_
    repeat first|apply sq|apply sk|with_reducible first|apply tn|apply bn
    refine Safe.ret ?_
    repeat (first | with_reducible refine thenQ.r ?_ | with_reducible refine blockQ.r ?_)
    replace h := inr_out h hr6857
    obtain rfl := Option.some.inj h
    exact retQ.gen (vs := [I 1]) rfl (.tmp rfl .nil) (.free rfl) (by simp) (.inr rfl)
   ·skip
    refine Safe.condN rfl hc6862 ?_
    repeat first|apply sq|apply sk|with_reducible first|apply tn|apply bn
    refine Safe.region ?_
    refine Qf E_good ?_
    refine Q0 E_good rfl (v := I ((gt a131 v132).length : Int)) (.fnE rfl lenE) ?_
    refine Qf E_good ?_
    refine SafeOps.nil ?_
    repeat first|apply sq|apply sk|with_reducible first|apply tn|apply bn
    refine Safe.block ?_
    repeat first|apply sq|apply sk|with_reducible first|apply tn|apply bn
    refine Safe.loopW (fun (v133 : Int) => ⟨Tryd.f29.ntmps, [(0, V.sl 1 (rws (fun l => [V.sl 3 (rws api_Instr.cells l)]) a131)), (15, V.sl 1 (rws (fun l => [V.sl 3 (rws api_Instr.cells l)]) a131)), (16, I (a131.length : Int)), (17, I v132), (24, V.sl 3 (rws api_Instr.cells (gt a131 v132))), (25, I ((gt a131 v132).length : Int)), (26, I v133)], [], [], []⟩) h (.cov ⟨rfl, rfl, (ut (ut (ut (ut (ut (ut (ut upT_nil))))))), upOb_nil, upOut_nil, rfl⟩) ?_
    intro v133 ohr6873 h hr6873
    replace h : go_ravelref04_CheckAll_s4 a131 v132 v133 = some ohr6873 := h
    rw [go_ravelref04_CheckAll_s4] at h
    repeat first|apply sq|apply sk|with_reducible first|apply tn|apply bn
    refine Safe.region ?_
    refine Q0 E_good rfl (v := V.bool (decide (v133 < ((gt a131 v132).length : Int)))) (.fn rfl) ?_
    refine SafeOps.nil ?_
    repeat first|apply sq|apply sk|with_reducible first|apply tn|apply bn
    refine ifG h (fun hc6874 h => ?_) (fun hc6874 h => ?_)
    ·skip
     refine Safe.condK rfl hc6874 ?_
     repeat first|apply sq|apply sk|with_reducible first|apply tn|apply bn
     refine Safe.block ?_
     repeat first|apply sq|apply sk|with_reducible first|apply tn|apply bn
     refine Safe.region ?_
     refine okG h (fun hb6875 h => ?_)
     refine Q0 E_good rfl (v := V.spt 3 (rws api_Instr.cells (gt a131 v132)) (Int.toNat v133) 0) (.idxSlM (f := api_Instr.cells) rfl rfl rfl rfl rfl hb6875) ?_
     refine Q0 E_good rfl (v := V.agg [I ((gt (gt a131 v132) v133).Op), I ((gt (gt a131 v132) v133).A), I ((gt (gt a131 v132) v133).B)]) (.load rfl rfl (.sptM (f := api_Instr.cells) hb6875 rfl) rfl) ?_
     refine SafeOps.quiet1 E_good rfl rfl rfl (.alloc rfl rfl) rfl ?_
     refine SafeOps.store (z := Obj.box [I ((gt (gt a131 v132) v133).Op), I ((gt (gt a131 v132) v133).A), I ((gt (gt a131 v132) v133).B)]) E_good rfl rfl rfl rfl rfl rfl rfl (.boxM (c := 3) rfl rfl (Nat.le_of_ble_eq_true rfl) rfl) ?_
     refine SafeOps.nil ?_
     repeat first|apply sq|apply sk|with_reducible first|apply tn|apply bn
     refine Safe.region ?_
     refine Q0 E_good rfl (v := V.ptr [6] 0 0) (.fn rfl) ?_
     refine Q0 E_good rfl (v := I ((gt (gt a131 v132) v133).Op)) (.load rfl rfl (.box rfl rfl) rfl) ?_
     refine Q0 E_good rfl (v := V.bool (((gt (gt a131 v132) v133).Op) == 2)) (.fn rfl) ?_
     refine Qf E_good ?_
     refine SafeOps.bjoin 6 39 (b := ((((gt (gt a131 v132) v133).Op) == 2) && (decide (((gt (gt a131 v132) v133).A) ≥ (a131.length : Int))))) (b1 := decide (((gt (gt a131 v132) v133).A) ≥ (a131.length : Int))) (b0 := false) (fun hc6876 K => ?_) (fun hc6876 K => ?_) bj_and ?_
     ·skip
      refine qT E_good hc6876 (v := V.ptr [6] 0 1) (.fn rfl) ?_
      refine qT E_good hc6876 (v := I ((gt (gt a131 v132) v133).A)) (.load rfl rfl (.box rfl rfl) rfl) ?_
      refine qT E_good hc6876 (.fn rfl) ?_
      refine qT E_good hc6876 (v := I (a131.length : Int)) (.fnE rfl lenE) ?_
      refine qT E_good hc6876 (v := V.bool (decide (((gt (gt a131 v132) v133).A) ≥ (a131.length : Int)))) (.fn rfl) ?_
      refine Q0 E_good rfl (v := V.bool (decide (((gt (gt a131 v132) v133).A) ≥ (a131.length : Int)))) (.pickK rfl hc6876 rfl) ?_
      exact SafeOps.drop' 6 rfl rfl rfl K
     ·skip
      refine sT hc6876 ?_
      refine sT hc6876 ?_
      refine sT hc6876 ?_
      refine sT hc6876 ?_
      refine sT hc6876 ?_
      refine Q0 E_good rfl (v := V.bool false) (.pickK rfl hc6876 rfl) ?_
      exact SafeOps.drop' 6 rfl rfl rfl K
     refine SafeOps.nil ?_
     repeat first|apply sq|apply sk|with_reducible first|apply tn|apply bn
     refine ifG h (fun hc6877 h => ?_) (fun hc6877 h => ?_)
     ·skip
      refine Safe.condK rfl hc6877 ?_
      repeat first|apply sq|apply sk|with_reducible first|apply tn|apply bn
      refine Safe.region ?_
      refine Qf E_good ?_
      refine SafeOps.nil ?_
      repeat first|apply sq|apply sk|with_reducible first|apply tn|apply bn
      refine Safe.ret ?_
      repeat (first | with_reducible refine thenQ.r ?_ | with_reducible refine blockQ.r ?_)
      replace h := inr_out h hr6873
      replace h := inr_out h hr6857
      obtain rfl := Option.some.inj h
      exact retQ.gen (vs := [I 1]) rfl (.tmp rfl .nil) (.free rfl) (by simp) (.inr rfl)
     ·skip
      refine Safe.condN rfl hc6877 ?_
      repeat first|apply sq|apply sk|with_reducible first|apply tn|apply bn
      refine Safe.region ?_
      refine Q0 E_good rfl (v := I (IntKind.i64.wrap (v133 + 1))) (.fn rfl) ?_
      refine Qf E_good ?_
      refine SafeOps.nil ?_
      repeat first|apply sq|apply sk|with_reducible first|apply tn|apply bn
      exact ⟨_, next_out h, (.cov ⟨rfl, rfl, (ut (ut (ut (ut (ut (ut (ut upT_nil))))))), upOb_nil, upOut_nil, rfl⟩)⟩
    ·skip
     refine Safe.condN rfl hc6874 ?_
     repeat first|apply sq|apply sk|with_reducible first|apply tn|apply bn
     refine Safe.exit ?_
     repeat (first | with_reducible refine thenQ.e ?_ | with_reducible refine blockQ.x rfl ?_ | with_reducible refine blockQ.y rfl ?_)
     replace h := inr_out h hr6873
     repeat first|apply sq|apply sk|with_reducible first|apply tn|apply bn
     refine Safe.region ?_
     refine Q0 E_good rfl (v := I (IntKind.i64.wrap (v132 + 1))) (.fn rfl) ?_
     refine Qf E_good ?_
     refine SafeOps.nil ?_
     repeat first|apply sq|apply sk|with_reducible first|apply tn|apply bn
     exact ⟨_, next_out h, (.cov ⟨rfl, rfl, (ut (ut (ut (ut upT_nil)))), upOb_nil, upOut_nil, rfl⟩)⟩
  ·skip
   refine Safe.condN rfl hc6858 ?_
   repeat first|apply sq|apply sk|with_reducible first|apply tn|apply bn
   refine Safe.exit ?_
   repeat (first | with_reducible refine thenQ.e ?_ | with_reducible refine blockQ.x rfl ?_ | with_reducible refine blockQ.y rfl ?_)
   replace h := inr_out h hr6857
   repeat first|apply sq|apply sk|with_reducible first|apply tn|apply bn
   refine Safe.region ?_
   refine Qf E_good ?_
   refine SafeOps.nil ?_
   repeat first|apply sq|apply sk|with_reducible first|apply tn|apply bn
   refine Safe.ret ?_
   repeat (first | with_reducible refine thenQ.r ?_ | with_reducible refine blockQ.r ?_)
   obtain rfl := Option.some.inj h
   exact retQ.gen (vs := [I 0]) rfl (.tmp rfl .nil) (.free rfl) (by simp) (.inr rfl)

noncomputable def go_ravelref18_Of_s1 (a135 : List api_Event) (a136 : Int) : ((List api_Event) × Int) → Option (((List api_Event) × Int) ⊕ (List api_Event))
 | (v137, v138) =>
  if (decide (v138 < (a135.length : Int))) = true then
   if 0 ≤ v138 ∧ v138 < (a135.length : Int) then
    if (((gt a135 v138).Id) == a136) = true then
     if few (v137 ++ [(gt a135 v138)]).length then
      nextO (v137 ++ [(gt a135 v138)], IntKind.i64.wrap (v138 + 1))
     else none
    else
     nextO (v137, IntKind.i64.wrap (v138 + 1))
   else none
  else
   inrO (
    some v137)

noncomputable def go_ravelref18_Of (a135 : List api_Event) (a136 : Int) : Option (List api_Event) :=
 whileO (go_ravelref18_Of_s1 a135 a136) ([], 0)

theorem go_ravelref18_Of_sc (a135 : List api_Event) (a136 : Int) (r : List api_Event) (h : go_ravelref18_Of a135 a136 = some r) : SC Tryd.prog gl 19 [V.sl 3 (rws api_Event.cells a135), I a136] (V.own 3 (rws api_Event.cells r)) := by
 rw [go_ravelref18_Of] at h
 refine SC.of E_good Tryd.func19 rfl (fun _ _ => Tryd.call19 _ _) rfl ?_
 repeat first|apply sq|apply sk|with_reducible first|apply tn|apply bn
 refine Safe.region ?_
 refine Qf E_good ?_
 refine SafeOps.nil ?_
 repeat first|apply sq|apply sk|with_reducible first|apply tn|apply bn
 refine Safe.region ?_
 refine Qf E_good ?_
 refine SafeOps.nil ?_
 repeat first|apply sq|apply sk|with_reducible first|apply tn|apply bn
 refine Safe.region ?_
 refine Qf E_good ?_
 refine Q0 E_good rfl (v := I (a135.length : Int)) (.fnE rfl lenE) ?_
 refine Qf E_good ?_
 refine SafeOps.nil ?_
 repeat first|apply sq|apply sk|with_reducible first|apply tn|apply bn
 refine Safe.block ?_
 repeat first|apply sq|apply sk|with_reducible first|apply tn|apply bn
 refine Safe.loopW (fun ((v137, v138) : (List api_Event) × Int) => ⟨Tryd.f19.ntmps, [(1, I a136), (5, V.ref [7000, 118, 5] 0 (rws api_Event.cells v137).length), (8, V.sl 3 (rws api_Event.cells a135)), (9, I (a135.length : Int)), (10, I v138)], [([7000, 118, 5], Obj.rows 3 (rws api_Event.cells v137) false)], [], []⟩) h (.empty [7000, 118, 5] 3 rfl (.cov ⟨rfl, rfl, (ut (upT_cons (.nilref _) (ut (ut (ut upT_nil))))), (uo upOb_nil), upOut_nil, rfl⟩)) ?_
 rintro ⟨v137, v138⟩ ohr6917 h hr6917
 replace h : go_ravelref18_Of_s1 a135 a136 (v137, v138) = some ohr6917 := h
 rw [go_ravelref18_Of_s1] at h
 repeat first|apply sq|apply sk|with_reducible first|apply tn|apply bn
 refine Safe.region ?_
 refine Q0 E_good rfl (v := V.bool (decide (v138 < (a135.length : Int)))) (.fn rfl) ?_
 refine SafeOps.nil ?_
 repeat first|apply sq|apply sk|with_reducible first|apply tn|apply bn
 refine ifG h (fun hc6918 h => ?_) (fun hc6918 h => ?_)
 ·skip
  refine Safe.condK rfl hc6918 ?_
  repeat first|apply sq|apply sk|with_reducible first|apply tn|apply bn
  refine Safe.block ?_
  repeat first|apply sq|apply sk|with_reducible first|apply tn|apply bn
  refine Safe.region ?_
  refine okG h (fun hb6919 h => ?_)
  refine Q0 E_good rfl (v := V.spt 3 (rws api_Event.cells a135) (Int.toNat v138) 0) (.idxSlM (f := api_Event.cells) rfl rfl rfl rfl rfl hb6919) ?_
  refine Q0 E_good rfl (v := V.agg [I ((gt a135 v138).Kind), I ((gt a135 v138).Id), I ((gt a135 v138).A)]) (.load rfl rfl (.sptM (f := api_Event.cells) hb6919 rfl) rfl) ?_
  refine SafeOps.quiet1 E_good rfl rfl rfl (.alloc rfl rfl) rfl ?_
  refine SafeOps.store (z := Obj.box [I ((gt a135 v138).Kind), I ((gt a135 v138).Id), I ((gt a135 v138).A)]) E_good rfl rfl rfl rfl rfl rfl rfl (.boxM (c := 3) rfl rfl (Nat.le_of_ble_eq_true rfl) rfl) ?_
  refine SafeOps.nil ?_
  repeat first|apply sq|apply sk|with_reducible first|apply tn|apply bn
  refine Safe.region ?_
  refine Q0 E_good rfl (v := V.ptr [7] 0 1) (.fn rfl) ?_
  refine Q0 E_good rfl (v := I ((gt a135 v138).Id)) (.load rfl rfl (.box rfl rfl) rfl) ?_
  refine Qf E_good ?_
  refine Q0 E_good rfl (v := V.bool (((gt a135 v138).Id) == a136)) (.fn rfl) ?_
  refine SafeOps.nil ?_
  repeat first|apply sq|apply sk|with_reducible first|apply tn|apply bn
  refine ifG h (fun hc6920 h => ?_) (fun hc6920 h => ?_)
  ·skip
   refine Safe.condK rfl hc6920 ?_
   repeat first|apply sq|apply sk|with_reducible first|apply tn|apply bn
   refine Safe.region ?_
   refine Qf E_good ?_
   refine Q0 E_good rfl (v := V.agg [I ((gt a135 v138).Kind), I ((gt a135 v138).Id), I ((gt a135 v138).A)]) (.load rfl rfl (.box rfl rfl) rfl) ?_
   refine SafeOps.quiet1 E_good rfl rfl rfl (.litM (f := api_Event.cells) (xs := [(gt a135 v138)]) rfl rfl (by decide) rfl rfl rfl rfl rfl) rfl ?_
   refine okG h (fun hb6921 h => ?_)
   refine SafeOps.appendM api_Event.cells (xs := v137) (ys := [(gt a135 v138)]) E_good rfl rfl rfl rfl rfl rfl rfl rfl rfl (.own rfl) (.own rfl) (fun _ => rfl) hb6921 ?_
   refine Qf E_good ?_
   refine SafeOps.nil ?_
   repeat first|apply sq|apply sk|with_reducible first|apply tn|apply bn
   refine Safe.region ?_
   refine Q0 E_good rfl (v := I (IntKind.i64.wrap (v138 + 1))) (.fn rfl) ?_
   refine Qf E_good ?_
   refine SafeOps.nil ?_
   repeat first|apply sq|apply sk|with_reducible first|apply tn|apply bn
   exact ⟨_, next_out h, (.ren [21] [7000, 118, 5] (.cov ⟨rfl, rfl, (ut (ut (ut (ut (ut upT_nil))))), (uo upOb_nil), upOut_nil, rfl⟩))⟩
  ·skip
   refine Safe.condN rfl hc6920 ?_
   repeat first|apply sq|apply sk|with_reducible first|apply tn|apply bn
   refine Safe.region ?_
   refine Q0 E_good rfl (v := I (IntKind.i64.wrap (v138 + 1))) (.fn rfl) ?_
   refine Qf E_good ?_
   refine SafeOps.nil ?_
   repeat first|apply sq|apply sk|with_reducible first|apply tn|apply bn
   exact ⟨_, next_out h, (.cov ⟨rfl, rfl, (ut (ut (ut (ut (ut upT_nil))))), (uo upOb_nil), upOut_nil, rfl⟩)⟩
 ·skip
  refine Safe.condN rfl hc6918 ?_
  repeat first|apply sq|apply sk|with_reducible first|apply tn|apply bn
  refine Safe.exit ?_
  repeat (first | with_reducible refine thenQ.e ?_ | with_reducible refine blockQ.x rfl ?_ | with_reducible refine blockQ.y rfl ?_)
  replace h := inr_out h hr6917
  repeat first|apply sq|apply sk|with_reducible first|apply tn|apply bn
  refine Safe.region ?_
  refine Qf E_good ?_
  refine Qf E_good ?_
  refine SafeOps.nil ?_
  repeat first|apply sq|apply sk|with_reducible first|apply tn|apply bn
  refine Safe.ret ?_
  repeat (first | with_reducible refine thenQ.r ?_ | with_reducible refine blockQ.r ?_)
  obtain rfl := Option.some.inj h
  exact retQ.gen (vs := [V.ref [7000, 118, 5] 0 (rws api_Event.cells v137).length]) rfl (.tmp rfl .nil) (by exact (.own rfl rfl)) (by simp) (.inr rfl)

def go_ravelref12_state (a139 : Int) : Bool :=
 ((decide (a139 ≥ 1)) && (decide (a139 ≤ 7)))

theorem go_ravelref12_state_sc (a139 : Int) (r : Bool) (h : go_ravelref12_state a139 = r) : SC Tryd.prog gl 55 [I a139] (V.bool r) := by
 rw [go_ravelref12_state] at h
 refine SC.of E_good Tryd.func55 rfl (fun _ _ => Tryd.call55 _ _) rfl ?_
 repeat first|apply sq|apply sk|with_reducible first|apply tn|apply bn
 refine Safe.region ?_
 refine Qf E_good ?_
 refine SafeOps.nil ?_
 repeat first|apply sq|apply sk|with_reducible first|apply tn|apply bn
 refine Safe.region ?_
 refine Qf E_good ?_
 refine Q0 E_good rfl (v := V.bool (decide (a139 ≥ 1))) (.fn rfl) ?_
 refine Qf E_good ?_
 refine SafeOps.bjoin 3 8 (b := ((decide (a139 ≥ 1)) && (decide (a139 ≤ 7)))) (b1 := decide (a139 ≤ 7)) (b0 := false) (fun hc6988 K => ?_) (fun hc6988 K => ?_) bj_and ?_
 ·skip
  refine qT E_good hc6988 (.fn rfl) ?_
  refine qT E_good hc6988 (v := V.bool (decide (a139 ≤ 7))) (.fn rfl) ?_
  refine Q0 E_good rfl (v := V.bool (decide (a139 ≤ 7))) (.pickK rfl hc6988 rfl) ?_
  exact SafeOps.drop' 3 rfl rfl rfl K
 ·skip
  refine sT hc6988 ?_
  refine sT hc6988 ?_
  refine Q0 E_good rfl (v := V.bool false) (.pickK rfl hc6988 rfl) ?_
  exact SafeOps.drop' 3 rfl rfl rfl K
 refine Qf E_good ?_
 refine SafeOps.nil ?_
 repeat first|apply sq|apply sk|with_reducible first|apply tn|apply bn
 refine Safe.ret ?_
 repeat (first | with_reducible refine thenQ.r ?_ | with_reducible refine blockQ.r ?_)
 obtain rfl := h
 exact retQ.gen (vs := [V.bool ((decide (a139 ≥ 1)) && (decide (a139 ≤ 7)))]) rfl (.tmp rfl .nil) (.free rfl) (by simp) (.inr rfl)

noncomputable def go_ravelref12_Check_s1 (a140 : api_Task) : (Int) → Option ((Int) ⊕ (Int))
 | v141 =>
  if (decide (v141 < 4)) = true then
   if 0 ≤ v141 ∧ v141 < (4 : Int) then
    if (decide ((if v141 = 0 then a140.Keeps.a0 else (if v141 = 1 then a140.Keeps.a1 else (if v141 = 2 then a140.Keeps.a2 else a140.Keeps.a3))) < (-1))) = true then
     inrO (
      some 1)
    else
     nextO (IntKind.i64.wrap (v141 + 1))
   else none
  else
   inrO (
    some 0)

noncomputable def go_ravelref12_Check (a140 : api_Task) : Option Int :=
 if ((((((((((((decide (a140.Id < 0)) || (decide (a140.Tenant < 0))) || (decide (a140.Tenant > 15))) || (decide (a140.Prog < 0))) || (decide (a140.Prog > 15))) || (decide (a140.Pc < 0))) || (decide (a140.Pc > 32))) || (decide (a140.Unit < 0))) || (decide (a140.Unit > 99))) || (!(go_ravelref12_state a140.State))) || (decide (a140.Ran < 0))) || (decide (a140.Ran > 1099511627776))) = true then
  some 1
 else
  whileO (go_ravelref12_Check_s1 a140) 0

theorem go_ravelref12_Check_sc (a140 : api_Task) (r : Int) (h : go_ravelref12_Check a140 = some r) : SC Tryd.prog gl 48 [V.agg [I a140.Id, I a140.Tenant, I a140.Prog, I a140.Pc, I a140.Unit, I a140.Keeps.a0, I a140.Keeps.a1, I a140.Keeps.a2, I a140.Keeps.a3, I a140.State, I a140.Ran]] (I r) := by
 rw [go_ravelref12_Check] at h
 refine SC.of E_good Tryd.func48 rfl (fun _ _ => Tryd.call48 _ _) rfl ?_
 repeat first|apply sq|apply sk|with_reducible first|apply tn|apply bn
 refine Safe.region ?_
 refine SafeOps.quiet1 E_good rfl rfl rfl (.box rfl rfl) rfl ?_
 refine Qf E_good ?_
 refine SafeOps.nil ?_
 repeat first|apply sq|apply sk|with_reducible first|apply tn|apply bn
 refine Safe.region ?_
 refine Q0 E_good rfl (v := V.ptr [1] 0 0) (.fn rfl) ?_
 refine Q0 E_good rfl (v := I a140.Id) (.load rfl rfl (.box rfl rfl) rfl) ?_
 refine Q0 E_good rfl (v := V.bool (decide (a140.Id < 0))) (.fn rfl) ?_
 refine Qf E_good ?_
 refine SafeOps.bjoin 4 12 (b := ((decide (a140.Id < 0)) || (decide (a140.Tenant < 0)))) (b1 := true) (b0 := decide (a140.Tenant < 0)) (fun hc19287 K => ?_) (fun hc19287 K => ?_) bj_or ?_
 ·skip
  refine sF hc19287 ?_
  refine sF hc19287 ?_
  refine sF hc19287 ?_
  refine Q0 E_good rfl (v := V.bool true) (.pickK rfl hc19287 rfl) ?_
  exact SafeOps.drop' 4 rfl rfl rfl K
 ·skip
  refine qF E_good hc19287 (v := V.ptr [1] 0 1) (.fn rfl) ?_
  refine qF E_good hc19287 (v := I a140.Tenant) (.load rfl rfl (.box rfl rfl) rfl) ?_
  refine qF E_good hc19287 (v := V.bool (decide (a140.Tenant < 0))) (.fn rfl) ?_
  refine Q0 E_good rfl (v := V.bool (decide (a140.Tenant < 0))) (.pickK rfl hc19287 rfl) ?_
  exact SafeOps.drop' 4 rfl rfl rfl K
 refine Qf E_good ?_
 refine SafeOps.bjoin 4 17 (b := (((decide (a140.Id < 0)) || (decide (a140.Tenant < 0))) || (decide (a140.Tenant > 15)))) (b1 := true) (b0 := decide (a140.Tenant > 15)) (fun hc19288 K => ?_) (fun hc19288 K => ?_) bj_or ?_
 ·skip
  refine sF hc19288 ?_
  refine sF hc19288 ?_
  refine sF hc19288 ?_
  refine Q0 E_good rfl (v := V.bool true) (.pickK rfl hc19288 rfl) ?_
  exact SafeOps.drop' 4 rfl rfl rfl K
 ·skip
  refine qF E_good hc19288 (v := V.ptr [1] 0 1) (.fn rfl) ?_
  refine qF E_good hc19288 (v := I a140.Tenant) (.load rfl rfl (.box rfl rfl) rfl) ?_
  refine qF E_good hc19288 (v := V.bool (decide (a140.Tenant > 15))) (.fn rfl) ?_
  refine Q0 E_good rfl (v := V.bool (decide (a140.Tenant > 15))) (.pickK rfl hc19288 rfl) ?_
  exact SafeOps.drop' 4 rfl rfl rfl K
 refine Qf E_good ?_
 refine SafeOps.bjoin 4 22 (b := ((((decide (a140.Id < 0)) || (decide (a140.Tenant < 0))) || (decide (a140.Tenant > 15))) || (decide (a140.Prog < 0)))) (b1 := true) (b0 := decide (a140.Prog < 0)) (fun hc19289 K => ?_) (fun hc19289 K => ?_) bj_or ?_
 ·skip
  refine sF hc19289 ?_
  refine sF hc19289 ?_
  refine sF hc19289 ?_
  refine Q0 E_good rfl (v := V.bool true) (.pickK rfl hc19289 rfl) ?_
  exact SafeOps.drop' 4 rfl rfl rfl K
 ·skip
  refine qF E_good hc19289 (v := V.ptr [1] 0 2) (.fn rfl) ?_
  refine qF E_good hc19289 (v := I a140.Prog) (.load rfl rfl (.box rfl rfl) rfl) ?_
  refine qF E_good hc19289 (v := V.bool (decide (a140.Prog < 0))) (.fn rfl) ?_
  refine Q0 E_good rfl (v := V.bool (decide (a140.Prog < 0))) (.pickK rfl hc19289 rfl) ?_
  exact SafeOps.drop' 4 rfl rfl rfl K
 refine Qf E_good ?_
 refine SafeOps.bjoin 4 27 (b := (((((decide (a140.Id < 0)) || (decide (a140.Tenant < 0))) || (decide (a140.Tenant > 15))) || (decide (a140.Prog < 0))) || (decide (a140.Prog > 15)))) (b1 := true) (b0 := decide (a140.Prog > 15)) (fun hc19290 K => ?_) (fun hc19290 K => ?_) bj_or ?_
 ·skip
  refine sF hc19290 ?_
  refine sF hc19290 ?_
  refine sF hc19290 ?_
  refine Q0 E_good rfl (v := V.bool true) (.pickK rfl hc19290 rfl) ?_
  exact SafeOps.drop' 4 rfl rfl rfl K
 ·skip
  refine qF E_good hc19290 (v := V.ptr [1] 0 2) (.fn rfl) ?_
  refine qF E_good hc19290 (v := I a140.Prog) (.load rfl rfl (.box rfl rfl) rfl) ?_
  refine qF E_good hc19290 (v := V.bool (decide (a140.Prog > 15))) (.fn rfl) ?_
  refine Q0 E_good rfl (v := V.bool (decide (a140.Prog > 15))) (.pickK rfl hc19290 rfl) ?_
  exact SafeOps.drop' 4 rfl rfl rfl K
 refine Qf E_good ?_
 refine SafeOps.bjoin 4 32 (b := ((((((decide (a140.Id < 0)) || (decide (a140.Tenant < 0))) || (decide (a140.Tenant > 15))) || (decide (a140.Prog < 0))) || (decide (a140.Prog > 15))) || (decide (a140.Pc < 0)))) (b1 := true) (b0 := decide (a140.Pc < 0)) (fun hc19291 K => ?_) (fun hc19291 K => ?_) bj_or ?_
 ·skip
  refine sF hc19291 ?_
  refine sF hc19291 ?_
  refine sF hc19291 ?_
  refine Q0 E_good rfl (v := V.bool true) (.pickK rfl hc19291 rfl) ?_
  exact SafeOps.drop' 4 rfl rfl rfl K
 ·skip
  refine qF E_good hc19291 (v := V.ptr [1] 0 3) (.fn rfl) ?_
  refine qF E_good hc19291 (v := I a140.Pc) (.load rfl rfl (.box rfl rfl) rfl) ?_
  refine qF E_good hc19291 (v := V.bool (decide (a140.Pc < 0))) (.fn rfl) ?_
  refine Q0 E_good rfl (v := V.bool (decide (a140.Pc < 0))) (.pickK rfl hc19291 rfl) ?_
  exact SafeOps.drop' 4 rfl rfl rfl K
 refine Qf E_good ?_
 refine SafeOps.bjoin 4 37 (b := (((((((decide (a140.Id < 0)) || (decide (a140.Tenant < 0))) || (decide (a140.Tenant > 15))) || (decide (a140.Prog < 0))) || (decide (a140.Prog > 15))) || (decide (a140.Pc < 0))) || (decide (a140.Pc > 32)))) (b1 := true) (b0 := decide (a140.Pc > 32)) (fun hc19292 K => ?_) (fun hc19292 K => ?_) bj_or ?_
 ·skip
  refine sF hc19292 ?_
  refine sF hc19292 ?_
  refine sF hc19292 ?_
  refine Q0 E_good rfl (v := V.bool true) (.pickK rfl hc19292 rfl) ?_
  exact SafeOps.drop' 4 rfl rfl rfl K
 ·skip
  refine qF E_good hc19292 (v := V.ptr [1] 0 3) (.fn rfl) ?_
  refine qF E_good hc19292 (v := I a140.Pc) (.load rfl rfl (.box rfl rfl) rfl) ?_
  refine qF E_good hc19292 (v := V.bool (decide (a140.Pc > 32))) (.fn rfl) ?_
  refine Q0 E_good rfl (v := V.bool (decide (a140.Pc > 32))) (.pickK rfl hc19292 rfl) ?_
  exact SafeOps.drop' 4 rfl rfl rfl K
 refine Qf E_good ?_
 refine SafeOps.bjoin 4 42 (b := ((((((((decide (a140.Id < 0)) || (decide (a140.Tenant < 0))) || (decide (a140.Tenant > 15))) || (decide (a140.Prog < 0))) || (decide (a140.Prog > 15))) || (decide (a140.Pc < 0))) || (decide (a140.Pc > 32))) || (decide (a140.Unit < 0)))) (b1 := true) (b0 := decide (a140.Unit < 0)) (fun hc19293 K => ?_) (fun hc19293 K => ?_) bj_or ?_
 ·skip
  refine sF hc19293 ?_
  refine sF hc19293 ?_
  refine sF hc19293 ?_
  refine Q0 E_good rfl (v := V.bool true) (.pickK rfl hc19293 rfl) ?_
  exact SafeOps.drop' 4 rfl rfl rfl K
 ·skip
  refine qF E_good hc19293 (v := V.ptr [1] 0 4) (.fn rfl) ?_
  refine qF E_good hc19293 (v := I a140.Unit) (.load rfl rfl (.box rfl rfl) rfl) ?_
  refine qF E_good hc19293 (v := V.bool (decide (a140.Unit < 0))) (.fn rfl) ?_
  refine Q0 E_good rfl (v := V.bool (decide (a140.Unit < 0))) (.pickK rfl hc19293 rfl) ?_
  exact SafeOps.drop' 4 rfl rfl rfl K
 refine Qf E_good ?_
 refine SafeOps.bjoin 4 47 (b := (((((((((decide (a140.Id < 0)) || (decide (a140.Tenant < 0))) || (decide (a140.Tenant > 15))) || (decide (a140.Prog < 0))) || (decide (a140.Prog > 15))) || (decide (a140.Pc < 0))) || (decide (a140.Pc > 32))) || (decide (a140.Unit < 0))) || (decide (a140.Unit > 99)))) (b1 := true) (b0 := decide (a140.Unit > 99)) (fun hc19294 K => ?_) (fun hc19294 K => ?_) bj_or ?_
 ·skip
  refine sF hc19294 ?_
  refine sF hc19294 ?_
  refine sF hc19294 ?_
  refine Q0 E_good rfl (v := V.bool true) (.pickK rfl hc19294 rfl) ?_
  exact SafeOps.drop' 4 rfl rfl rfl K
 ·skip
  refine qF E_good hc19294 (v := V.ptr [1] 0 4) (.fn rfl) ?_
  refine qF E_good hc19294 (v := I a140.Unit) (.load rfl rfl (.box rfl rfl) rfl) ?_
  refine qF E_good hc19294 (v := V.bool (decide (a140.Unit > 99))) (.fn rfl) ?_
  refine Q0 E_good rfl (v := V.bool (decide (a140.Unit > 99))) (.pickK rfl hc19294 rfl) ?_
  exact SafeOps.drop' 4 rfl rfl rfl K
 refine Qf E_good ?_
 refine SafeOps.bjoin 5 53 (b := ((((((((((decide (a140.Id < 0)) || (decide (a140.Tenant < 0))) || (decide (a140.Tenant > 15))) || (decide (a140.Prog < 0))) || (decide (a140.Prog > 15))) || (decide (a140.Pc < 0))) || (decide (a140.Pc > 32))) || (decide (a140.Unit < 0))) || (decide (a140.Unit > 99))) || (!(go_ravelref12_state a140.State)))) (b1 := true) (b0 := (!(go_ravelref12_state a140.State))) (fun hc19295 K => ?_) (fun hc19295 K => ?_) bj_or ?_
 ·skip
  refine sF hc19295 ?_
  refine sF hc19295 ?_
  refine sF hc19295 ?_
  refine sF hc19295 ?_
  refine Q0 E_good rfl (v := V.bool true) (.pickK rfl hc19295 rfl) ?_
  exact SafeOps.drop' 5 rfl rfl rfl K
 ·skip
  refine qF E_good hc19295 (v := V.ptr [1] 0 9) (.fn rfl) ?_
  refine qF E_good hc19295 (v := I a140.State) (.load rfl rfl (.box rfl rfl) rfl) ?_
  refine qF E_good hc19295 (v := V.bool (go_ravelref12_state a140.State)) (.callP rfl rfl (go_ravelref12_state_sc a140.State _ rfl) rfl) ?_
  refine qF E_good hc19295 (v := V.bool (!(go_ravelref12_state a140.State))) (.fn rfl) ?_
  refine Q0 E_good rfl (v := V.bool (!(go_ravelref12_state a140.State))) (.pickK rfl hc19295 rfl) ?_
  exact SafeOps.drop' 5 rfl rfl rfl K
 refine Qf E_good ?_
 refine SafeOps.bjoin 4 58 (b := (((((((((((decide (a140.Id < 0)) || (decide (a140.Tenant < 0))) || (decide (a140.Tenant > 15))) || (decide (a140.Prog < 0))) || (decide (a140.Prog > 15))) || (decide (a140.Pc < 0))) || (decide (a140.Pc > 32))) || (decide (a140.Unit < 0))) || (decide (a140.Unit > 99))) || (!(go_ravelref12_state a140.State))) || (decide (a140.Ran < 0)))) (b1 := true) (b0 := decide (a140.Ran < 0)) (fun hc19296 K => ?_) (fun hc19296 K => ?_) bj_or ?_
 ·skip
  refine sF hc19296 ?_
  refine sF hc19296 ?_
  refine sF hc19296 ?_
  refine Q0 E_good rfl (v := V.bool true) (.pickK rfl hc19296 rfl) ?_
  exact SafeOps.drop' 4 rfl rfl rfl K
 ·skip
  refine qF E_good hc19296 (v := V.ptr [1] 0 10) (.fn rfl) ?_
  refine qF E_good hc19296 (v := I a140.Ran) (.load rfl rfl (.box rfl rfl) rfl) ?_
  refine qF E_good hc19296 (v := V.bool (decide (a140.Ran < 0))) (.fn rfl) ?_
  refine Q0 E_good rfl (v := V.bool (decide (a140.Ran < 0))) (.pickK rfl hc19296 rfl) ?_
  exact SafeOps.drop' 4 rfl rfl rfl K
 refine Qf E_good ?_
 refine SafeOps.bjoin 4 63 (b := ((((((((((((decide (a140.Id < 0)) || (decide (a140.Tenant < 0))) || (decide (a140.Tenant > 15))) || (decide (a140.Prog < 0))) || (decide (a140.Prog > 15))) || (decide (a140.Pc < 0))) || (decide (a140.Pc > 32))) || (decide (a140.Unit < 0))) || (decide (a140.Unit > 99))) || (!(go_ravelref12_state a140.State))) || (decide (a140.Ran < 0))) || (decide (a140.Ran > 1099511627776)))) (b1 := true) (b0 := decide (a140.Ran > 1099511627776)) (fun hc19297 K => ?_) (fun hc19297 K => ?_) bj_or ?_
 ·skip
  refine sF hc19297 ?_
  refine sF hc19297 ?_
  refine sF hc19297 ?_
  refine Q0 E_good rfl (v := V.bool true) (.pickK rfl hc19297 rfl) ?_
  exact SafeOps.drop' 4 rfl rfl rfl K
 ·skip
  refine qF E_good hc19297 (v := V.ptr [1] 0 10) (.fn rfl) ?_
  refine qF E_good hc19297 (v := I a140.Ran) (.load rfl rfl (.box rfl rfl) rfl) ?_
  refine qF E_good hc19297 (v := V.bool (decide (a140.Ran > 1099511627776))) (.fn rfl) ?_
  refine Q0 E_good rfl (v := V.bool (decide (a140.Ran > 1099511627776))) (.pickK rfl hc19297 rfl) ?_
  exact SafeOps.drop' 4 rfl rfl rfl K
 refine SafeOps.nil ?_
 repeat first|apply sq|apply sk|with_reducible first|apply tn|apply bn
 refine ifG h (fun hc19298 h => ?_) (fun hc19298 h => ?_)
 ·skip
  refine Safe.condK rfl hc19298 ?_
  repeat first|apply sq|apply sk|with_reducible first|apply tn|apply bn
  refine Safe.region ?_
  refine Qf E_good ?_
  refine SafeOps.nil ?_
  repeat first|apply sq|apply sk|with_reducible first|apply tn|apply bn
  refine Safe.ret ?_
  repeat (first | with_reducible refine thenQ.r ?_ | with_reducible refine blockQ.r ?_)
  obtain rfl := Option.some.inj h
  exact retQ.gen (vs := [I 1]) rfl (.tmp rfl .nil) (.free rfl) (by simp) (.inr rfl)
 ·skip
  refine Safe.condN rfl hc19298 ?_
  repeat first|apply sq|apply sk|with_reducible first|apply tn|apply bn
  refine Safe.region ?_
  refine Q0 E_good rfl (v := V.ptr [1] 0 5) (.fn rfl) ?_
  refine Q0 E_good rfl (v := V.agg [I a140.Keeps.a0, I a140.Keeps.a1, I a140.Keeps.a2, I a140.Keeps.a3]) (.load rfl rfl (.box rfl rfl) rfl) ?_
  refine Qf E_good ?_
  refine SafeOps.nil ?_
  repeat first|apply sq|apply sk|with_reducible first|apply tn|apply bn
  refine Safe.block ?_
  repeat first|apply sq|apply sk|with_reducible first|apply tn|apply bn
  refine Safe.loopW (fun (v141 : Int) => ⟨Tryd.f48.ntmps, [(65, V.agg [I a140.Keeps.a0, I a140.Keeps.a1, I a140.Keeps.a2, I a140.Keeps.a3]), (66, I v141)], [], [], []⟩) h (.cov ⟨rfl, rfl, (ut (ut upT_nil)), upOb_nil, upOut_nil, rfl⟩) ?_
  intro v141 ohr19305 h hr19305
  replace h : go_ravelref12_Check_s1 a140 v141 = some ohr19305 := h
  rw [go_ravelref12_Check_s1] at h
  repeat first|apply sq|apply sk|with_reducible first|apply tn|apply bn
  refine Safe.region ?_
  refine Q0 E_good rfl (v := V.bool (decide (v141 < 4))) (.fn rfl) ?_
  refine SafeOps.nil ?_
  repeat first|apply sq|apply sk|with_reducible first|apply tn|apply bn
  refine ifG h (fun hc19306 h => ?_) (fun hc19306 h => ?_)
  ·skip
   refine Safe.condK rfl hc19306 ?_
   repeat first|apply sq|apply sk|with_reducible first|apply tn|apply bn
   refine Safe.block ?_
   repeat first|apply sq|apply sk|with_reducible first|apply tn|apply bn
   refine Safe.region ?_
   refine okG h (fun hb19307 h => ?_)
   refine Q0 E_good rfl (v := I (if v141 = 0 then a140.Keeps.a0 else (if v141 = 1 then a140.Keeps.a1 else (if v141 = 2 then a140.Keeps.a2 else a140.Keeps.a3)))) (.idxVM (us := [I (if v141 = 0 then a140.Keeps.a0 else (if v141 = 1 then a140.Keeps.a1 else (if v141 = 2 then a140.Keeps.a2 else a140.Keeps.a3)))]) rfl rfl rfl rfl rfl 4 rfl hb19307 (by have hq : v141 = 0 ∨ v141 = 1 ∨ v141 = 2 ∨ v141 = 3 := (by omega); rcases hq with hq | hq | hq | hq <;> simp only [hq] <;> rfl) rfl) ?_
   refine Qf E_good ?_
   refine SafeOps.nil ?_
   repeat first|apply sq|apply sk|with_reducible first|apply tn|apply bn
   refine Safe.region ?_
   refine Qf E_good ?_
   refine Q0 E_good rfl (v := V.bool (decide ((if v141 = 0 then a140.Keeps.a0 else (if v141 = 1 then a140.Keeps.a1 else (if v141 = 2 then a140.Keeps.a2 else a140.Keeps.a3))) < (-1)))) (.fn rfl) ?_
   refine SafeOps.nil ?_
   repeat first|apply sq|apply sk|with_reducible first|apply tn|apply bn
   refine ifG h (fun hc19308 h => ?_) (fun hc19308 h => ?_)
   ·skip
    refine Safe.condK rfl hc19308 ?_
    repeat first|apply sq|apply sk|with_reducible first|apply tn|apply bn
    refine Safe.region ?_
    refine Qf E_good ?_
    refine SafeOps.nil ?_
    repeat first|apply sq|apply sk|with_reducible first|apply tn|apply bn
    refine Safe.ret ?_
    repeat (first | with_reducible refine thenQ.r ?_ | with_reducible refine blockQ.r ?_)
    replace h := inr_out h hr19305
    obtain rfl := Option.some.inj h
    exact retQ.gen (vs := [I 1]) rfl (.tmp rfl .nil) (.free rfl) (by simp) (.inr rfl)
   ·skip
    refine Safe.condN rfl hc19308 ?_
    repeat first|apply sq|apply sk|with_reducible first|apply tn|apply bn
    refine Safe.region ?_
    refine Q0 E_good rfl (v := I (IntKind.i64.wrap (v141 + 1))) (.fn rfl) ?_
    refine Qf E_good ?_
    refine SafeOps.nil ?_
    repeat first|apply sq|apply sk|with_reducible first|apply tn|apply bn
    exact ⟨_, next_out h, (.cov ⟨rfl, rfl, (ut (ut upT_nil)), upOb_nil, upOut_nil, rfl⟩)⟩
  ·skip
   refine Safe.condN rfl hc19306 ?_
   repeat first|apply sq|apply sk|with_reducible first|apply tn|apply bn
   refine Safe.exit ?_
   repeat (first | with_reducible refine thenQ.e ?_ | with_reducible refine blockQ.x rfl ?_ | with_reducible refine blockQ.y rfl ?_)
   replace h := inr_out h hr19305
   repeat first|apply sq|apply sk|with_reducible first|apply tn|apply bn
   refine Safe.region ?_
   refine Qf E_good ?_
   refine SafeOps.nil ?_
   repeat first|apply sq|apply sk|with_reducible first|apply tn|apply bn
   refine Safe.ret ?_
   repeat (first | with_reducible refine thenQ.r ?_ | with_reducible refine blockQ.r ?_)
   obtain rfl := Option.some.inj h
   exact retQ.gen (vs := [I 0]) rfl (.tmp rfl .nil) (.free rfl) (by simp) (.inr rfl)

noncomputable def go_ravelref12_New_s2 (a142 : Int) (a143 : Int) (a144 : Int) : (Int × Int × Int × Int × Int) → Option ((Int × Int × Int × Int × Int) ⊕ (api_Task × Int))
 | (v145, v146, v147, v148, v149) =>
  if (decide (v145 < 4)) = true then
   if 0 ≤ v145 ∧ v145 < (4 : Int) then
    nextO (IntKind.i64.wrap (v145 + 1), (if v145 = 0 then -1 else v146), (if v145 = 1 then -1 else v147), (if v145 = 2 then -1 else v148), (if v145 = 3 then -1 else v149))
   else none
  else
   inrO (
    (go_ravelref12_Check (api_Task.mk a142 a143 a144 0 0 (A4_Int.mk v146 v147 v148 v149) 1 0)).bind fun x150 =>
    if (x150 != 0) = true then
     some (api_Task.zero, 1)
    else
     some ((api_Task.mk a142 a143 a144 0 0 (A4_Int.mk v146 v147 v148 v149) 1 0), 0))

noncomputable def go_ravelref12_New (a142 : Int) (a143 : Int) (a144 : Int) : Option (api_Task × Int) :=
 whileO (go_ravelref12_New_s2 a142 a143 a144) (0, 0, 0, 0, 0)

theorem go_ravelref12_New_sc (a142 : Int) (a143 : Int) (a144 : Int) (r : api_Task × Int) (h : go_ravelref12_New a142 a143 a144 = some r) : SC Tryd.prog gl 38 [I a142, I a143, I a144] (V.tup [V.agg [I r.1.Id, I r.1.Tenant, I r.1.Prog, I r.1.Pc, I r.1.Unit, I r.1.Keeps.a0, I r.1.Keeps.a1, I r.1.Keeps.a2, I r.1.Keeps.a3, I r.1.State, I r.1.Ran], I r.2]) := by
 rw [go_ravelref12_New] at h
 refine SC.of E_good Tryd.func38 rfl (fun _ _ => Tryd.call38 _ _) rfl ?_
 repeat first|apply sq|apply sk|with_reducible first|apply tn|apply bn
 refine Safe.region ?_
 refine SafeOps.quiet1 E_good rfl rfl rfl (.alloc rfl rfl) rfl ?_
 refine Qf E_good ?_
 refine SafeOps.nil ?_
 repeat first|apply sq|apply sk|with_reducible first|apply tn|apply bn
 refine Safe.region ?_
 refine Qf E_good ?_
 refine Qf E_good ?_
 refine Qf E_good ?_
 refine Q0 E_good rfl (v := V.agg [I a142, I a143, I a144, I 0, I 0, I 0, I 0, I 0, I 0, I 1, I 0]) (.fn rfl) ?_
 refine SafeOps.quiet1 E_good rfl rfl rfl (.alloc rfl rfl) rfl ?_
 refine SafeOps.store (z := Obj.box [I a142, I a143, I a144, I 0, I 0, I 0, I 0, I 0, I 0, I 1, I 0]) E_good rfl rfl rfl rfl rfl rfl rfl (.boxM (c := 11) rfl rfl (Nat.le_of_ble_eq_true rfl) rfl) ?_
 refine SafeOps.nil ?_
 repeat first|apply sq|apply sk|with_reducible first|apply tn|apply bn
 refine Safe.region ?_
 refine Qf E_good ?_
 refine SafeOps.nil ?_
 repeat first|apply sq|apply sk|with_reducible first|apply tn|apply bn
 refine Safe.block ?_
 repeat first|apply sq|apply sk|with_reducible first|apply tn|apply bn
 refine Safe.loopW (fun ((v145, v146, v147, v148, v149) : Int × Int × Int × Int × Int) => ⟨Tryd.f38.ntmps, [(6, V.ptr [6] 0 0), (8, V.ptr [8] 0 0), (14, I v145)], [([6], Obj.box [I 0, I 0, I 0, I 0, I 0, I 0, I 0, I 0, I 0, I 0, I 0]), ([8], Obj.box [I a142, I a143, I a144, I 0, I 0, I v146, I v147, I v148, I v149, I 1, I 0])], [], []⟩) h (.cov ⟨rfl, rfl, (ut (ut (ut upT_nil))), (uo (uo upOb_nil)), upOut_nil, rfl⟩) ?_
 rintro ⟨v145, v146, v147, v148, v149⟩ ohr19347 h hr19347
 replace h : go_ravelref12_New_s2 a142 a143 a144 (v145, v146, v147, v148, v149) = some ohr19347 := h
 rw [go_ravelref12_New_s2] at h
 repeat first|apply sq|apply sk|with_reducible first|apply tn|apply bn
 refine Safe.region ?_
 refine Q0 E_good rfl (v := V.bool (decide (v145 < 4))) (.fn rfl) ?_
 refine SafeOps.nil ?_
 repeat first|apply sq|apply sk|with_reducible first|apply tn|apply bn
 refine ifG h (fun hc19348 h => ?_) (fun hc19348 h => ?_)
 ·skip
  refine Safe.condK rfl hc19348 ?_
  repeat first|apply sq|apply sk|with_reducible first|apply tn|apply bn
  refine Safe.block ?_
  repeat first|apply sq|apply sk|with_reducible first|apply tn|apply bn
  refine Safe.region ?_
  refine Qf E_good ?_
  refine Qf E_good ?_
  refine SafeOps.nil ?_
  repeat first|apply sq|apply sk|with_reducible first|apply tn|apply bn
  refine Safe.region ?_
  refine Qf E_good ?_
  refine Q0 E_good rfl (v := V.ptr [8] 0 5) (.fn rfl) ?_
  refine okG h (fun hb19349 h => ?_)
  refine Q0 E_good rfl (v := V.ptr [8] 0 (5 + Int.toNat v145 * 1)) (.idxArrM rfl rfl rfl rfl rfl rfl 4 rfl hb19349) ?_
  refine SafeOps.store (z := Obj.box [I a142, I a143, I a144, I 0, I 0, I (if v145 = 0 then -1 else v146), I (if v145 = 1 then -1 else v147), I (if v145 = 2 then -1 else v148), I (if v145 = 3 then -1 else v149), I 1, I 0]) E_good rfl rfl rfl rfl rfl rfl rfl (.boxM (c := 11) rfl rfl (by have := hb19349; show (5 + Int.toNat v145 * 1) + 1 ≤ 11; omega) (by have hq : v145 = 0 ∨ v145 = 1 ∨ v145 = 2 ∨ v145 = 3 := (by omega); rcases hq with hq | hq | hq | hq <;> simp only [hq] <;> rfl)) ?_
  refine SafeOps.nil ?_
  repeat first|apply sq|apply sk|with_reducible first|apply tn|apply bn
  refine Safe.region ?_
  refine Q0 E_good rfl (v := I (IntKind.i64.wrap (v145 + 1))) (.fn rfl) ?_
  refine Qf E_good ?_
  refine SafeOps.nil ?_
  repeat first|apply sq|apply sk|with_reducible first|apply tn|apply bn
  exact ⟨_, next_out h, (.cov ⟨rfl, rfl, (ut (ut (ut upT_nil))), (uo (uo upOb_nil)), upOut_nil, rfl⟩)⟩
 ·skip
  refine Safe.condN rfl hc19348 ?_
  repeat first|apply sq|apply sk|with_reducible first|apply tn|apply bn
  refine Safe.exit ?_
  repeat (first | with_reducible refine thenQ.e ?_ | with_reducible refine blockQ.x rfl ?_ | with_reducible refine blockQ.y rfl ?_)
  replace h := inr_out h hr19347
  repeat first|apply sq|apply sk|with_reducible first|apply tn|apply bn
  refine Safe.region ?_
  refine Q0 E_good rfl (v := V.agg [I a142, I a143, I a144, I 0, I 0, I v146, I v147, I v148, I v149, I 1, I 0]) (.load rfl rfl (.box rfl rfl) rfl) ?_
  refine bindG h ?_
  intro x150 he19351 h
  refine Q0 E_good rfl (v := I x150) (.callP rfl rfl (go_ravelref12_Check_sc (api_Task.mk a142 a143 a144 0 0 (A4_Int.mk v146 v147 v148 v149) 1 0) _ he19351) rfl) ?_
  refine Q0 E_good rfl (v := V.bool (x150 != 0)) (.fn rfl) ?_
  refine SafeOps.nil ?_
  repeat first|apply sq|apply sk|with_reducible first|apply tn|apply bn
  refine ifG h (fun hc19352 h => ?_) (fun hc19352 h => ?_)
  ·skip
   refine Safe.condK rfl hc19352 ?_
   repeat first|apply sq|apply sk|with_reducible first|apply tn|apply bn
   refine Safe.region ?_
   refine Q0 E_good rfl (v := V.agg [I 0, I 0, I 0, I 0, I 0, I 0, I 0, I 0, I 0, I 0, I 0]) (.fn rfl) ?_
   refine SafeOps.store (z := Obj.box [I 0, I 0, I 0, I 0, I 0, I 0, I 0, I 0, I 0, I 0, I 0]) E_good rfl rfl rfl rfl rfl rfl rfl (.boxM (c := 11) rfl rfl (Nat.le_of_ble_eq_true rfl) rfl) ?_
   refine Qf E_good ?_
   refine SafeOps.nil ?_
   repeat first|apply sq|apply sk|with_reducible first|apply tn|apply bn
   refine Safe.ret ?_
   repeat (first | with_reducible refine thenQ.r ?_ | with_reducible refine blockQ.r ?_)
   obtain rfl := Option.some.inj h
   exact retQ.gen (vs := [V.agg [I 0, I 0, I 0, I 0, I 0, I 0, I 0, I 0, I 0, I 0, I 0], I 1]) rfl (.cell (v := V.agg [I 0, I 0, I 0, I 0, I 0, I 0, I 0, I 0, I 0, I 0, I 0]) rfl rfl (.box rfl rfl) rfl (.tmp rfl .nil)) (.free rfl) (by simp) (.inr rfl)
  ·skip
   refine Safe.condN rfl hc19352 ?_
   repeat first|apply sq|apply sk|with_reducible first|apply tn|apply bn
   refine Safe.region ?_
   refine Q0 E_good rfl (v := V.agg [I a142, I a143, I a144, I 0, I 0, I v146, I v147, I v148, I v149, I 1, I 0]) (.load rfl rfl (.box rfl rfl) rfl) ?_
   refine SafeOps.store (z := Obj.box [I a142, I a143, I a144, I 0, I 0, I v146, I v147, I v148, I v149, I 1, I 0]) E_good rfl rfl rfl rfl rfl rfl rfl (.boxM (c := 11) rfl rfl (Nat.le_of_ble_eq_true rfl) rfl) ?_
   refine Qf E_good ?_
   refine SafeOps.nil ?_
   repeat first|apply sq|apply sk|with_reducible first|apply tn|apply bn
   refine Safe.ret ?_
   repeat (first | with_reducible refine thenQ.r ?_ | with_reducible refine blockQ.r ?_)
   obtain rfl := Option.some.inj h
   exact retQ.gen (vs := [V.agg [I a142, I a143, I a144, I 0, I 0, I v146, I v147, I v148, I v149, I 1, I 0], I 0]) rfl (.cell (v := V.agg [I a142, I a143, I a144, I 0, I 0, I v146, I v147, I v148, I v149, I 1, I 0]) rfl rfl (.box rfl rfl) rfl (.tmp rfl .nil)) (.free rfl) (by simp) (.inr rfl)

noncomputable def go_ravelref13_Fits_j1 (a151 : api_Task) (a152 : List api_Instr) (b153 : Bool) : Option Bool :=
 if (b153 || (decide (a151.Pc > (a152.length : Int)))) = true then
  some false
 else
  if (a151.Unit == 0) = true then
   some true
  else
   if (decide (a151.Pc < (a152.length : Int))) = true then
    if 0 ≤ a151.Pc ∧ a151.Pc < (a152.length : Int) then
     if (((gt a152 a151.Pc).Op) == 1) = true then
      if 0 ≤ a151.Pc ∧ a151.Pc < (a152.length : Int) then
       some (decide (a151.Unit < ((gt a152 a151.Pc).A)))
      else none
     else
      some false
    else none
   else
    some false

noncomputable def go_ravelref13_Fits (a151 : api_Task) (a152 : List api_Instr) : Option Bool :=
 (go_ravelref12_Check a151).bind fun x154 =>
 if (x154 != 0) = true then
  go_ravelref13_Fits_j1 a151 a152 true
 else
  (go_ravelref04_Check a152).bind fun x155 =>
  go_ravelref13_Fits_j1 a151 a152 (x155 != 0)

theorem go_ravelref13_Fits_sc (a151 : api_Task) (a152 : List api_Instr) (r : Bool) (h : go_ravelref13_Fits a151 a152 = some r) : SC Tryd.prog gl 49 [V.agg [I a151.Id, I a151.Tenant, I a151.Prog, I a151.Pc, I a151.Unit, I a151.Keeps.a0, I a151.Keeps.a1, I a151.Keeps.a2, I a151.Keeps.a3, I a151.State, I a151.Ran], V.sl 3 (rws api_Instr.cells a152)] (V.bool r) := by
 rw [go_ravelref13_Fits] at h
 refine SC.of E_good Tryd.func49 rfl (fun _ _ => Tryd.call49 _ _) rfl ?_
 repeat first|apply sq|apply sk|with_reducible first|apply tn|apply bn
 refine Safe.region ?_
 refine SafeOps.quiet1 E_good rfl rfl rfl (.box rfl rfl) rfl ?_
 refine Qf E_good ?_
 refine SafeOps.nil ?_
 repeat first|apply sq|apply sk|with_reducible first|apply tn|apply bn
 refine Safe.region ?_
 refine Q0 E_good rfl (v := V.agg [I a151.Id, I a151.Tenant, I a151.Prog, I a151.Pc, I a151.Unit, I a151.Keeps.a0, I a151.Keeps.a1, I a151.Keeps.a2, I a151.Keeps.a3, I a151.State, I a151.Ran]) (.load rfl rfl (.box rfl rfl) rfl) ?_
 refine bindG h ?_
 intro x154 he19410 h
 refine Q0 E_good rfl (v := I x154) (.callP rfl rfl (go_ravelref12_Check_sc a151 _ he19410) rfl) ?_
 refine Q0 E_good rfl (v := V.bool (x154 != 0)) (.fn rfl) ?_
 refine Qf E_good ?_
 refine SafeOps.bsplit 4 12 (fun b153 => go_ravelref13_Fits_j1 a151 a152 b153 = some r) (fun HJ19415 => ?_) (fun b153 h => ?_)
 ·refine ifG h (fun hc19411 h => ?_) (fun hc19411 h => ?_)
  ·skip
   refine sF hc19411 ?_
   refine sF hc19411 ?_
   refine sF hc19411 ?_
   refine Q0 E_good rfl (v := V.bool true) (.pickK rfl hc19411 rfl) ?_
   exact SafeOps.drop' 4 rfl rfl rfl (HJ19415 _ h)
  ·skip
   refine qF E_good hc19411 (.fn rfl) ?_
   refine bindG h ?_
   intro x155 he19424 h
   refine qF E_good hc19411 (v := I x155) (.callP rfl rfl (go_ravelref04_Check_sc a152 _ he19424) rfl) ?_
   refine qF E_good hc19411 (v := V.bool (x155 != 0)) (.fn rfl) ?_
   refine Q0 E_good rfl (v := V.bool (x155 != 0)) (.pickK rfl hc19411 rfl) ?_
   exact SafeOps.drop' 4 rfl rfl rfl (HJ19415 _ h)
 ·replace h : go_ravelref13_Fits_j1 a151 a152 b153 = some r := h
  rw [go_ravelref13_Fits_j1] at h
  refine Qf E_good ?_
  refine SafeOps.bjoin 6 19 (b := (b153 || (decide (a151.Pc > (a152.length : Int))))) (b1 := true) (b0 := decide (a151.Pc > (a152.length : Int))) (fun hc19416 K => ?_) (fun hc19416 K => ?_) bj_or ?_
  ·skip
   refine sF hc19416 ?_
   refine sF hc19416 ?_
   refine sF hc19416 ?_
   refine sF hc19416 ?_
   refine sF hc19416 ?_
   refine Q0 E_good rfl (v := V.bool true) (.pickK rfl hc19416 rfl) ?_
   exact SafeOps.drop' 6 rfl rfl rfl K
  ·skip
   refine qF E_good hc19416 (v := V.ptr [2] 0 3) (.fn rfl) ?_
   refine qF E_good hc19416 (v := I a151.Pc) (.load rfl rfl (.box rfl rfl) rfl) ?_
   refine qF E_good hc19416 (.fn rfl) ?_
   refine qF E_good hc19416 (v := I (a152.length : Int)) (.fnE rfl lenE) ?_
   refine qF E_good hc19416 (v := V.bool (decide (a151.Pc > (a152.length : Int)))) (.fn rfl) ?_
   refine Q0 E_good rfl (v := V.bool (decide (a151.Pc > (a152.length : Int)))) (.pickK rfl hc19416 rfl) ?_
   exact SafeOps.drop' 6 rfl rfl rfl K
  refine SafeOps.nil ?_
  repeat first|apply sq|apply sk|with_reducible first|apply tn|apply bn
  refine ifG h (fun hc19417 h => ?_) (fun hc19417 h => ?_)
  ·skip
   refine Safe.condK rfl hc19417 ?_
   repeat first|apply sq|apply sk|with_reducible first|apply tn|apply bn
   refine Safe.region ?_
   refine Qf E_good ?_
   refine SafeOps.nil ?_
   repeat first|apply sq|apply sk|with_reducible first|apply tn|apply bn
   refine Safe.ret ?_
   repeat (first | with_reducible refine thenQ.r ?_ | with_reducible refine blockQ.r ?_)
   obtain rfl := Option.some.inj h
   exact retQ.gen (vs := [V.bool false]) rfl (.tmp rfl .nil) (.free rfl) (by simp) (.inr rfl)
  ·skip
   refine Safe.condN rfl hc19417 ?_
   repeat first|apply sq|apply sk|with_reducible first|apply tn|apply bn
   refine Safe.region ?_
   refine Q0 E_good rfl (v := V.ptr [2] 0 4) (.fn rfl) ?_
   refine Q0 E_good rfl (v := I a151.Unit) (.load rfl rfl (.box rfl rfl) rfl) ?_
   refine Q0 E_good rfl (v := V.bool (a151.Unit == 0)) (.fn rfl) ?_
   refine SafeOps.nil ?_
   repeat first|apply sq|apply sk|with_reducible first|apply tn|apply bn
   refine ifG h (fun hc19418 h => ?_) (fun hc19418 h => ?_)
   ·skip
    refine Safe.condK rfl hc19418 ?_
    repeat first|apply sq|apply sk|with_reducible first|apply tn|apply bn
    refine Safe.region ?_
    refine Qf E_good ?_
    refine SafeOps.nil ?_
    repeat first|apply sq|apply sk|with_reducible first|apply tn|apply bn
    refine Safe.ret ?_
    repeat (first | with_reducible refine thenQ.r ?_ | with_reducible refine blockQ.r ?_)
    obtain rfl := Option.some.inj h
    exact retQ.gen (vs := [V.bool true]) rfl (.tmp rfl .nil) (.free rfl) (by simp) (.inr rfl)
   ·skip
    refine Safe.condN rfl hc19418 ?_
    repeat first|apply sq|apply sk|with_reducible first|apply tn|apply bn
    refine Safe.regionD (n := 26) [] [] E_good mixed rfl ?_
    refine DT 0 [] rfl rfl (v := V.ptr [2] 0 3) (fun _ hz => (.fn rfl)) ?_
    refine DT 1 [] rfl rfl (v := I a151.Pc) (fun _ hz => (.load rfl rfl (.box (hz _ _ rfl rfl) rfl) rfl)) ?_
    refine DT 2 [] rfl rfl (fun _ hz => (.fn rfl)) ?_
    refine DT 3 [] rfl rfl (v := I (a152.length : Int)) (fun _ hz => (.fnE rfl lenE)) ?_
    refine DT 4 [] rfl rfl (v := V.bool (decide (a151.Pc < (a152.length : Int)))) (fun _ hz => (.fn rfl)) ?_
    refine DT 5 [] rfl rfl (fun _ hz => (.fn rfl)) ?_
    refine ifG h (fun hc19419 h => ?_) (fun hc19419 h => ?_)
    ·skip
     refine DAny.take (i := 6) rfl (by kernel_rfl) [] (by kernel_rfl) (by kernel_rfl) (by kernel_rfl) (congrArg some hc19419) rfl rfl (fun _ hz => (.fn rfl)) ?_
     refine DAny.take (i := 7) rfl (by kernel_rfl) [] (by kernel_rfl) (by kernel_rfl) (by kernel_rfl) (congrArg some hc19419) rfl rfl (v := V.ptr [2] 0 3) (fun _ hz => (.fn rfl)) ?_
     refine DAny.take (i := 8) rfl (by kernel_rfl) [] (by kernel_rfl) (by kernel_rfl) (by kernel_rfl) (congrArg some hc19419) rfl rfl (v := I a151.Pc) (fun _ hz => (.load rfl rfl (.box (hz _ _ rfl rfl) rfl) rfl)) ?_
     refine okG h (fun hb19420 h => ?_)
     refine DAny.take (i := 9) rfl (by kernel_rfl) [] (by kernel_rfl) (by kernel_rfl) (by kernel_rfl) (congrArg some hc19419) rfl rfl (v := V.spt 3 (rws api_Instr.cells a152) (Int.toNat a151.Pc) 0) (fun _ hz => (.idxSlM (f := api_Instr.cells) rfl rfl rfl rfl rfl hb19420)) ?_
     refine DAny.take (i := 10) rfl (by kernel_rfl) [] (by kernel_rfl) (by kernel_rfl) (by kernel_rfl) (congrArg some hc19419) rfl rfl (v := V.spt 3 (rws api_Instr.cells a152) (Int.toNat a151.Pc) 0) (fun _ hz => (.fn rfl)) ?_
     refine DAny.take (i := 11) rfl (by kernel_rfl) [] (by kernel_rfl) (by kernel_rfl) (by kernel_rfl) (congrArg some hc19419) rfl rfl (v := I ((gt a152 a151.Pc).Op)) (fun _ hz => (.load rfl rfl (.sptM (f := api_Instr.cells) hb19420 rfl) rfl)) ?_
     refine DAny.take (i := 12) rfl (by kernel_rfl) [] (by kernel_rfl) (by kernel_rfl) (by kernel_rfl) (congrArg some hc19419) rfl rfl (v := V.bool (((gt a152 a151.Pc).Op) == 1)) (fun _ hz => (.fn rfl)) ?_
     refine DT 13 [] rfl rfl (v := V.bool (((gt a152 a151.Pc).Op) == 1)) (fun _ hz => (.pickK rfl hc19419 rfl)) ?_
     refine DT 14 [] rfl rfl (fun _ hz => (.fn rfl)) ?_
     refine ifG h (fun hc19421 h => ?_) (fun hc19421 h => ?_)
     ·skip
      refine DAny.take (i := 15) rfl (by kernel_rfl) [] (by kernel_rfl) (by kernel_rfl) (by kernel_rfl) (congrArg some hc19421) rfl rfl (v := V.ptr [2] 0 4) (fun _ hz => (.fn rfl)) ?_
      refine DAny.take (i := 16) rfl (by kernel_rfl) [] (by kernel_rfl) (by kernel_rfl) (by kernel_rfl) (congrArg some hc19421) rfl rfl (v := I a151.Unit) (fun _ hz => (.load rfl rfl (.box (hz _ _ rfl rfl) rfl) rfl)) ?_
      refine DAny.take (i := 17) rfl (by kernel_rfl) [] (by kernel_rfl) (by kernel_rfl) (by kernel_rfl) (congrArg some hc19421) rfl rfl (fun _ hz => (.fn rfl)) ?_
      refine DAny.take (i := 18) rfl (by kernel_rfl) [] (by kernel_rfl) (by kernel_rfl) (by kernel_rfl) (congrArg some hc19421) rfl rfl (v := V.ptr [2] 0 3) (fun _ hz => (.fn rfl)) ?_
      refine DAny.take (i := 19) rfl (by kernel_rfl) [] (by kernel_rfl) (by kernel_rfl) (by kernel_rfl) (congrArg some hc19421) rfl rfl (v := I a151.Pc) (fun _ hz => (.load rfl rfl (.box (hz _ _ rfl rfl) rfl) rfl)) ?_
      refine okG h (fun hb19422 h => ?_)
      refine DAny.take (i := 20) rfl (by kernel_rfl) [] (by kernel_rfl) (by kernel_rfl) (by kernel_rfl) (congrArg some hc19421) rfl rfl (v := V.spt 3 (rws api_Instr.cells a152) (Int.toNat a151.Pc) 0) (fun _ hz => (.idxSlM (f := api_Instr.cells) rfl rfl rfl rfl rfl hb19422)) ?_
      refine DAny.take (i := 21) rfl (by kernel_rfl) [] (by kernel_rfl) (by kernel_rfl) (by kernel_rfl) (congrArg some hc19421) rfl rfl (v := V.spt 3 (rws api_Instr.cells a152) (Int.toNat a151.Pc) 1) (fun _ hz => (.fn rfl)) ?_
      refine DAny.take (i := 22) rfl (by kernel_rfl) [] (by kernel_rfl) (by kernel_rfl) (by kernel_rfl) (congrArg some hc19421) rfl rfl (v := I ((gt a152 a151.Pc).A)) (fun _ hz => (.load rfl rfl (.sptM (f := api_Instr.cells) hb19422 rfl) rfl)) ?_
      refine DAny.take (i := 23) rfl (by kernel_rfl) [] (by kernel_rfl) (by kernel_rfl) (by kernel_rfl) (congrArg some hc19421) rfl rfl (v := V.bool (decide (a151.Unit < ((gt a152 a151.Pc).A)))) (fun _ hz => (.fn rfl)) ?_
      refine DT 24 [] rfl rfl (v := V.bool (decide (a151.Unit < ((gt a152 a151.Pc).A)))) (fun _ hz => (.pickK rfl hc19421 rfl)) ?_
      refine DT 25 [] rfl rfl (fun _ hz => (.fn rfl)) ?_
      refine DAny.nil (by kernel_rfl) ?_
      repeat first|apply sq|apply sk|with_reducible first|apply tn|apply bn
      refine Safe.ret ?_
      repeat (first | with_reducible refine thenQ.r ?_ | with_reducible refine blockQ.r ?_)
      obtain rfl := Option.some.inj h
      exact retQ.gen (vs := [V.bool (decide (a151.Unit < ((gt a152 a151.Pc).A)))]) rfl (.tmp rfl .nil) (.free rfl) (by simp) (.inr rfl)
     ·skip
      refine DAny.takeSkip (i := 15) rfl (by kernel_rfl) [] (by kernel_rfl) (by kernel_rfl) (by kernel_rfl) (congrArg some hc19421) rfl rfl ?_
      refine DAny.takeSkip (i := 16) rfl (by kernel_rfl) [] (by kernel_rfl) (by kernel_rfl) (by kernel_rfl) (congrArg some hc19421) rfl rfl ?_
      refine DAny.takeSkip (i := 17) rfl (by kernel_rfl) [] (by kernel_rfl) (by kernel_rfl) (by kernel_rfl) (congrArg some hc19421) rfl rfl ?_
      refine DAny.takeSkip (i := 18) rfl (by kernel_rfl) [] (by kernel_rfl) (by kernel_rfl) (by kernel_rfl) (congrArg some hc19421) rfl rfl ?_
      refine DAny.takeSkip (i := 19) rfl (by kernel_rfl) [] (by kernel_rfl) (by kernel_rfl) (by kernel_rfl) (congrArg some hc19421) rfl rfl ?_
      refine DAny.takeSkip (i := 20) rfl (by kernel_rfl) [] (by kernel_rfl) (by kernel_rfl) (by kernel_rfl) (congrArg some hc19421) rfl rfl ?_
      refine DAny.takeSkip (i := 21) rfl (by kernel_rfl) [] (by kernel_rfl) (by kernel_rfl) (by kernel_rfl) (congrArg some hc19421) rfl rfl ?_
      refine DAny.takeSkip (i := 22) rfl (by kernel_rfl) [] (by kernel_rfl) (by kernel_rfl) (by kernel_rfl) (congrArg some hc19421) rfl rfl ?_
      refine DAny.takeSkip (i := 23) rfl (by kernel_rfl) [] (by kernel_rfl) (by kernel_rfl) (by kernel_rfl) (congrArg some hc19421) rfl rfl ?_
      refine DT 24 [] rfl rfl (v := V.bool false) (fun _ hz => (.pickK rfl hc19421 rfl)) ?_
      refine DT 25 [] rfl rfl (fun _ hz => (.fn rfl)) ?_
      refine DAny.nil (by kernel_rfl) ?_
      repeat first|apply sq|apply sk|with_reducible first|apply tn|apply bn
      refine Safe.ret ?_
      repeat (first | with_reducible refine thenQ.r ?_ | with_reducible refine blockQ.r ?_)
      obtain rfl := Option.some.inj h
      exact retQ.gen (vs := [V.bool false]) rfl (.tmp rfl .nil) (.free rfl) (by simp) (.inr rfl)
    ·skip
     refine DAny.takeSkip (i := 6) rfl (by kernel_rfl) [] (by kernel_rfl) (by kernel_rfl) (by kernel_rfl) (congrArg some hc19419) rfl rfl ?_
     refine DAny.takeSkip (i := 7) rfl (by kernel_rfl) [] (by kernel_rfl) (by kernel_rfl) (by kernel_rfl) (congrArg some hc19419) rfl rfl ?_
     refine DAny.takeSkip (i := 8) rfl (by kernel_rfl) [] (by kernel_rfl) (by kernel_rfl) (by kernel_rfl) (congrArg some hc19419) rfl rfl ?_
     refine DAny.takeSkip (i := 9) rfl (by kernel_rfl) [] (by kernel_rfl) (by kernel_rfl) (by kernel_rfl) (congrArg some hc19419) rfl rfl ?_
     refine DAny.takeSkip (i := 10) rfl (by kernel_rfl) [] (by kernel_rfl) (by kernel_rfl) (by kernel_rfl) (congrArg some hc19419) rfl rfl ?_
     refine DAny.takeSkip (i := 11) rfl (by kernel_rfl) [] (by kernel_rfl) (by kernel_rfl) (by kernel_rfl) (congrArg some hc19419) rfl rfl ?_
     refine DAny.takeSkip (i := 12) rfl (by kernel_rfl) [] (by kernel_rfl) (by kernel_rfl) (by kernel_rfl) (congrArg some hc19419) rfl rfl ?_
     refine DT 13 [] rfl rfl (v := V.bool false) (fun _ hz => (.pickK rfl hc19419 rfl)) ?_
     refine DT 14 [] rfl rfl (fun _ hz => (.fn rfl)) ?_
     refine DAny.takeSkip (i := 15) rfl (by kernel_rfl) [] (by kernel_rfl) (by kernel_rfl) (by kernel_rfl) rfl rfl rfl ?_
     refine DAny.takeSkip (i := 16) rfl (by kernel_rfl) [] (by kernel_rfl) (by kernel_rfl) (by kernel_rfl) rfl rfl rfl ?_
     refine DAny.takeSkip (i := 17) rfl (by kernel_rfl) [] (by kernel_rfl) (by kernel_rfl) (by kernel_rfl) rfl rfl rfl ?_
     refine DAny.takeSkip (i := 18) rfl (by kernel_rfl) [] (by kernel_rfl) (by kernel_rfl) (by kernel_rfl) rfl rfl rfl ?_
     refine DAny.takeSkip (i := 19) rfl (by kernel_rfl) [] (by kernel_rfl) (by kernel_rfl) (by kernel_rfl) rfl rfl rfl ?_
     refine DAny.takeSkip (i := 20) rfl (by kernel_rfl) [] (by kernel_rfl) (by kernel_rfl) (by kernel_rfl) rfl rfl rfl ?_
     refine DAny.takeSkip (i := 21) rfl (by kernel_rfl) [] (by kernel_rfl) (by kernel_rfl) (by kernel_rfl) rfl rfl rfl ?_
     refine DAny.takeSkip (i := 22) rfl (by kernel_rfl) [] (by kernel_rfl) (by kernel_rfl) (by kernel_rfl) rfl rfl rfl ?_
     refine DAny.takeSkip (i := 23) rfl (by kernel_rfl) [] (by kernel_rfl) (by kernel_rfl) (by kernel_rfl) rfl rfl rfl ?_
     refine DT 24 [] rfl rfl (v := V.bool false) (fun _ hz => (.pickK rfl rfl rfl)) ?_
     refine DT 25 [] rfl rfl (fun _ hz => (.fn rfl)) ?_
     refine DAny.nil (by kernel_rfl) ?_
     repeat first|apply sq|apply sk|with_reducible first|apply tn|apply bn
     refine Safe.ret ?_
     repeat (first | with_reducible refine thenQ.r ?_ | with_reducible refine blockQ.r ?_)
     obtain rfl := Option.some.inj h
     exact retQ.gen (vs := [V.bool false]) rfl (.tmp rfl .nil) (.free rfl) (by simp) (.inr rfl)

noncomputable def go_ravelref13_Next (a156 : api_Task) (a157 : List api_Instr) : Option (api_Instr × Int) :=
 (go_ravelref13_Fits a156 a157).bind fun x158 =>
 if (!x158) = true then
  some (api_Instr.zero, 1)
 else
  if (a156.Pc == (a157.length : Int)) = true then
   some ((api_Instr.mk 9 0 0), 0)
  else
   if 0 ≤ a156.Pc ∧ a156.Pc < (a157.length : Int) then
    some ((gt a157 a156.Pc), 0)
   else none

theorem go_ravelref13_Next_sc (a156 : api_Task) (a157 : List api_Instr) (r : api_Instr × Int) (h : go_ravelref13_Next a156 a157 = some r) : SC Tryd.prog gl 39 [V.agg [I a156.Id, I a156.Tenant, I a156.Prog, I a156.Pc, I a156.Unit, I a156.Keeps.a0, I a156.Keeps.a1, I a156.Keeps.a2, I a156.Keeps.a3, I a156.State, I a156.Ran], V.sl 3 (rws api_Instr.cells a157)] (V.tup [V.agg [I r.1.Op, I r.1.A, I r.1.B], I r.2]) := by
 rw [go_ravelref13_Next] at h
 refine SC.of E_good Tryd.func39 rfl (fun _ _ => Tryd.call39 _ _) rfl ?_
 repeat first|apply sq|apply sk|with_reducible first|apply tn|apply bn
 refine Safe.region ?_
 refine SafeOps.quiet1 E_good rfl rfl rfl (.box rfl rfl) rfl ?_
 refine SafeOps.quiet1 E_good rfl rfl rfl (.alloc rfl rfl) rfl ?_
 refine Qf E_good ?_
 refine SafeOps.nil ?_
 repeat first|apply sq|apply sk|with_reducible first|apply tn|apply bn
 refine Safe.region ?_
 refine Q0 E_good rfl (v := V.agg [I a156.Id, I a156.Tenant, I a156.Prog, I a156.Pc, I a156.Unit, I a156.Keeps.a0, I a156.Keeps.a1, I a156.Keeps.a2, I a156.Keeps.a3, I a156.State, I a156.Ran]) (.load rfl rfl (.box rfl rfl) rfl) ?_
 refine Qf E_good ?_
 refine bindG h ?_
 intro x158 he19431 h
 refine Q0 E_good rfl (v := V.bool x158) (.callP rfl rfl (go_ravelref13_Fits_sc a156 a157 _ he19431) rfl) ?_
 refine Q0 E_good rfl (v := V.bool (!x158)) (.fn rfl) ?_
 refine SafeOps.nil ?_
 repeat first|apply sq|apply sk|with_reducible first|apply tn|apply bn
 refine ifG h (fun hc19432 h => ?_) (fun hc19432 h => ?_)
 ·skip
  refine Safe.condK rfl hc19432 ?_
  repeat first|apply sq|apply sk|with_reducible first|apply tn|apply bn
  refine Safe.region ?_
  refine Q0 E_good rfl (v := V.agg [I 0, I 0, I 0]) (.fn rfl) ?_
  refine SafeOps.store (z := Obj.box [I 0, I 0, I 0]) E_good rfl rfl rfl rfl rfl rfl rfl (.boxM (c := 3) rfl rfl (Nat.le_of_ble_eq_true rfl) rfl) ?_
  refine Qf E_good ?_
  refine SafeOps.nil ?_
  repeat first|apply sq|apply sk|with_reducible first|apply tn|apply bn
  refine Safe.ret ?_
  repeat (first | with_reducible refine thenQ.r ?_ | with_reducible refine blockQ.r ?_)
  obtain rfl := Option.some.inj h
  exact retQ.gen (vs := [V.agg [I 0, I 0, I 0], I 1]) rfl (.cell (v := V.agg [I 0, I 0, I 0]) rfl rfl (.box rfl rfl) rfl (.tmp rfl .nil)) (.free rfl) (by simp) (.inr rfl)
 ·skip
  refine Safe.condN rfl hc19432 ?_
  repeat first|apply sq|apply sk|with_reducible first|apply tn|apply bn
  refine Safe.region ?_
  refine Q0 E_good rfl (v := V.ptr [2] 0 3) (.fn rfl) ?_
  refine Q0 E_good rfl (v := I a156.Pc) (.load rfl rfl (.box rfl rfl) rfl) ?_
  refine Qf E_good ?_
  refine Q0 E_good rfl (v := I (a157.length : Int)) (.fnE rfl lenE) ?_
  refine Q0 E_good rfl (v := V.bool (a156.Pc == (a157.length : Int))) (.fn rfl) ?_
  refine SafeOps.nil ?_
  repeat first|apply sq|apply sk|with_reducible first|apply tn|apply bn
  refine ifG h (fun hc19433 h => ?_) (fun hc19433 h => ?_)
  ·skip
   refine Safe.condK rfl hc19433 ?_
   repeat first|apply sq|apply sk|with_reducible first|apply tn|apply bn
   refine Safe.region ?_
   refine Q0 E_good rfl (v := V.agg [I 9, I 0, I 0]) (.fn rfl) ?_
   refine SafeOps.store (z := Obj.box [I 9, I 0, I 0]) E_good rfl rfl rfl rfl rfl rfl rfl (.boxM (c := 3) rfl rfl (Nat.le_of_ble_eq_true rfl) rfl) ?_
   refine Qf E_good ?_
   refine SafeOps.nil ?_
   repeat first|apply sq|apply sk|with_reducible first|apply tn|apply bn
   refine Safe.ret ?_
   repeat (first | with_reducible refine thenQ.r ?_ | with_reducible refine blockQ.r ?_)
   obtain rfl := Option.some.inj h
   exact retQ.gen (vs := [V.agg [I 9, I 0, I 0], I 0]) rfl (.cell (v := V.agg [I 9, I 0, I 0]) rfl rfl (.box rfl rfl) rfl (.tmp rfl .nil)) (.free rfl) (by simp) (.inr rfl)
  ·skip
   refine Safe.condN rfl hc19433 ?_
   repeat first|apply sq|apply sk|with_reducible first|apply tn|apply bn
   refine Safe.region ?_
   refine Qf E_good ?_
   refine Q0 E_good rfl (v := V.ptr [2] 0 3) (.fn rfl) ?_
   refine Q0 E_good rfl (v := I a156.Pc) (.load rfl rfl (.box rfl rfl) rfl) ?_
   refine okG h (fun hb19434 h => ?_)
   refine Q0 E_good rfl (v := V.spt 3 (rws api_Instr.cells a157) (Int.toNat a156.Pc) 0) (.idxSlM (f := api_Instr.cells) rfl rfl rfl rfl rfl hb19434) ?_
   refine Q0 E_good rfl (v := V.agg [I ((gt a157 a156.Pc).Op), I ((gt a157 a156.Pc).A), I ((gt a157 a156.Pc).B)]) (.load rfl rfl (.sptM (f := api_Instr.cells) hb19434 rfl) rfl) ?_
   refine SafeOps.store (z := Obj.box [I ((gt a157 a156.Pc).Op), I ((gt a157 a156.Pc).A), I ((gt a157 a156.Pc).B)]) E_good rfl rfl rfl rfl rfl rfl rfl (.boxM (c := 3) rfl rfl (Nat.le_of_ble_eq_true rfl) rfl) ?_
   refine Qf E_good ?_
   refine SafeOps.nil ?_
   repeat first|apply sq|apply sk|with_reducible first|apply tn|apply bn
   refine Safe.ret ?_
   repeat (first | with_reducible refine thenQ.r ?_ | with_reducible refine blockQ.r ?_)
   obtain rfl := Option.some.inj h
   exact retQ.gen (vs := [V.agg [I ((gt a157 a156.Pc).Op), I ((gt a157 a156.Pc).A), I ((gt a157 a156.Pc).B)], I 0]) rfl (.cell (v := V.agg [I ((gt a157 a156.Pc).Op), I ((gt a157 a156.Pc).A), I ((gt a157 a156.Pc).B)]) rfl rfl (.box rfl rfl) rfl (.tmp rfl .nil)) (.free rfl) (by simp) (.inr rfl)

noncomputable def go_ravelref13_Do_j1 (a159 : api_Task) (x160 : api_Instr) (v161 : Int) : Option (api_Task × api_Effect × Int) :=
 if (x160.Op == 1) = true then
  some ((api_Task.mk a159.Id a159.Tenant a159.Prog v161 0 a159.Keeps a159.State (IntKind.i64.wrap (a159.Ran + 1))), api_Effect.zero, 0)
 else
  some ((api_Task.mk a159.Id a159.Tenant a159.Prog v161 0 a159.Keeps a159.State (IntKind.i64.wrap (a159.Ran + 1))), (api_Effect.mk x160.Op x160.A x160.B), 0)

noncomputable def go_ravelref13_Do (a159 : api_Task) (a162 : List api_Instr) : Option (api_Task × api_Effect × Int) :=
 (go_ravelref13_Next a159 a162).bind fun (x160, x163) =>
 if (x163 != 0) = true then
  some (api_Task.zero, api_Effect.zero, x163)
 else
  if (a159.State != 2) = true then
   some (api_Task.zero, api_Effect.zero, 9)
  else
   if (a159.Ran == 1099511627776) = true then
    some (api_Task.zero, api_Effect.zero, 4)
   else
    if ((x160.Op == 1) && (decide ((IntKind.i64.wrap (a159.Unit + 1)) < x160.A))) = true then
     some ((api_Task.mk a159.Id a159.Tenant a159.Prog a159.Pc (IntKind.i64.wrap (a159.Unit + 1)) a159.Keeps a159.State (IntKind.i64.wrap (a159.Ran + 1))), api_Effect.zero, 0)
    else
     if (decide (a159.Pc < (a162.length : Int))) = true then
      go_ravelref13_Do_j1 a159 x160 (IntKind.i64.wrap (a159.Pc + 1))
     else
      go_ravelref13_Do_j1 a159 x160 a159.Pc

theorem go_ravelref13_Do_sc (a159 : api_Task) (a162 : List api_Instr) (r : api_Task × api_Effect × Int) (h : go_ravelref13_Do a159 a162 = some r) : SC Tryd.prog gl 40 [V.agg [I a159.Id, I a159.Tenant, I a159.Prog, I a159.Pc, I a159.Unit, I a159.Keeps.a0, I a159.Keeps.a1, I a159.Keeps.a2, I a159.Keeps.a3, I a159.State, I a159.Ran], V.sl 3 (rws api_Instr.cells a162)] (V.tup [V.agg [I r.1.Id, I r.1.Tenant, I r.1.Prog, I r.1.Pc, I r.1.Unit, I r.1.Keeps.a0, I r.1.Keeps.a1, I r.1.Keeps.a2, I r.1.Keeps.a3, I r.1.State, I r.1.Ran], V.agg [I r.2.1.Kind, I r.2.1.A, I r.2.1.B], I r.2.2]) := by
 rw [go_ravelref13_Do] at h
 refine SC.of E_good Tryd.func40 rfl (fun _ _ => Tryd.call40 _ _) rfl ?_
 repeat first|apply sq|apply sk|with_reducible first|apply tn|apply bn
 refine Safe.region ?_
 refine SafeOps.quiet1 E_good rfl rfl rfl (.box rfl rfl) rfl ?_
 refine SafeOps.quiet1 E_good rfl rfl rfl (.alloc rfl rfl) rfl ?_
 refine SafeOps.quiet1 E_good rfl rfl rfl (.alloc rfl rfl) rfl ?_
 refine Qf E_good ?_
 refine SafeOps.nil ?_
 repeat first|apply sq|apply sk|with_reducible first|apply tn|apply bn
 refine Safe.region ?_
 refine Q0 E_good rfl (v := V.agg [I a159.Id, I a159.Tenant, I a159.Prog, I a159.Pc, I a159.Unit, I a159.Keeps.a0, I a159.Keeps.a1, I a159.Keeps.a2, I a159.Keeps.a3, I a159.State, I a159.Ran]) (.load rfl rfl (.box rfl rfl) rfl) ?_
 refine Qf E_good ?_
 refine bindG h ?_
 rintro ⟨x160, x163⟩ he19458 h
 refine Q0 E_good rfl (v := V.tup [V.agg [I x160.Op, I x160.A, I x160.B], I x163]) (.callP rfl rfl (go_ravelref13_Next_sc a159 a162 _ he19458) rfl) ?_
 refine Qf E_good ?_
 refine Qf E_good ?_
 refine Qf E_good ?_
 refine SafeOps.quiet1 E_good rfl rfl rfl (.alloc rfl rfl) rfl ?_
 refine SafeOps.store (z := Obj.box [I x160.Op, I x160.A, I x160.B]) E_good rfl rfl rfl rfl rfl rfl rfl (.boxM (c := 3) rfl rfl (Nat.le_of_ble_eq_true rfl) rfl) ?_
 refine Qf E_good ?_
 refine SafeOps.nil ?_
 repeat first|apply sq|apply sk|with_reducible first|apply tn|apply bn
 refine Safe.region ?_
 refine Qf E_good ?_
 refine Q0 E_good rfl (v := V.bool (x163 != 0)) (.fn rfl) ?_
 refine SafeOps.nil ?_
 repeat first|apply sq|apply sk|with_reducible first|apply tn|apply bn
 refine ifG h (fun hc19459 h => ?_) (fun hc19459 h => ?_)
 ·skip
  refine Safe.condK rfl hc19459 ?_
  repeat first|apply sq|apply sk|with_reducible first|apply tn|apply bn
  refine Safe.region ?_
  refine Q0 E_good rfl (v := V.agg [I 0, I 0, I 0, I 0, I 0, I 0, I 0, I 0, I 0, I 0, I 0]) (.fn rfl) ?_
  refine Q0 E_good rfl (v := V.agg [I 0, I 0, I 0]) (.fn rfl) ?_
  refine Qf E_good ?_
  refine SafeOps.store (z := Obj.box [I 0, I 0, I 0, I 0, I 0, I 0, I 0, I 0, I 0, I 0, I 0]) E_good rfl rfl rfl rfl rfl rfl rfl (.boxM (c := 11) rfl rfl (Nat.le_of_ble_eq_true rfl) rfl) ?_
  refine SafeOps.store (z := Obj.box [I 0, I 0, I 0]) E_good rfl rfl rfl rfl rfl rfl rfl (.boxM (c := 3) rfl rfl (Nat.le_of_ble_eq_true rfl) rfl) ?_
  refine Qf E_good ?_
  refine SafeOps.nil ?_
  repeat first|apply sq|apply sk|with_reducible first|apply tn|apply bn
  refine Safe.ret ?_
  repeat (first | with_reducible refine thenQ.r ?_ | with_reducible refine blockQ.r ?_)
  obtain rfl := Option.some.inj h
  exact retQ.gen (vs := [V.agg [I 0, I 0, I 0, I 0, I 0, I 0, I 0, I 0, I 0, I 0, I 0], V.agg [I 0, I 0, I 0], I x163]) rfl (.cell (v := V.agg [I 0, I 0, I 0, I 0, I 0, I 0, I 0, I 0, I 0, I 0, I 0]) rfl rfl (.box rfl rfl) rfl (.cell (v := V.agg [I 0, I 0, I 0]) rfl rfl (.box rfl rfl) rfl (.tmp rfl .nil))) (.free rfl) (by simp) (.inr rfl)
 ·skip
  refine Safe.condN rfl hc19459 ?_
  repeat first|apply sq|apply sk|with_reducible first|apply tn|apply bn
  refine Safe.region ?_
  refine Q0 E_good rfl (v := V.ptr [2] 0 9) (.fn rfl) ?_
  refine Q0 E_good rfl (v := I a159.State) (.load rfl rfl (.box rfl rfl) rfl) ?_
  refine Q0 E_good rfl (v := V.bool (a159.State != 2)) (.fn rfl) ?_
  refine SafeOps.nil ?_
  repeat first|apply sq|apply sk|with_reducible first|apply tn|apply bn
  refine ifG h (fun hc19460 h => ?_) (fun hc19460 h => ?_)
  ·skip
   refine Safe.condK rfl hc19460 ?_
   repeat first|apply sq|apply sk|with_reducible first|apply tn|apply bn
   refine Safe.region ?_
   refine Q0 E_good rfl (v := V.agg [I 0, I 0, I 0, I 0, I 0, I 0, I 0, I 0, I 0, I 0, I 0]) (.fn rfl) ?_
   refine Q0 E_good rfl (v := V.agg [I 0, I 0, I 0]) (.fn rfl) ?_
   refine SafeOps.store (z := Obj.box [I 0, I 0, I 0, I 0, I 0, I 0, I 0, I 0, I 0, I 0, I 0]) E_good rfl rfl rfl rfl rfl rfl rfl (.boxM (c := 11) rfl rfl (Nat.le_of_ble_eq_true rfl) rfl) ?_
   refine SafeOps.store (z := Obj.box [I 0, I 0, I 0]) E_good rfl rfl rfl rfl rfl rfl rfl (.boxM (c := 3) rfl rfl (Nat.le_of_ble_eq_true rfl) rfl) ?_
   refine Qf E_good ?_
   refine SafeOps.nil ?_
   repeat first|apply sq|apply sk|with_reducible first|apply tn|apply bn
   refine Safe.ret ?_
   repeat (first | with_reducible refine thenQ.r ?_ | with_reducible refine blockQ.r ?_)
   obtain rfl := Option.some.inj h
   exact retQ.gen (vs := [V.agg [I 0, I 0, I 0, I 0, I 0, I 0, I 0, I 0, I 0, I 0, I 0], V.agg [I 0, I 0, I 0], I 9]) rfl (.cell (v := V.agg [I 0, I 0, I 0, I 0, I 0, I 0, I 0, I 0, I 0, I 0, I 0]) rfl rfl (.box rfl rfl) rfl (.cell (v := V.agg [I 0, I 0, I 0]) rfl rfl (.box rfl rfl) rfl (.tmp rfl .nil))) (.free rfl) (by simp) (.inr rfl)
  ·skip
   refine Safe.condN rfl hc19460 ?_
   repeat first|apply sq|apply sk|with_reducible first|apply tn|apply bn
   refine Safe.region ?_
   refine Q0 E_good rfl (v := V.ptr [2] 0 10) (.fn rfl) ?_
   refine Q0 E_good rfl (v := I a159.Ran) (.load rfl rfl (.box rfl rfl) rfl) ?_
   refine Q0 E_good rfl (v := V.bool (a159.Ran == 1099511627776)) (.fn rfl) ?_
   refine SafeOps.nil ?_
   repeat first|apply sq|apply sk|with_reducible first|apply tn|apply bn
   refine ifG h (fun hc19461 h => ?_) (fun hc19461 h => ?_)
   ·skip
    refine Safe.condK rfl hc19461 ?_
    repeat first|apply sq|apply sk|with_reducible first|apply tn|apply bn
    refine Safe.region ?_
    refine Q0 E_good rfl (v := V.agg [I 0, I 0, I 0, I 0, I 0, I 0, I 0, I 0, I 0, I 0, I 0]) (.fn rfl) ?_
    refine Q0 E_good rfl (v := V.agg [I 0, I 0, I 0]) (.fn rfl) ?_
    refine SafeOps.store (z := Obj.box [I 0, I 0, I 0, I 0, I 0, I 0, I 0, I 0, I 0, I 0, I 0]) E_good rfl rfl rfl rfl rfl rfl rfl (.boxM (c := 11) rfl rfl (Nat.le_of_ble_eq_true rfl) rfl) ?_
    refine SafeOps.store (z := Obj.box [I 0, I 0, I 0]) E_good rfl rfl rfl rfl rfl rfl rfl (.boxM (c := 3) rfl rfl (Nat.le_of_ble_eq_true rfl) rfl) ?_
    refine Qf E_good ?_
    refine SafeOps.nil ?_
    repeat first|apply sq|apply sk|with_reducible first|apply tn|apply bn
    refine Safe.ret ?_
    repeat (first | with_reducible refine thenQ.r ?_ | with_reducible refine blockQ.r ?_)
    obtain rfl := Option.some.inj h
    exact retQ.gen (vs := [V.agg [I 0, I 0, I 0, I 0, I 0, I 0, I 0, I 0, I 0, I 0, I 0], V.agg [I 0, I 0, I 0], I 4]) rfl (.cell (v := V.agg [I 0, I 0, I 0, I 0, I 0, I 0, I 0, I 0, I 0, I 0, I 0]) rfl rfl (.box rfl rfl) rfl (.cell (v := V.agg [I 0, I 0, I 0]) rfl rfl (.box rfl rfl) rfl (.tmp rfl .nil))) (.free rfl) (by simp) (.inr rfl)
   ·skip
    refine Safe.condN rfl hc19461 ?_
    repeat first|apply sq|apply sk|with_reducible first|apply tn|apply bn
    refine Safe.region ?_
    refine Q0 E_good rfl (v := V.ptr [2] 0 10) (.fn rfl) ?_
    refine Q0 E_good rfl (v := I a159.Ran) (.load rfl rfl (.box rfl rfl) rfl) ?_
    refine Q0 E_good rfl (v := I (IntKind.i64.wrap (a159.Ran + 1))) (.fn rfl) ?_
    refine Q0 E_good rfl (v := V.ptr [2] 0 10) (.fn rfl) ?_
    refine SafeOps.store (z := Obj.box [I a159.Id, I a159.Tenant, I a159.Prog, I a159.Pc, I a159.Unit, I a159.Keeps.a0, I a159.Keeps.a1, I a159.Keeps.a2, I a159.Keeps.a3, I a159.State, I (IntKind.i64.wrap (a159.Ran + 1))]) E_good rfl rfl rfl rfl rfl rfl rfl (.boxM (c := 11) rfl rfl (Nat.le_of_ble_eq_true rfl) rfl) ?_
    refine SafeOps.nil ?_
    repeat first|apply sq|apply sk|with_reducible first|apply tn|apply bn
    refine Safe.region ?_
    refine Q0 E_good rfl (v := V.ptr [7] 0 0) (.fn rfl) ?_
    refine Q0 E_good rfl (v := I x160.Op) (.load rfl rfl (.box rfl rfl) rfl) ?_
    refine Q0 E_good rfl (v := V.bool (x160.Op == 1)) (.fn rfl) ?_
    refine Qf E_good ?_
    refine SafeOps.bjoin 7 44 (b := ((x160.Op == 1) && (decide ((IntKind.i64.wrap (a159.Unit + 1)) < x160.A)))) (b1 := decide ((IntKind.i64.wrap (a159.Unit + 1)) < x160.A)) (b0 := false) (fun hc19462 K => ?_) (fun hc19462 K => ?_) bj_and ?_
    ·skip
     refine qT E_good hc19462 (v := V.ptr [2] 0 4) (.fn rfl) ?_
     refine qT E_good hc19462 (v := I a159.Unit) (.load rfl rfl (.box rfl rfl) rfl) ?_
     refine qT E_good hc19462 (v := I (IntKind.i64.wrap (a159.Unit + 1))) (.fn rfl) ?_
     refine qT E_good hc19462 (v := V.ptr [7] 0 1) (.fn rfl) ?_
     refine qT E_good hc19462 (v := I x160.A) (.load rfl rfl (.box rfl rfl) rfl) ?_
     refine qT E_good hc19462 (v := V.bool (decide ((IntKind.i64.wrap (a159.Unit + 1)) < x160.A))) (.fn rfl) ?_
     refine Q0 E_good rfl (v := V.bool (decide ((IntKind.i64.wrap (a159.Unit + 1)) < x160.A))) (.pickK rfl hc19462 rfl) ?_
     exact SafeOps.drop' 7 rfl rfl rfl K
    ·skip
     refine sT hc19462 ?_
     refine sT hc19462 ?_
     refine sT hc19462 ?_
     refine sT hc19462 ?_
     refine sT hc19462 ?_
     refine sT hc19462 ?_
     refine Q0 E_good rfl (v := V.bool false) (.pickK rfl hc19462 rfl) ?_
     exact SafeOps.drop' 7 rfl rfl rfl K
    refine SafeOps.nil ?_
    repeat first|apply sq|apply sk|with_reducible first|apply tn|apply bn
    refine ifG h (fun hc19463 h => ?_) (fun hc19463 h => ?_)
    ·skip
     refine Safe.condK rfl hc19463 ?_
     repeat first|apply sq|apply sk|with_reducible first|apply tn|apply bn
     refine Safe.region ?_
     refine Q0 E_good rfl (v := V.ptr [2] 0 4) (.fn rfl) ?_
     refine Q0 E_good rfl (v := I a159.Unit) (.load rfl rfl (.box rfl rfl) rfl) ?_
     refine Q0 E_good rfl (v := I (IntKind.i64.wrap (a159.Unit + 1))) (.fn rfl) ?_
     refine Q0 E_good rfl (v := V.ptr [2] 0 4) (.fn rfl) ?_
     refine SafeOps.store (z := Obj.box [I a159.Id, I a159.Tenant, I a159.Prog, I a159.Pc, I (IntKind.i64.wrap (a159.Unit + 1)), I a159.Keeps.a0, I a159.Keeps.a1, I a159.Keeps.a2, I a159.Keeps.a3, I a159.State, I (IntKind.i64.wrap (a159.Ran + 1))]) E_good rfl rfl rfl rfl rfl rfl rfl (.boxM (c := 11) rfl rfl (Nat.le_of_ble_eq_true rfl) rfl) ?_
     refine SafeOps.nil ?_
     repeat first|apply sq|apply sk|with_reducible first|apply tn|apply bn
     refine Safe.region ?_
     refine Q0 E_good rfl (v := V.agg [I a159.Id, I a159.Tenant, I a159.Prog, I a159.Pc, I (IntKind.i64.wrap (a159.Unit + 1)), I a159.Keeps.a0, I a159.Keeps.a1, I a159.Keeps.a2, I a159.Keeps.a3, I a159.State, I (IntKind.i64.wrap (a159.Ran + 1))]) (.load rfl rfl (.box rfl rfl) rfl) ?_
     refine Q0 E_good rfl (v := V.agg [I 0, I 0, I 0]) (.fn rfl) ?_
     refine SafeOps.store (z := Obj.box [I a159.Id, I a159.Tenant, I a159.Prog, I a159.Pc, I (IntKind.i64.wrap (a159.Unit + 1)), I a159.Keeps.a0, I a159.Keeps.a1, I a159.Keeps.a2, I a159.Keeps.a3, I a159.State, I (IntKind.i64.wrap (a159.Ran + 1))]) E_good rfl rfl rfl rfl rfl rfl rfl (.boxM (c := 11) rfl rfl (Nat.le_of_ble_eq_true rfl) rfl) ?_
     refine SafeOps.store (z := Obj.box [I 0, I 0, I 0]) E_good rfl rfl rfl rfl rfl rfl rfl (.boxM (c := 3) rfl rfl (Nat.le_of_ble_eq_true rfl) rfl) ?_
     refine Qf E_good ?_
     refine SafeOps.nil ?_
     repeat first|apply sq|apply sk|with_reducible first|apply tn|apply bn
     refine Safe.ret ?_
     repeat (first | with_reducible refine thenQ.r ?_ | with_reducible refine blockQ.r ?_)
     obtain rfl := Option.some.inj h
     exact retQ.gen (vs := [V.agg [I a159.Id, I a159.Tenant, I a159.Prog, I a159.Pc, I (IntKind.i64.wrap (a159.Unit + 1)), I a159.Keeps.a0, I a159.Keeps.a1, I a159.Keeps.a2, I a159.Keeps.a3, I a159.State, I (IntKind.i64.wrap (a159.Ran + 1))], V.agg [I 0, I 0, I 0], I 0]) rfl (.cell (v := V.agg [I a159.Id, I a159.Tenant, I a159.Prog, I a159.Pc, I (IntKind.i64.wrap (a159.Unit + 1)), I a159.Keeps.a0, I a159.Keeps.a1, I a159.Keeps.a2, I a159.Keeps.a3, I a159.State, I (IntKind.i64.wrap (a159.Ran + 1))]) rfl rfl (.box rfl rfl) rfl (.cell (v := V.agg [I 0, I 0, I 0]) rfl rfl (.box rfl rfl) rfl (.tmp rfl .nil))) (.free rfl) (by simp) (.inr rfl)
    ·skip
     refine Safe.condN rfl hc19463 ?_
     repeat first|apply sq|apply sk|with_reducible first|apply tn|apply bn
     refine Safe.region ?_
     refine Q0 E_good rfl (v := V.ptr [2] 0 4) (.fn rfl) ?_
     refine SafeOps.store (z := Obj.box [I a159.Id, I a159.Tenant, I a159.Prog, I a159.Pc, I 0, I a159.Keeps.a0, I a159.Keeps.a1, I a159.Keeps.a2, I a159.Keeps.a3, I a159.State, I (IntKind.i64.wrap (a159.Ran + 1))]) E_good rfl rfl rfl rfl rfl rfl rfl (.boxM (c := 11) rfl rfl (Nat.le_of_ble_eq_true rfl) rfl) ?_
     refine SafeOps.nil ?_
     repeat first|apply sq|apply sk|with_reducible first|apply tn|apply bn
     refine Safe.region ?_
     refine Q0 E_good rfl (v := V.ptr [2] 0 3) (.fn rfl) ?_
     refine Q0 E_good rfl (v := I a159.Pc) (.load rfl rfl (.box rfl rfl) rfl) ?_
     refine Qf E_good ?_
     refine Q0 E_good rfl (v := I (a162.length : Int)) (.fnE rfl lenE) ?_
     refine Q0 E_good rfl (v := V.bool (decide (a159.Pc < (a162.length : Int)))) (.fn rfl) ?_
     refine SafeOps.nil ?_
     repeat first|apply sq|apply sk|with_reducible first|apply tn|apply bn
     refine Safe.joinT (fun (v161 : Int) => go_ravelref13_Do_j1 a159 x160 v161 = some r) (fun (v161 : Int) => ⟨Tryd.f40.ntmps, [(2, V.ptr [2] 0 0), (4, V.ptr [4] 0 0), (5, V.ptr [5] 0 0), (7, V.ptr [7] 0 0)], [([2], Obj.box [I a159.Id, I a159.Tenant, I a159.Prog, I v161, I 0, I a159.Keeps.a0, I a159.Keeps.a1, I a159.Keeps.a2, I a159.Keeps.a3, I a159.State, I (IntKind.i64.wrap (a159.Ran + 1))]), ([4], Obj.box [I 0, I 0, I 0, I 0, I 0, I 0, I 0, I 0, I 0, I 0, I 0]), ([5], Obj.box [I 0, I 0, I 0]), ([7], Obj.box [I x160.Op, I x160.A, I x160.B])], [], []⟩) ?_ (fun HJ19465 => ?_)
     ·intro v161 h
      replace h : go_ravelref13_Do_j1 a159 x160 v161 = some r := h
      rw [go_ravelref13_Do_j1] at h
      repeat first|apply sq|apply sk|with_reducible first|apply tn|apply bn
      refine Safe.region ?_
      refine Q0 E_good rfl (v := V.ptr [7] 0 0) (.fn rfl) ?_
      refine Q0 E_good rfl (v := I x160.Op) (.load rfl rfl (.box rfl rfl) rfl) ?_
      refine Q0 E_good rfl (v := V.bool (x160.Op == 1)) (.fn rfl) ?_
      refine SafeOps.nil ?_
      repeat first|apply sq|apply sk|with_reducible first|apply tn|apply bn
      refine ifG h (fun hc19466 h => ?_) (fun hc19466 h => ?_)
      ·skip
       refine Safe.condK rfl hc19466 ?_
       repeat first|apply sq|apply sk|with_reducible first|apply tn|apply bn
       refine Safe.region ?_
       refine Q0 E_good rfl (v := V.agg [I a159.Id, I a159.Tenant, I a159.Prog, I v161, I 0, I a159.Keeps.a0, I a159.Keeps.a1, I a159.Keeps.a2, I a159.Keeps.a3, I a159.State, I (IntKind.i64.wrap (a159.Ran + 1))]) (.load rfl rfl (.box rfl rfl) rfl) ?_
       refine Q0 E_good rfl (v := V.agg [I 0, I 0, I 0]) (.fn rfl) ?_
       refine SafeOps.store (z := Obj.box [I a159.Id, I a159.Tenant, I a159.Prog, I v161, I 0, I a159.Keeps.a0, I a159.Keeps.a1, I a159.Keeps.a2, I a159.Keeps.a3, I a159.State, I (IntKind.i64.wrap (a159.Ran + 1))]) E_good rfl rfl rfl rfl rfl rfl rfl (.boxM (c := 11) rfl rfl (Nat.le_of_ble_eq_true rfl) rfl) ?_
       refine SafeOps.store (z := Obj.box [I 0, I 0, I 0]) E_good rfl rfl rfl rfl rfl rfl rfl (.boxM (c := 3) rfl rfl (Nat.le_of_ble_eq_true rfl) rfl) ?_
       refine Qf E_good ?_
       refine SafeOps.nil ?_
       repeat first|apply sq|apply sk|with_reducible first|apply tn|apply bn
       refine Safe.ret ?_
       repeat (first | with_reducible refine thenQ.r ?_ | with_reducible refine blockQ.r ?_)
       obtain rfl := Option.some.inj h
       exact retQ.gen (vs := [V.agg [I a159.Id, I a159.Tenant, I a159.Prog, I v161, I 0, I a159.Keeps.a0, I a159.Keeps.a1, I a159.Keeps.a2, I a159.Keeps.a3, I a159.State, I (IntKind.i64.wrap (a159.Ran + 1))], V.agg [I 0, I 0, I 0], I 0]) rfl (.cell (v := V.agg [I a159.Id, I a159.Tenant, I a159.Prog, I v161, I 0, I a159.Keeps.a0, I a159.Keeps.a1, I a159.Keeps.a2, I a159.Keeps.a3, I a159.State, I (IntKind.i64.wrap (a159.Ran + 1))]) rfl rfl (.box rfl rfl) rfl (.cell (v := V.agg [I 0, I 0, I 0]) rfl rfl (.box rfl rfl) rfl (.tmp rfl .nil))) (.free rfl) (by simp) (.inr rfl)
      ·skip
       refine Safe.condN rfl hc19466 ?_
       repeat first|apply sq|apply sk|with_reducible first|apply tn|apply bn
       refine Safe.regionD (n := 11) [(8, [4]), (9, [5])] [] E_good mixed rfl ?_
       refine DT 0 [[4], [5]] rfl rfl (v := V.agg [I a159.Id, I a159.Tenant, I a159.Prog, I v161, I 0, I a159.Keeps.a0, I a159.Keeps.a1, I a159.Keeps.a2, I a159.Keeps.a3, I a159.State, I (IntKind.i64.wrap (a159.Ran + 1))]) (fun _ hz => (.load rfl rfl (.box (hz _ _ rfl rfl) rfl) rfl)) ?_
       refine DT 1 [[4], [5]] rfl rfl (v := V.ptr [7] 0 0) (fun _ hz => (.fn rfl)) ?_
       refine DT 2 [[4], [5]] rfl rfl (v := I x160.Op) (fun _ hz => (.load rfl rfl (.box (hz _ _ rfl rfl) rfl) rfl)) ?_
       refine DT 3 [[4], [5]] rfl rfl (v := V.ptr [7] 0 1) (fun _ hz => (.fn rfl)) ?_
       refine DT 4 [[4], [5]] rfl rfl (v := I x160.A) (fun _ hz => (.load rfl rfl (.box (hz _ _ rfl rfl) rfl) rfl)) ?_
       refine DT 5 [[4], [5]] rfl rfl (v := V.ptr [7] 0 2) (fun _ hz => (.fn rfl)) ?_
       refine DT 6 [[4], [5]] rfl rfl (v := I x160.B) (fun _ hz => (.load rfl rfl (.box (hz _ _ rfl rfl) rfl) rfl)) ?_
       refine DT 7 [[4], [5]] rfl rfl (v := V.agg [I x160.Op, I x160.A, I x160.B]) (fun _ hz => (.fn rfl)) ?_
       refine DAny.only (i := 8) rfl (by kernel_rfl) (.store (z := Obj.box [I a159.Id, I a159.Tenant, I a159.Prog, I v161, I 0, I a159.Keeps.a0, I a159.Keeps.a1, I a159.Keeps.a2, I a159.Keeps.a3, I a159.State, I (IntKind.i64.wrap (a159.Ran + 1))]) rfl rfl rfl rfl rfl rfl rfl (.boxM (c := 11) rfl rfl (Nat.le_of_ble_eq_true rfl) rfl) rfl ?_)
       refine DAny.only (i := 9) rfl (by kernel_rfl) (.store (z := Obj.box [I x160.Op, I x160.A, I x160.B]) rfl rfl rfl rfl rfl rfl rfl (.boxM (c := 3) rfl rfl (Nat.le_of_ble_eq_true rfl) rfl) rfl ?_)
       refine DT 10 [[4], [5]] rfl rfl (fun _ hz => (.fn rfl)) ?_
       refine DAny.nil (by kernel_rfl) ?_
       repeat first|apply sq|apply sk|with_reducible first|apply tn|apply bn
       refine Safe.ret ?_
       repeat (first | with_reducible refine thenQ.r ?_ | with_reducible refine blockQ.r ?_)
       obtain rfl := Option.some.inj h
       exact retQ.gen (vs := [V.agg [I a159.Id, I a159.Tenant, I a159.Prog, I v161, I 0, I a159.Keeps.a0, I a159.Keeps.a1, I a159.Keeps.a2, I a159.Keeps.a3, I a159.State, I (IntKind.i64.wrap (a159.Ran + 1))], V.agg [I x160.Op, I x160.A, I x160.B], I 0]) rfl (.cell (v := V.agg [I a159.Id, I a159.Tenant, I a159.Prog, I v161, I 0, I a159.Keeps.a0, I a159.Keeps.a1, I a159.Keeps.a2, I a159.Keeps.a3, I a159.State, I (IntKind.i64.wrap (a159.Ran + 1))]) rfl rfl (.box rfl rfl) rfl (.cell (v := V.agg [I x160.Op, I x160.A, I x160.B]) rfl rfl (.box rfl rfl) rfl (.tmp rfl .nil))) (.free rfl) (by simp) (.inr rfl)
     ·skip
      refine ifG h (fun hc19467 h => ?_) (fun hc19467 h => ?_)
      ·skip
       refine Safe.condK rfl hc19467 ?_
       repeat first|apply sq|apply sk|with_reducible first|apply tn|apply bn
       refine Safe.region ?_
       refine Q0 E_good rfl (v := V.ptr [2] 0 3) (.fn rfl) ?_
       refine Q0 E_good rfl (v := I a159.Pc) (.load rfl rfl (.box rfl rfl) rfl) ?_
       refine Q0 E_good rfl (v := I (IntKind.i64.wrap (a159.Pc + 1))) (.fn rfl) ?_
       refine Q0 E_good rfl (v := V.ptr [2] 0 3) (.fn rfl) ?_
       refine SafeOps.store (z := Obj.box [I a159.Id, I a159.Tenant, I a159.Prog, I (IntKind.i64.wrap (a159.Pc + 1)), I 0, I a159.Keeps.a0, I a159.Keeps.a1, I a159.Keeps.a2, I a159.Keeps.a3, I a159.State, I (IntKind.i64.wrap (a159.Ran + 1))]) E_good rfl rfl rfl rfl rfl rfl rfl (.boxM (c := 11) rfl rfl (Nat.le_of_ble_eq_true rfl) rfl) ?_
       refine SafeOps.nil ?_
       repeat (first | refine Safe.skip ?_ | with_reducible refine thenQ.n ?_ | with_reducible refine blockQ.n ?_)
       exact Safe.got (HJ19465 (IntKind.i64.wrap (a159.Pc + 1)) h) (.cov ⟨rfl, rfl, (ut (ut (ut (ut upT_nil)))), (uo (uo (uo (uo upOb_nil)))), upOut_nil, rfl⟩)
      ·skip
       refine Safe.condN rfl hc19467 ?_
       repeat (first | refine Safe.skip ?_ | with_reducible refine thenQ.n ?_ | with_reducible refine blockQ.n ?_)
       exact Safe.got (HJ19465 (a159.Pc) h) (.cov ⟨rfl, rfl, (ut (ut (ut (ut upT_nil)))), (uo (uo (uo (uo upOb_nil)))), upOut_nil, rfl⟩)

def go_ravelref18_Held (a164 : Int) : Int :=
 if ((decide (a164 ≥ 4)) && (decide (a164 ≤ 7))) = true then
  IntKind.i64.wrap (a164 - 1)
 else
  0

theorem go_ravelref18_Held_sc (a164 : Int) (r : Int) (h : go_ravelref18_Held a164 = r) : SC Tryd.prog gl 23 [I a164] (I r) := by
 rw [go_ravelref18_Held] at h
 refine SC.of E_good Tryd.func23 rfl (fun _ _ => Tryd.call23 _ _) rfl ?_
 repeat first|apply sq|apply sk|with_reducible first|apply tn|apply bn
 refine Safe.region ?_
 refine Qf E_good ?_
 refine SafeOps.nil ?_
 repeat first|apply sq|apply sk|with_reducible first|apply tn|apply bn
 refine Safe.region ?_
 refine Qf E_good ?_
 refine Q0 E_good rfl (v := V.bool (decide (a164 ≥ 4))) (.fn rfl) ?_
 refine Qf E_good ?_
 refine SafeOps.bjoin 3 8 (b := ((decide (a164 ≥ 4)) && (decide (a164 ≤ 7)))) (b1 := decide (a164 ≤ 7)) (b0 := false) (fun hc19480 K => ?_) (fun hc19480 K => ?_) bj_and ?_
 ·skip
  refine qT E_good hc19480 (.fn rfl) ?_
  refine qT E_good hc19480 (v := V.bool (decide (a164 ≤ 7))) (.fn rfl) ?_
  refine Q0 E_good rfl (v := V.bool (decide (a164 ≤ 7))) (.pickK rfl hc19480 rfl) ?_
  exact SafeOps.drop' 3 rfl rfl rfl K
 ·skip
  refine sT hc19480 ?_
  refine sT hc19480 ?_
  refine Q0 E_good rfl (v := V.bool false) (.pickK rfl hc19480 rfl) ?_
  exact SafeOps.drop' 3 rfl rfl rfl K
 refine SafeOps.nil ?_
 repeat first|apply sq|apply sk|with_reducible first|apply tn|apply bn
 refine ifG h (fun hc19481 h => ?_) (fun hc19481 h => ?_)
 ·skip
  refine Safe.condK rfl hc19481 ?_
  repeat first|apply sq|apply sk|with_reducible first|apply tn|apply bn
  refine Safe.region ?_
  refine Qf E_good ?_
  refine Q0 E_good rfl (v := I (IntKind.i64.wrap (a164 - 1))) (.fn rfl) ?_
  refine Qf E_good ?_
  refine SafeOps.nil ?_
  repeat first|apply sq|apply sk|with_reducible first|apply tn|apply bn
  refine Safe.ret ?_
  repeat (first | with_reducible refine thenQ.r ?_ | with_reducible refine blockQ.r ?_)
  obtain rfl := h
  exact retQ.gen (vs := [I (IntKind.i64.wrap (a164 - 1))]) rfl (.tmp rfl .nil) (.free rfl) (by simp) (.inr rfl)
 ·skip
  refine Safe.condN rfl hc19481 ?_
  repeat first|apply sq|apply sk|with_reducible first|apply tn|apply bn
  refine Safe.region ?_
  refine Qf E_good ?_
  refine SafeOps.nil ?_
  repeat first|apply sq|apply sk|with_reducible first|apply tn|apply bn
  refine Safe.ret ?_
  repeat (first | with_reducible refine thenQ.r ?_ | with_reducible refine blockQ.r ?_)
  obtain rfl := h
  exact retQ.gen (vs := [I 0]) rfl (.tmp rfl .nil) (.free rfl) (by simp) (.inr rfl)

def go_ravelref12_Waits (a165 : Int) : Bool :=
 ((decide (a165 ≥ 3)) && (decide (a165 ≤ 6)))

theorem go_ravelref12_Waits_sc (a165 : Int) (r : Bool) (h : go_ravelref12_Waits a165 = r) : SC Tryd.prog gl 41 [I a165] (V.bool r) := by
 rw [go_ravelref12_Waits] at h
 refine SC.of E_good Tryd.func41 rfl (fun _ _ => Tryd.call41 _ _) rfl ?_
 repeat first|apply sq|apply sk|with_reducible first|apply tn|apply bn
 refine Safe.region ?_
 refine Qf E_good ?_
 refine SafeOps.nil ?_
 repeat first|apply sq|apply sk|with_reducible first|apply tn|apply bn
 refine Safe.region ?_
 refine Qf E_good ?_
 refine Q0 E_good rfl (v := V.bool (decide (a165 ≥ 3))) (.fn rfl) ?_
 refine Qf E_good ?_
 refine SafeOps.bjoin 3 8 (b := ((decide (a165 ≥ 3)) && (decide (a165 ≤ 6)))) (b1 := decide (a165 ≤ 6)) (b0 := false) (fun hc19486 K => ?_) (fun hc19486 K => ?_) bj_and ?_
 ·skip
  refine qT E_good hc19486 (.fn rfl) ?_
  refine qT E_good hc19486 (v := V.bool (decide (a165 ≤ 6))) (.fn rfl) ?_
  refine Q0 E_good rfl (v := V.bool (decide (a165 ≤ 6))) (.pickK rfl hc19486 rfl) ?_
  exact SafeOps.drop' 3 rfl rfl rfl K
 ·skip
  refine sT hc19486 ?_
  refine sT hc19486 ?_
  refine Q0 E_good rfl (v := V.bool false) (.pickK rfl hc19486 rfl) ?_
  exact SafeOps.drop' 3 rfl rfl rfl K
 refine Qf E_good ?_
 refine SafeOps.nil ?_
 repeat first|apply sq|apply sk|with_reducible first|apply tn|apply bn
 refine Safe.ret ?_
 repeat (first | with_reducible refine thenQ.r ?_ | with_reducible refine blockQ.r ?_)
 obtain rfl := h
 exact retQ.gen (vs := [V.bool ((decide (a165 ≥ 3)) && (decide (a165 ≤ 6)))]) rfl (.tmp rfl .nil) (.free rfl) (by simp) (.inr rfl)
end Go.Proofs.YtpkegoikocfchaaDoor
