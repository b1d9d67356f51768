/- Helper lemmas for the claim's theorem: an abstract machine over the model, proved sound; no condition beyond each lemma's own. -/
import Derived.Test.YtpkegoikocfchaaDoorSEnv
import Derived.Test.YtpkegoikocfchaaDoorAmI
import Derived.Test.YtpkegoikocfchaaDoorAmK
set_option linter.unusedVariables false
set_option linter.unusedSimpArgs false
set_option linter.unnecessarySimpa false
set_option linter.unusedSectionVars false
namespace Go.Proofs.YtpkegoikocfchaaDoor
open Go Go.AM
set_option maxRecDepth 100000
set_option maxHeartbeats 1000000
set_option linter.unusedVariables false
set_option linter.unusedSimpArgs false
@[ext] structure api_Instr where
 Op : Int
 A : Int
 B : Int
 deriving Inhabited
def api_Instr.cells (x : api_Instr) : List V := [I x.Op, I x.A, I x.B]
def api_Instr.zero : api_Instr := ⟨0, 0, 0⟩
def api_Instr.beq (x y : api_Instr) : Bool := ((x.Op == y.Op) && ((x.A == y.A) && ((x.B == y.B) && true)))

@[ext] structure api_Event where
 Kind : Int
 Id : Int
 A : Int
 deriving Inhabited
def api_Event.cells (x : api_Event) : List V := [I x.Kind, I x.Id, I x.A]
def api_Event.zero : api_Event := ⟨0, 0, 0⟩
def api_Event.beq (x y : api_Event) : Bool := ((x.Kind == y.Kind) && ((x.Id == y.Id) && ((x.A == y.A) && true)))

def go_code_within (a0 : Int) (a1 : Int) : Bool :=
 ((decide (a0 ≥ 0)) && (decide (a0 < a1)))

theorem go_code_within_sc (a0 : Int) (a1 : Int) (r : Bool) (h : go_code_within a0 a1 = r) : SC Tryd.prog gl 46 [I a0, I a1] (V.bool r) := by
 rw [go_code_within] at h
 refine SC.of E_good Tryd.func46 rfl (fun _ _ => Tryd.call46 _ _) rfl ?_
 repeat first|apply sq|apply sk|with_reducible first|apply tn|apply bn
 refine Safe.region ?_
 refine Qf E_good ?_
 refine SafeOps.nil ?_
 repeat first|apply sq|apply sk|with_reducible first|apply tn|apply bn
 refine Safe.region ?_
 refine Qf E_good ?_
 refine Q0 E_good rfl (v := V.bool (decide (a0 ≥ 0))) (.fn rfl) ?_
 refine Qf E_good ?_
 refine SafeOps.bjoin 4 11 (b := ((decide (a0 ≥ 0)) && (decide (a0 < a1)))) (b1 := decide (a0 < a1)) (b0 := false) (fun hc29 K => ?_) (fun hc29 K => ?_) bj_and ?_
 ·skip
  refine qT E_good hc29 (.fn rfl) ?_
  refine qT E_good hc29 (.fn rfl) ?_
  refine qT E_good hc29 (v := V.bool (decide (a0 < a1))) (.fn rfl) ?_
  refine Q0 E_good rfl (v := V.bool (decide (a0 < a1))) (.pickK rfl hc29 rfl) ?_
  exact SafeOps.drop' 4 rfl rfl rfl K
 ·skip
  refine sT hc29 ?_
  refine sT hc29 ?_
  refine sT hc29 ?_
  refine Q0 E_good rfl (v := V.bool false) (.pickK rfl hc29 rfl) ?_
  exact SafeOps.drop' 4 rfl rfl rfl K
 refine Qf E_good ?_
 refine SafeOps.nil ?_
 repeat first|apply sq|apply sk|with_reducible first|apply tn|apply bn
 refine Safe.ret ?_
 repeat (first | with_reducible refine thenQ.r ?_ | with_reducible refine blockQ.r ?_)
 obtain rfl := h
 exact retQ.gen (vs := [V.bool ((decide (a0 ≥ 0)) && (decide (a0 < a1)))]) rfl (.tmp rfl .nil) (.free rfl) (by simp) (.inr rfl)

def go_code_odd_j2 (v2 : Bool) (v3 : Bool) : Bool :=
 ((!v2) || (!v3))

def go_code_odd_j4 (a4 : api_Instr) (v5 : Bool) : Bool :=
 if v5 = true then
  go_code_odd_j2 (go_code_within a4.A 8) (a4.B == 0)
 else
  true

def go_code_odd_j3 (a4 : api_Instr) (v6 : Bool) : Bool :=
 if v6 = true then
  go_code_odd_j2 (a4.A == 0) (a4.B == 0)
 else
  if (a4.Op == 4) = true then
   go_code_odd_j2 (go_code_within (IntKind.i64.wrap (a4.A - 1)) 1000) (a4.B == 0)
  else
   if (a4.Op == 5) = true then
    go_code_odd_j2 (go_code_within a4.A 16) (a4.B == 0)
   else
    if (a4.Op == 6) = true then
     go_code_odd_j2 (go_code_within a4.A 4) (a4.B == 0)
    else
     if (a4.Op == 7) = true then
      go_code_odd_j4 a4 (a4.Op == 7)
     else
      go_code_odd_j4 a4 (a4.Op == 8)

def go_code_odd (a4 : api_Instr) : Bool :=
 if (a4.Op == 1) = true then
  go_code_odd_j2 (go_code_within (IntKind.i64.wrap (a4.A - 1)) 100) (a4.B == 0)
 else
  if (a4.Op == 2) = true then
   go_code_odd_j2 (go_code_within a4.A 16) (go_code_within a4.B 4)
  else
   if (a4.Op == 3) = true then
    go_code_odd_j3 a4 (a4.Op == 3)
   else
    go_code_odd_j3 a4 (a4.Op == 9)

theorem go_code_odd_sc (a4 : api_Instr) (r : Bool) (h : go_code_odd a4 = r) : SC Tryd.prog gl 35 [V.agg [I a4.Op, I a4.A, I a4.B]] (V.bool r) := by
 rw [go_code_odd] at h
 refine SC.of E_good Tryd.func35 rfl (fun _ _ => Tryd.call35 _ _) rfl ?_
 repeat first|apply sq|apply sk|with_reducible first|apply tn|apply bn
 refine Safe.region ?_
 refine SafeOps.quiet1 E_good rfl rfl rfl (.box rfl rfl) rfl ?_
 refine Qf E_good ?_
 refine SafeOps.nil ?_
 repeat first|apply sq|apply sk|with_reducible first|apply tn|apply bn
 refine Safe.regionD (n := 8) [] [] E_good mixed rfl ?_
 refine DT 0 [] rfl rfl (v := V.ptr [1] 0 1) (fun _ hz => (.fn rfl)) ?_
 refine DT 1 [] rfl rfl (v := I a4.A) (fun _ hz => (.load rfl rfl (.box (hz _ _ rfl rfl) rfl) rfl)) ?_
 refine DT 2 [] rfl rfl (v := V.bool (a4.A == 0)) (fun _ hz => (.fn rfl)) ?_
 refine DT 3 [] rfl rfl (v := V.ptr [1] 0 2) (fun _ hz => (.fn rfl)) ?_
 refine DT 4 [] rfl rfl (v := I a4.B) (fun _ hz => (.load rfl rfl (.box (hz _ _ rfl rfl) rfl) rfl)) ?_
 refine DT 5 [] rfl rfl (v := V.bool (a4.B == 0)) (fun _ hz => (.fn rfl)) ?_
 refine DT 6 [] rfl rfl (fun _ hz => (.fn rfl)) ?_
 refine DT 7 [] rfl rfl (fun _ hz => (.fn rfl)) ?_
 refine DAny.nil (by kernel_rfl) ?_
 repeat first|apply sq|apply sk|with_reducible first|apply tn|apply bn
 refine Safe.region ?_
 refine Q0 E_good rfl (v := V.ptr [1] 0 0) (.fn rfl) ?_
 refine Q0 E_good rfl (v := I a4.Op) (.load rfl rfl (.box rfl rfl) rfl) ?_
 refine SafeOps.nil ?_
 repeat first|apply sq|apply sk|with_reducible first|apply tn|apply bn
 refine Safe.joinT (fun ((v2, v3) : Bool × Bool) => go_code_odd_j2 v2 v3 = r) (fun ((v2, v3) : Bool × Bool) => ⟨Tryd.f35.ntmps, [(3, V.bool v2), (4, V.bool v3)], [], [], []⟩) ?_ (fun HJ74 => ?_)
 ·rintro ⟨v2, v3⟩ h
  replace h : go_code_odd_j2 v2 v3 = r := h
  rw [go_code_odd_j2] at h
  repeat first|apply sq|apply sk|with_reducible first|apply tn|apply bn
  refine Safe.region ?_
  refine Qf E_good ?_
  refine Q0 E_good rfl (v := V.bool (!v2)) (.fn rfl) ?_
  refine Qf E_good ?_
  refine SafeOps.bjoin 3 57 (b := ((!v2) || (!v3))) (b1 := true) (b0 := (!v3)) (fun hc75 K => ?_) (fun hc75 K => ?_) bj_or ?_
  ·skip
   refine sF hc75 ?_
   refine sF hc75 ?_
   refine Q0 E_good rfl (v := V.bool true) (.pickK rfl hc75 rfl) ?_
   exact SafeOps.drop' 3 rfl rfl rfl K
  ·skip
   refine qF E_good hc75 (.fn rfl) ?_
   refine qF E_good hc75 (v := V.bool (!v3)) (.fn rfl) ?_
   refine Q0 E_good rfl (v := V.bool (!v3)) (.pickK rfl hc75 rfl) ?_
   exact SafeOps.drop' 3 rfl rfl rfl K
  refine Qf E_good ?_
  refine SafeOps.nil ?_
  repeat first|apply sq|apply sk|with_reducible first|apply tn|apply bn
  refine Safe.ret ?_
  repeat (first | with_reducible refine thenQ.r ?_ | with_reducible refine blockQ.r ?_)
  obtain rfl := h
  exact retQ.gen (vs := [V.bool ((!v2) || (!v3))]) rfl (.tmp rfl .nil) (.free rfl) (by simp) (.inr rfl)
 ·skip
  refine Safe.block ?_
  repeat first|apply sq|apply sk|with_reducible first|apply tn|apply bn
  refine Safe.region ?_
  refine Q0 E_good rfl (v := V.bool (a4.Op == 1)) (.fn rfl) ?_
  refine Qf E_good ?_
  refine SafeOps.nil ?_
  repeat first|apply sq|apply sk|with_reducible first|apply tn|apply bn
  refine ifG h (fun hc76 h => ?_) (fun hc76 h => ?_)
  ·skip
   refine Safe.condK rfl hc76 ?_
   repeat first|apply sq|apply sk|with_reducible first|apply tn|apply bn
   refine Safe.region ?_
   refine Q0 E_good rfl (v := V.ptr [1] 0 1) (.fn rfl) ?_
   refine Q0 E_good rfl (v := I a4.A) (.load rfl rfl (.box rfl rfl) rfl) ?_
   refine Q0 E_good rfl (v := I (IntKind.i64.wrap (a4.A - 1))) (.fn rfl) ?_
   refine Q0 E_good rfl (v := V.bool (go_code_within (IntKind.i64.wrap (a4.A - 1)) 100)) (.callP rfl rfl (go_code_within_sc (IntKind.i64.wrap (a4.A - 1)) 100 _ rfl) rfl) ?_
   refine Qf E_good ?_
   refine SafeOps.nil ?_
   repeat (first | refine Safe.skip ?_ | with_reducible refine thenQ.n ?_ | with_reducible refine blockQ.n ?_)
   exact Safe.got (HJ74 (go_code_within (IntKind.i64.wrap (a4.A - 1)) 100, (a4.B == 0)) h) (.cov ⟨rfl, rfl, (ut (ut upT_nil)), upOb_nil, upOut_nil, rfl⟩)
  ·skip
   refine Safe.condN rfl hc76 ?_
   repeat first|apply sq|apply sk|with_reducible first|apply tn|apply bn
   refine Safe.region ?_
   refine Q0 E_good rfl (v := V.bool (a4.Op == 2)) (.fn rfl) ?_
   refine Qf E_good ?_
   refine SafeOps.nil ?_
   repeat first|apply sq|apply sk|with_reducible first|apply tn|apply bn
   refine ifG h (fun hc77 h => ?_) (fun hc77 h => ?_)
   ·skip
    refine Safe.condK rfl hc77 ?_
    repeat first|apply sq|apply sk|with_reducible first|apply tn|apply bn
    refine Safe.regionD (n := 8) [] [] E_good mixed rfl ?_
    refine DT 0 [] rfl rfl (v := V.ptr [1] 0 1) (fun _ hz => (.fn rfl)) ?_
    refine DT 1 [] rfl rfl (v := I a4.A) (fun _ hz => (.load rfl rfl (.box (hz _ _ rfl rfl) rfl) rfl)) ?_
    refine DT 2 [] rfl rfl (v := V.bool (go_code_within a4.A 16)) (fun _ hz => (.callP rfl rfl (go_code_within_sc a4.A 16 _ rfl) rfl)) ?_
    refine DT 3 [] rfl rfl (v := V.ptr [1] 0 2) (fun _ hz => (.fn rfl)) ?_
    refine DT 4 [] rfl rfl (v := I a4.B) (fun _ hz => (.load rfl rfl (.box (hz _ _ rfl rfl) rfl) rfl)) ?_
    refine DT 5 [] rfl rfl (v := V.bool (go_code_within a4.B 4)) (fun _ hz => (.callP rfl rfl (go_code_within_sc a4.B 4 _ rfl) rfl)) ?_
    refine DT 6 [] rfl rfl (fun _ hz => (.fn rfl)) ?_
    refine DT 7 [] rfl rfl (fun _ hz => (.fn rfl)) ?_
    refine DAny.nil (by kernel_rfl) ?_
    repeat (first | refine Safe.skip ?_ | with_reducible refine thenQ.n ?_ | with_reducible refine blockQ.n ?_)
    exact Safe.got (HJ74 (go_code_within a4.A 16, go_code_within a4.B 4) h) (.cov ⟨rfl, rfl, (ut (ut upT_nil)), upOb_nil, upOut_nil, rfl⟩)
   ·skip
    refine Safe.condN rfl hc77 ?_
    repeat first|apply sq|apply sk|with_reducible first|apply tn|apply bn
    refine Safe.region ?_
    refine Q0 E_good rfl (v := V.bool (a4.Op == 3)) (.fn rfl) ?_
    refine Qf E_good ?_
    refine SafeOps.nil ?_
    repeat first|apply sq|apply sk|with_reducible first|apply tn|apply bn
    refine Safe.joinT (fun (v6 : Bool) => go_code_odd_j3 a4 v6 = r) (fun (v6 : Bool) => ⟨Tryd.f35.ntmps, [(1, V.ptr [1] 0 0), (3, V.bool (a4.A == 0)), (4, V.bool (a4.B == 0)), (12, I a4.Op), (27, V.bool v6)], [([1], Obj.box [I a4.Op, I a4.A, I a4.B])], [], []⟩) ?_ (fun HJ79 => ?_)
    ·intro v6 h
     replace h : go_code_odd_j3 a4 v6 = r := h
     rw [go_code_odd_j3] at h
     repeat first|apply sq|apply sk|with_reducible first|apply tn|apply bn
     refine ifG h (fun hc80 h => ?_) (fun hc80 h => ?_)
     ·skip
      refine Safe.condK rfl hc80 ?_
      repeat (first | refine Safe.skip ?_ | with_reducible refine thenQ.n ?_ | with_reducible refine blockQ.n ?_)
      exact Safe.got (HJ74 ((a4.A == 0), (a4.B == 0)) h) (.cov ⟨rfl, rfl, (ut (ut upT_nil)), upOb_nil, upOut_nil, rfl⟩)
     ·skip
      refine Safe.condN rfl hc80 ?_
      repeat first|apply sq|apply sk|with_reducible first|apply tn|apply bn
      refine Safe.region ?_
      refine Q0 E_good rfl (v := V.bool (a4.Op == 4)) (.fn rfl) ?_
      refine Qf E_good ?_
      refine SafeOps.nil ?_
      repeat first|apply sq|apply sk|with_reducible first|apply tn|apply bn
      refine ifG h (fun hc81 h => ?_) (fun hc81 h => ?_)
      ·skip
       refine Safe.condK rfl hc81 ?_
       repeat first|apply sq|apply sk|with_reducible first|apply tn|apply bn
       refine Safe.region ?_
       refine Q0 E_good rfl (v := V.ptr [1] 0 1) (.fn rfl) ?_
       refine Q0 E_good rfl (v := I a4.A) (.load rfl rfl (.box rfl rfl) rfl) ?_
       refine Q0 E_good rfl (v := I (IntKind.i64.wrap (a4.A - 1))) (.fn rfl) ?_
       refine Q0 E_good rfl (v := V.bool (go_code_within (IntKind.i64.wrap (a4.A - 1)) 1000)) (.callP rfl rfl (go_code_within_sc (IntKind.i64.wrap (a4.A - 1)) 1000 _ rfl) rfl) ?_
       refine Qf E_good ?_
       refine SafeOps.nil ?_
       repeat (first | refine Safe.skip ?_ | with_reducible refine thenQ.n ?_ | with_reducible refine blockQ.n ?_)
       exact Safe.got (HJ74 (go_code_within (IntKind.i64.wrap (a4.A - 1)) 1000, (a4.B == 0)) h) (.cov ⟨rfl, rfl, (ut (ut upT_nil)), upOb_nil, upOut_nil, rfl⟩)
      ·skip
       refine Safe.condN rfl hc81 ?_
       repeat first|apply sq|apply sk|with_reducible first|apply tn|apply bn
       refine Safe.region ?_
       refine Q0 E_good rfl (v := V.bool (a4.Op == 5)) (.fn rfl) ?_
       refine Qf E_good ?_
       refine SafeOps.nil ?_
       repeat first|apply sq|apply sk|with_reducible first|apply tn|apply bn
       refine ifG h (fun hc82 h => ?_) (fun hc82 h => ?_)
       ·skip
        refine Safe.condK rfl hc82 ?_
        repeat first|apply sq|apply sk|with_reducible first|apply tn|apply bn
        refine Safe.region ?_
        refine Q0 E_good rfl (v := V.ptr [1] 0 1) (.fn rfl) ?_
        refine Q0 E_good rfl (v := I a4.A) (.load rfl rfl (.box rfl rfl) rfl) ?_
        refine Q0 E_good rfl (v := V.bool (go_code_within a4.A 16)) (.callP rfl rfl (go_code_within_sc a4.A 16 _ rfl) rfl) ?_
        refine Qf E_good ?_
        refine SafeOps.nil ?_
        repeat (first | refine Safe.skip ?_ | with_reducible refine thenQ.n ?_ | with_reducible refine blockQ.n ?_)
        exact Safe.got (HJ74 (go_code_within a4.A 16, (a4.B == 0)) h) (.cov ⟨rfl, rfl, (ut (ut upT_nil)), upOb_nil, upOut_nil, rfl⟩)
       ·skip
        refine Safe.condN rfl hc82 ?_
        repeat first|apply sq|apply sk|with_reducible first|apply tn|apply bn
        refine Safe.region ?_
        refine Q0 E_good rfl (v := V.bool (a4.Op == 6)) (.fn rfl) ?_
        refine Qf E_good ?_
        refine SafeOps.nil ?_
        repeat first|apply sq|apply sk|with_reducible first|apply tn|apply bn
        refine ifG h (fun hc83 h => ?_) (fun hc83 h => ?_)
        ·skip
         refine Safe.condK rfl hc83 ?_
         repeat first|apply sq|apply sk|with_reducible first|apply tn|apply bn
         refine Safe.region ?_
         refine Q0 E_good rfl (v := V.ptr [1] 0 1) (.fn rfl) ?_
         refine Q0 E_good rfl (v := I a4.A) (.load rfl rfl (.box rfl rfl) rfl) ?_
         refine Q0 E_good rfl (v := V.bool (go_code_within a4.A 4)) (.callP rfl rfl (go_code_within_sc a4.A 4 _ rfl) rfl) ?_
         refine Qf E_good ?_
         refine SafeOps.nil ?_
         repeat (first | refine Safe.skip ?_ | with_reducible refine thenQ.n ?_ | with_reducible refine blockQ.n ?_)
         exact Safe.got (HJ74 (go_code_within a4.A 4, (a4.B == 0)) h) (.cov ⟨rfl, rfl, (ut (ut upT_nil)), upOb_nil, upOut_nil, rfl⟩)
        ·skip
         refine Safe.condN rfl hc83 ?_
         repeat first|apply sq|apply sk|with_reducible first|apply tn|apply bn
         refine Safe.region ?_
         refine Q0 E_good rfl (v := V.bool (a4.Op == 7)) (.fn rfl) ?_
         refine Qf E_good ?_
         refine SafeOps.nil ?_
         repeat first|apply sq|apply sk|with_reducible first|apply tn|apply bn
         refine Safe.joinT (fun (v5 : Bool) => go_code_odd_j4 a4 v5 = r) (fun (v5 : Bool) => ⟨Tryd.f35.ntmps, [(1, V.ptr [1] 0 0), (4, V.bool (a4.B == 0)), (46, V.bool v5)], [([1], Obj.box [I a4.Op, I a4.A, I a4.B])], [], []⟩) ?_ (fun HJ85 => ?_)
         ·intro v5 h
          replace h : go_code_odd_j4 a4 v5 = r := h
          rw [go_code_odd_j4] at h
          repeat first|apply sq|apply sk|with_reducible first|apply tn|apply bn
          refine ifG h (fun hc86 h => ?_) (fun hc86 h => ?_)
          ·skip
           refine Safe.condK rfl hc86 ?_
           repeat first|apply sq|apply sk|with_reducible first|apply tn|apply bn
           refine Safe.region ?_
           refine Q0 E_good rfl (v := V.ptr [1] 0 1) (.fn rfl) ?_
           refine Q0 E_good rfl (v := I a4.A) (.load rfl rfl (.box rfl rfl) rfl) ?_
           refine Q0 E_good rfl (v := V.bool (go_code_within a4.A 8)) (.callP rfl rfl (go_code_within_sc a4.A 8 _ rfl) rfl) ?_
           refine Qf E_good ?_
           refine SafeOps.nil ?_
           repeat (first | refine Safe.skip ?_ | with_reducible refine thenQ.n ?_ | with_reducible refine blockQ.n ?_)
           exact Safe.got (HJ74 (go_code_within a4.A 8, (a4.B == 0)) h) (.cov ⟨rfl, rfl, (ut (ut upT_nil)), upOb_nil, upOut_nil, rfl⟩)
          ·skip
           refine Safe.condN rfl hc86 ?_
           repeat first|apply sq|apply sk|with_reducible first|apply tn|apply bn
           refine Safe.region ?_
           refine Qf E_good ?_
           refine SafeOps.nil ?_
           repeat first|apply sq|apply sk|with_reducible first|apply tn|apply bn
           refine Safe.ret ?_
           repeat (first | with_reducible refine thenQ.r ?_ | with_reducible refine blockQ.r ?_)
           obtain rfl := h
           exact retQ.gen (vs := [V.bool true]) rfl (.tmp rfl .nil) (.free rfl) (by simp) (.inr rfl)
         ·skip
          refine ifG h (fun hc87 h => ?_) (fun hc87 h => ?_)
          ·skip
           refine Safe.condK rfl hc87 ?_
           repeat (first | refine Safe.skip ?_ | with_reducible refine thenQ.n ?_ | with_reducible refine blockQ.n ?_)
           exact Safe.got (HJ85 ((a4.Op == 7)) h) (.cov ⟨rfl, rfl, (ut (ut (ut upT_nil))), (uo upOb_nil), upOut_nil, rfl⟩)
          ·skip
           refine Safe.condN rfl hc87 ?_
           repeat first|apply sq|apply sk|with_reducible first|apply tn|apply bn
           refine Safe.region ?_
           refine Q0 E_good rfl (v := V.bool (a4.Op == 8)) (.fn rfl) ?_
           refine Qf E_good ?_
           refine SafeOps.nil ?_
           repeat (first | refine Safe.skip ?_ | with_reducible refine thenQ.n ?_ | with_reducible refine blockQ.n ?_)
           exact Safe.got (HJ85 ((a4.Op == 8)) h) (.cov ⟨rfl, rfl, (ut (ut (ut upT_nil))), (uo upOb_nil), upOut_nil, rfl⟩)
    ·skip
     refine ifG h (fun hc88 h => ?_) (fun hc88 h => ?_)
     ·skip
      refine Safe.condK rfl hc88 ?_
      repeat (first | refine Safe.skip ?_ | with_reducible refine thenQ.n ?_ | with_reducible refine blockQ.n ?_)
      exact Safe.got (HJ79 ((a4.Op == 3)) h) (.cov ⟨rfl, rfl, (ut (ut (ut (ut (ut upT_nil))))), (uo upOb_nil), upOut_nil, rfl⟩)
     ·skip
      refine Safe.condN rfl hc88 ?_
      repeat first|apply sq|apply sk|with_reducible first|apply tn|apply bn
      refine Safe.region ?_
      refine Q0 E_good rfl (v := V.bool (a4.Op == 9)) (.fn rfl) ?_
      refine Qf E_good ?_
      refine SafeOps.nil ?_
      repeat (first | refine Safe.skip ?_ | with_reducible refine thenQ.n ?_ | with_reducible refine blockQ.n ?_)
      exact Safe.got (HJ79 ((a4.Op == 9)) h) (.cov ⟨rfl, rfl, (ut (ut (ut (ut (ut upT_nil))))), (uo upOb_nil), upOut_nil, rfl⟩)

noncomputable def go_slices_IndexFunc_api_Instr_api_Instr_odd35_s1 (a7 : List api_Instr) : (Int) → Option ((Int) ⊕ (Int))
 | v8 =>
  if (decide (v8 < (a7.length : Int))) = true then
   if 0 ≤ v8 ∧ v8 < (a7.length : Int) then
    if (go_code_odd (gt a7 v8)) = true then
     inrO (
      some v8)
    else
     nextO (IntKind.i64.wrap (v8 + 1))
   else none
  else
   inrO (
    some (-1))

noncomputable def go_slices_IndexFunc_api_Instr_api_Instr_odd35 (a7 : List api_Instr) : Option Int :=
 whileO (go_slices_IndexFunc_api_Instr_api_Instr_odd35_s1 a7) 0

theorem go_slices_IndexFunc_api_Instr_api_Instr_odd35_sc (a7 : List api_Instr) (r : Int) (h : go_slices_IndexFunc_api_Instr_api_Instr_odd35 a7 = some r) : SC Tryd.prog gl 36 [V.sl 3 (rws api_Instr.cells a7), V.fn 35 []] (I r) := by
 rw [go_slices_IndexFunc_api_Instr_api_Instr_odd35] at h
 refine SC.of E_good Tryd.func36 rfl (fun _ _ => Tryd.call36 _ _) rfl ?_
 repeat first|apply sq|apply sk|with_reducible first|apply tn|apply bn
 refine Safe.region ?_
 refine Qf E_good ?_
 refine SafeOps.nil ?_
 repeat first|apply sq|apply sk|with_reducible first|apply tn|apply bn
 refine Safe.region ?_
 refine Qf E_good ?_
 refine Q0 E_good rfl (v := I (a7.length : Int)) (.fnE rfl lenE) ?_
 refine Qf E_good ?_
 refine SafeOps.nil ?_
 repeat first|apply sq|apply sk|with_reducible first|apply tn|apply bn
 refine Safe.block ?_
 repeat first|apply sq|apply sk|with_reducible first|apply tn|apply bn
 refine Safe.loopW (fun (v8 : Int) => ⟨Tryd.f36.ntmps, [(0, V.sl 3 (rws api_Instr.cells a7)), (1, V.fn 35 []), (7, I (a7.length : Int)), (8, I v8)], [], [], []⟩) h (.cov ⟨rfl, rfl, (ut (ut (ut (ut upT_nil)))), upOb_nil, upOut_nil, rfl⟩) ?_
 intro v8 ohr107 h hr107
 replace h : go_slices_IndexFunc_api_Instr_api_Instr_odd35_s1 a7 v8 = some ohr107 := h
 rw [go_slices_IndexFunc_api_Instr_api_Instr_odd35_s1] at h
 repeat first|apply sq|apply sk|with_reducible first|apply tn|apply bn
 refine Safe.region ?_
 refine Q0 E_good rfl (v := V.bool (decide (v8 < (a7.length : Int)))) (.fn rfl) ?_
 refine SafeOps.nil ?_
 repeat first|apply sq|apply sk|with_reducible first|apply tn|apply bn
 refine ifG h (fun hc108 h => ?_) (fun hc108 h => ?_)
 ·skip
  refine Safe.condK rfl hc108 ?_
  repeat first|apply sq|apply sk|with_reducible first|apply tn|apply bn
  refine Safe.block ?_
  repeat first|apply sq|apply sk|with_reducible first|apply tn|apply bn
  refine Safe.region ?_
  refine Qf E_good ?_
  refine Qf E_good ?_
  refine SafeOps.nil ?_
  repeat first|apply sq|apply sk|with_reducible first|apply tn|apply bn
  refine Safe.region ?_
  refine Qf E_good ?_
  refine Qf E_good ?_
  refine Qf E_good ?_
  refine okG h (fun hb109 h => ?_)
  refine Q0 E_good rfl (v := V.spt 3 (rws api_Instr.cells a7) (Int.toNat v8) 0) (.idxSlM (f := api_Instr.cells) rfl rfl rfl rfl rfl hb109) ?_
  refine Q0 E_good rfl (v := V.agg [I ((gt a7 v8).Op), I ((gt a7 v8).A), I ((gt a7 v8).B)]) (.load rfl rfl (.sptM (f := api_Instr.cells) hb109 rfl) rfl) ?_
  refine Q0 E_good rfl (v := V.bool (go_code_odd (gt a7 v8))) (.callP rfl rfl (go_code_odd_sc (gt a7 v8) _ rfl) rfl) ?_
  refine SafeOps.nil ?_
  repeat first|apply sq|apply sk|with_reducible first|apply tn|apply bn
  refine ifG h (fun hc110 h => ?_) (fun hc110 h => ?_)
  ·skip
   refine Safe.condK rfl hc110 ?_
   repeat first|apply sq|apply sk|with_reducible first|apply tn|apply bn
   refine Safe.region ?_
   refine Qf E_good ?_
   refine Qf E_good ?_
   refine SafeOps.nil ?_
   repeat first|apply sq|apply sk|with_reducible first|apply tn|apply bn
   refine Safe.ret ?_
   repeat (first | with_reducible refine thenQ.r ?_ | with_reducible refine blockQ.r ?_)
   replace h := inr_out h hr107
   obtain rfl := Option.some.inj h
   exact retQ.gen (vs := [I v8]) rfl (.tmp rfl .nil) (.free rfl) (by simp) (.inr rfl)
  ·skip
   refine Safe.condN rfl hc110 ?_
   repeat first|apply sq|apply sk|with_reducible first|apply tn|apply bn
   refine Safe.region ?_
   refine Q0 E_good rfl (v := I (IntKind.i64.wrap (v8 + 1))) (.fn rfl) ?_
   refine Qf E_good ?_
   refine SafeOps.nil ?_
   repeat first|apply sq|apply sk|with_reducible first|apply tn|apply bn
   exact ⟨_, next_out h, (.cov ⟨rfl, rfl, (ut (ut (ut (ut upT_nil)))), upOb_nil, upOut_nil, rfl⟩)⟩
 ·skip
  refine Safe.condN rfl hc108 ?_
  repeat first|apply sq|apply sk|with_reducible first|apply tn|apply bn
  refine Safe.exit ?_
  repeat (first | with_reducible refine thenQ.e ?_ | with_reducible refine blockQ.x rfl ?_ | with_reducible refine blockQ.y rfl ?_)
  replace h := inr_out h hr107
  repeat first|apply sq|apply sk|with_reducible first|apply tn|apply bn
  refine Safe.region ?_
  refine Qf E_good ?_
  refine SafeOps.nil ?_
  repeat first|apply sq|apply sk|with_reducible first|apply tn|apply bn
  refine Safe.ret ?_
  repeat (first | with_reducible refine thenQ.r ?_ | with_reducible refine blockQ.r ?_)
  obtain rfl := Option.some.inj h
  exact retQ.gen (vs := [I (-1)]) rfl (.tmp rfl .nil) (.free rfl) (by simp) (.inr rfl)

noncomputable def go_slices_ContainsFunc_api_Instr_api_Instr_odd35 (a9 : List api_Instr) : Option Bool :=
 (go_slices_IndexFunc_api_Instr_api_Instr_odd35 a9).bind fun x10 =>
 some (decide (x10 ≥ 0))

theorem go_slices_ContainsFunc_api_Instr_api_Instr_odd35_sc (a9 : List api_Instr) (r : Bool) (h : go_slices_ContainsFunc_api_Instr_api_Instr_odd35 a9 = some r) : SC Tryd.prog gl 28 [V.sl 3 (rws api_Instr.cells a9), V.fn 35 []] (V.bool r) := by
 rw [go_slices_ContainsFunc_api_Instr_api_Instr_odd35] at h
 refine SC.of E_good Tryd.func28 rfl (fun _ _ => Tryd.call28 _ _) rfl ?_
 repeat first|apply sq|apply sk|with_reducible first|apply tn|apply bn
 refine Safe.region ?_
 refine Qf E_good ?_
 refine SafeOps.nil ?_
 repeat first|apply sq|apply sk|with_reducible first|apply tn|apply bn
 refine Safe.region ?_
 refine Qf E_good ?_
 refine Qf E_good ?_
 refine bindG h ?_
 intro x10 he114 h
 refine Q0 E_good rfl (v := I x10) (.callP rfl rfl (go_slices_IndexFunc_api_Instr_api_Instr_odd35_sc a9 _ he114) rfl) ?_
 refine Q0 E_good rfl (v := V.bool (decide (x10 ≥ 0))) (.fn rfl) ?_
 refine Qf E_good ?_
 refine SafeOps.nil ?_
 repeat first|apply sq|apply sk|with_reducible first|apply tn|apply bn
 refine Safe.ret ?_
 repeat (first | with_reducible refine thenQ.r ?_ | with_reducible refine blockQ.r ?_)
 obtain rfl := Option.some.inj h
 exact retQ.gen (vs := [V.bool (decide (x10 ≥ 0))]) rfl (.tmp rfl .nil) (.free rfl) (by simp) (.inr rfl)

noncomputable def go_code_Check (a11 : List api_Instr) : Option Int :=
 if ((decide ((a11.length : Int) < 1)) || (decide ((a11.length : Int) > 32))) = true then
  some 1
 else
  (go_slices_ContainsFunc_api_Instr_api_Instr_odd35 a11).bind fun x12 =>
  if x12 = true then
   some 1
  else
   some 0

theorem go_code_Check_sc (a11 : List api_Instr) (r : Int) (h : go_code_Check a11 = some r) : SC Tryd.prog gl 27 [V.sl 3 (rws api_Instr.cells a11)] (I r) := by
 rw [go_code_Check] at h
 refine SC.of E_good Tryd.func27 rfl (fun _ _ => Tryd.call27 _ _) rfl ?_
 repeat first|apply sq|apply sk|with_reducible first|apply tn|apply bn
 refine Safe.region ?_
 refine Qf E_good ?_
 refine SafeOps.nil ?_
 repeat first|apply sq|apply sk|with_reducible first|apply tn|apply bn
 refine Safe.region ?_
 refine Qf E_good ?_
 refine Q0 E_good rfl (v := I (a11.length : Int)) (.fnE rfl lenE) ?_
 refine Q0 E_good rfl (v := V.bool (decide ((a11.length : Int) < 1))) (.fn rfl) ?_
 refine Qf E_good ?_
 refine SafeOps.bjoin 4 10 (b := ((decide ((a11.length : Int) < 1)) || (decide ((a11.length : Int) > 32)))) (b1 := true) (b0 := decide ((a11.length : Int) > 32)) (fun hc125 K => ?_) (fun hc125 K => ?_) bj_or ?_
 ·skip
  refine sF hc125 ?_
  refine sF hc125 ?_
  refine sF hc125 ?_
  refine Q0 E_good rfl (v := V.bool true) (.pickK rfl hc125 rfl) ?_
  exact SafeOps.drop' 4 rfl rfl rfl K
 ·skip
  refine qF E_good hc125 (.fn rfl) ?_
  refine qF E_good hc125 (v := I (a11.length : Int)) (.fnE rfl lenE) ?_
  refine qF E_good hc125 (v := V.bool (decide ((a11.length : Int) > 32))) (.fn rfl) ?_
  refine Q0 E_good rfl (v := V.bool (decide ((a11.length : Int) > 32))) (.pickK rfl hc125 rfl) ?_
  exact SafeOps.drop' 4 rfl rfl rfl K
 refine Qf E_good ?_
 refine ifG h (fun hc126 h => ?_) (fun hc126 h => ?_)
 ·skip
  refine sF hc126 ?_
  refine sF hc126 ?_
  refine Q0 E_good rfl (v := V.bool true) (.pickK rfl hc126 rfl) ?_
  refine SafeOps.nil ?_
  repeat first|apply sq|apply sk|with_reducible first|apply tn|apply bn
  refine Safe.condK rfl rfl ?_
  repeat first|apply sq|apply sk|with_reducible first|apply tn|apply bn
  refine Safe.region ?_
  refine Qf E_good ?_
  refine SafeOps.nil ?_
  repeat first|apply sq|apply sk|with_reducible first|apply tn|apply bn
  refine Safe.ret ?_
  repeat (first | with_reducible refine thenQ.r ?_ | with_reducible refine blockQ.r ?_)
  obtain rfl := Option.some.inj h
  exact retQ.gen (vs := [I 1]) rfl (.tmp rfl .nil) (.free rfl) (by simp) (.inr rfl)
 ·skip
  refine qF E_good hc126 (.fn rfl) ?_
  refine bindG h ?_
  intro x12 he130 h
  refine qF E_good hc126 (v := V.bool x12) (.callP rfl rfl (go_slices_ContainsFunc_api_Instr_api_Instr_odd35_sc a11 _ he130) rfl) ?_
  refine Q0 E_good rfl (v := V.bool x12) (.pickK rfl hc126 rfl) ?_
  refine SafeOps.nil ?_
  repeat first|apply sq|apply sk|with_reducible first|apply tn|apply bn
  refine ifG h (fun hc131 h => ?_) (fun hc131 h => ?_)
  ·skip
   refine Safe.condK rfl hc131 ?_
   repeat first|apply sq|apply sk|with_reducible first|apply tn|apply bn
   refine Safe.region ?_
   refine Qf E_good ?_
   refine SafeOps.nil ?_
   repeat first|apply sq|apply sk|with_reducible first|apply tn|apply bn
   refine Safe.ret ?_
   repeat (first | with_reducible refine thenQ.r ?_ | with_reducible refine blockQ.r ?_)
   obtain rfl := Option.some.inj h
   exact retQ.gen (vs := [I 1]) rfl (.tmp rfl .nil) (.free rfl) (by simp) (.inr rfl)
  ·skip
   refine Safe.condN rfl hc131 ?_
   repeat first|apply sq|apply sk|with_reducible first|apply tn|apply bn
   refine Safe.region ?_
   refine Qf E_good ?_
   refine SafeOps.nil ?_
   repeat first|apply sq|apply sk|with_reducible first|apply tn|apply bn
   refine Safe.ret ?_
   repeat (first | with_reducible refine thenQ.r ?_ | with_reducible refine blockQ.r ?_)
   obtain rfl := Option.some.inj h
   exact retQ.gen (vs := [I 0]) rfl (.tmp rfl .nil) (.free rfl) (by simp) (.inr rfl)

noncomputable def go_code_CheckAll_j13 (v13 : Int) (v14 : Int) : Option ((Int) ⊕ (Int)) :=
 if (decide (v14 ≥ 0)) = true then
  inrO (
   some 1)
 else
  nextO (IntKind.i64.wrap (v13 + 1))

noncomputable def go_code_CheckAll_s14 (a15 : List (List api_Instr)) (v13 : Int) : (Int) → Option ((Int) ⊕ ((Int) ⊕ (Int)))
 | v16 =>
  if (decide (v16 < ((gt a15 v13).length : Int))) = true then
   if 0 ≤ v16 ∧ v16 < ((gt a15 v13).length : Int) then
    if ((((gt (gt a15 v13) v16).Op) == 2) && (decide (((gt (gt a15 v13) v16).A) ≥ (a15.length : Int)))) = true then
     inrO (
      go_code_CheckAll_j13 v13 v16)
    else
     nextO (IntKind.i64.wrap (v16 + 1))
   else none
  else
   inrO (
    go_code_CheckAll_j13 v13 (-1))

noncomputable def go_code_CheckAll_s9 (a15 : List (List api_Instr)) : (Int) → Option ((Int) ⊕ (Int))
 | v13 =>
  if (decide (v13 < (a15.length : Int))) = true then
   if 0 ≤ v13 ∧ v13 < (a15.length : Int) then
    (go_code_Check (gt a15 v13)).bind fun x17 =>
    if (x17 != 0) = true then
     inrO (
      some 1)
    else
     whileO (go_code_CheckAll_s14 a15 v13) 0
   else none
  else
   inrO (
    some 0)

noncomputable def go_code_CheckAll (a15 : List (List api_Instr)) : Option Int :=
 if ((decide ((a15.length : Int) < 1)) || (decide ((a15.length : Int) > 16))) = true then
  some 1
 else
  whileO (go_code_CheckAll_s9 a15) 0

theorem go_code_CheckAll_sc (a15 : List (List api_Instr)) (r : Int) (h : go_code_CheckAll a15 = some r) : SC Tryd.prog gl 12 [V.sl 1 (rws (fun l => [V.sl 3 (rws api_Instr.cells l)]) a15)] (I r) := by
 rw [go_code_CheckAll] at h
 refine SC.of E_good Tryd.func12 rfl (fun _ _ => Tryd.call12 _ _) rfl ?_
 repeat first|apply sq|apply sk|with_reducible first|apply tn|apply bn
 refine Safe.region ?_
 refine SafeOps.quiet1 E_good rfl rfl rfl (.box rfl rfl) rfl ?_
 refine Qf E_good ?_
 refine SafeOps.nil ?_
 repeat first|apply sq|apply sk|with_reducible first|apply tn|apply bn
 refine Safe.region ?_
 refine Q0 E_good rfl (v := V.sl 1 (rws (fun l => [V.sl 3 (rws api_Instr.cells l)]) a15)) (.load rfl rfl (.box rfl rfl) rfl) ?_
 refine Q0 E_good rfl (v := I (a15.length : Int)) (.fnE rfl lenE) ?_
 refine Q0 E_good rfl (v := V.bool (decide ((a15.length : Int) < 1))) (.fn rfl) ?_
 refine Qf E_good ?_
 refine SafeOps.bjoin 4 13 (b := ((decide ((a15.length : Int) < 1)) || (decide ((a15.length : Int) > 16)))) (b1 := true) (b0 := decide ((a15.length : Int) > 16)) (fun hc271 K => ?_) (fun hc271 K => ?_) bj_or ?_
 ·skip
  refine sF hc271 ?_
  refine sF hc271 ?_
  refine sF hc271 ?_
  refine Q0 E_good rfl (v := V.bool true) (.pickK rfl hc271 rfl) ?_
  exact SafeOps.drop' 4 rfl rfl rfl K
 ·skip
  refine qF E_good hc271 (v := V.sl 1 (rws (fun l => [V.sl 3 (rws api_Instr.cells l)]) a15)) (.load rfl rfl (.box rfl rfl) rfl) ?_
  refine qF E_good hc271 (v := I (a15.length : Int)) (.fnE rfl lenE) ?_
  refine qF E_good hc271 (v := V.bool (decide ((a15.length : Int) > 16))) (.fn rfl) ?_
  refine Q0 E_good rfl (v := V.bool (decide ((a15.length : Int) > 16))) (.pickK rfl hc271 rfl) ?_
  exact SafeOps.drop' 4 rfl rfl rfl K
 refine SafeOps.nil ?_
 repeat first|apply sq|apply sk|with_reducible first|apply tn|apply bn
 refine ifG h (fun hc272 h => ?_) (fun hc272 h => ?_)
 ·skip
  refine Safe.condK rfl hc272 ?_
  repeat first|apply sq|apply sk|with_reducible first|apply tn|apply bn
  refine Safe.region ?_
  refine Qf E_good ?_
  refine SafeOps.nil ?_
  repeat first|apply sq|apply sk|with_reducible first|apply tn|apply bn
  refine Safe.ret ?_
  repeat (first | with_reducible refine thenQ.r ?_ | with_reducible refine blockQ.r ?_)
  obtain rfl := Option.some.inj h
  exact retQ.gen (vs := [I 1]) rfl (.tmp rfl .nil) (.free rfl) (by simp) (.inr rfl)
 ·skip
  refine Safe.condN rfl hc272 ?_
  repeat first|apply sq|apply sk|with_reducible first|apply tn|apply bn
  refine Safe.region ?_
  refine Q0 E_good rfl (v := V.fn 26 [V.ptr [1] 0 0]) (.fn rfl) ?_
  refine Qf E_good ?_
  refine SafeOps.nil ?_
  repeat first|apply sq|apply sk|with_reducible first|apply tn|apply bn
  refine Safe.region ?_
  refine Q0 E_good rfl (v := V.sl 1 (rws (fun l => [V.sl 3 (rws api_Instr.cells l)]) a15)) (.load rfl rfl (.box rfl rfl) rfl) ?_
  refine Q0 E_good rfl (v := I (a15.length : Int)) (.fnE rfl lenE) ?_
  refine Qf E_good ?_
  refine SafeOps.nil ?_
  repeat first|apply sq|apply sk|with_reducible first|apply tn|apply bn
  refine Safe.block ?_
  repeat first|apply sq|apply sk|with_reducible first|apply tn|apply bn
  refine Safe.loopW (fun (v13 : Int) => ⟨Tryd.f12.ntmps, [(3, V.fn 26 [V.ptr [1] 0 0]), (15, V.sl 1 (rws (fun l => [V.sl 3 (rws api_Instr.cells l)]) a15)), (16, I (a15.length : Int)), (17, I v13)], [([1], Obj.box [V.sl 1 (rws (fun l => [V.sl 3 (rws api_Instr.cells l)]) a15)])], [], []⟩) h (.cov ⟨rfl, rfl, (ut (ut (ut (ut upT_nil)))), (uo upOb_nil), upOut_nil, rfl⟩) ?_
  intro v13 ohr367 h hr367
  replace h : go_code_CheckAll_s9 a15 v13 = some ohr367 := h
  rw [go_code_CheckAll_s9] at h
  repeat first|apply sq|apply sk|with_reducible first|apply tn|apply bn
  refine Safe.region ?_
  refine Q0 E_good rfl (v := V.bool (decide (v13 < (a15.length : Int)))) (.fn rfl) ?_
  refine SafeOps.nil ?_
  repeat first|apply sq|apply sk|with_reducible first|apply tn|apply bn
  refine ifG h (fun hc368 h => ?_) (fun hc368 h => ?_)
  ·skip
   refine Safe.condK rfl hc368 ?_
   repeat first|apply sq|apply sk|with_reducible first|apply tn|apply bn
   refine Safe.block ?_
   repeat first|apply sq|apply sk|with_reducible first|apply tn|apply bn
   refine Safe.region ?_
   refine okG h (fun hb369 h => ?_)
   refine Q0 E_good rfl (v := V.spt 1 (rws (fun l => [V.sl 3 (rws api_Instr.cells l)]) a15) (Int.toNat v13) 0) (.idxSlM (f := (fun l => [V.sl 3 (rws api_Instr.cells l)])) rfl rfl rfl rfl rfl hb369) ?_
   refine Q0 E_good rfl (v := V.sl 3 (rws api_Instr.cells (gt a15 v13))) (.load rfl rfl (.sptM (f := (fun l => [V.sl 3 (rws api_Instr.cells l)])) hb369 rfl) rfl) ?_
   refine Qf E_good ?_
   refine SafeOps.nil ?_
   repeat first|apply sq|apply sk|with_reducible first|apply tn|apply bn
   refine Safe.region ?_
   refine Qf E_good ?_
   refine bindG h ?_
   intro x17 he371 h
   refine Q0 E_good rfl (v := I x17) (.callP rfl rfl (go_code_Check_sc (gt a15 v13) _ he371) rfl) ?_
   refine Q0 E_good rfl (v := V.bool (x17 != 0)) (.fn rfl) ?_
   refine Qf E_good ?_
   refine ifG h (fun hc372 h => ?_) (fun hc372 h => ?_)
   ·skip
    refine sF hc372 ?_
    refine sF hc372 ?_
    refine sF hc372 ?_
    refine Q0 E_good rfl (v := V.bool true) (.pickK rfl hc372 rfl) ?_
    refine SafeOps.nil ?_
    repeat first|apply sq|apply sk|with_reducible first|apply tn|apply bn
    refine Safe.condK rfl rfl ?_
    repeat first|apply sq|apply sk|with_reducible first|apply tn|apply bn
    refine Safe.region ?_
    refine Qf E_good ?_
    refine SafeOps.nil ?_
    repeat first|apply sq|apply sk|with_reducible first|apply tn|apply bn
    refine Safe.ret ?_
    repeat (first | with_reducible refine thenQ.r ?_ | with_reducible refine blockQ.r ?_)
    replace h := inr_out h hr367
    obtain rfl := Option.some.inj h
    exact retQ.gen (vs := [I 1]) rfl (.tmp rfl .nil) (.free rfl) (by simp) (.inr rfl)
   ·skip
    refine qF E_good hc372 (.fn rfl) ?_
    refine qF E_good hc372 (.fn rfl) ?_
    refine SafeOps.inline E_good (congrArg (fun b => some (!b)) hc372) rfl rfl rfl rfl Tryd.func28 rfl (fun _ _ => Tryd.call28 _ _) rfl ?_
    repeat first|apply sq|apply sk|with_reducible first|apply tn|apply bn
    refine Safe.region ?_
    refine Qf E_good ?_
    refine SafeOps.nil ?_
    repeat first|apply sq|apply sk|with_reducible first|apply tn|apply bn
    refine Safe.region ?_
    refine Qf E_good ?_
    refine Qf E_good ?_
    refine SafeOps.joinT 1 (fun (v14 : Int) => go_code_CheckAll_j13 v13 v14 = some ohr367) (fun (v14 : Int) => ⟨Tryd.f28.ntmps, [(7, I v14)], [([1], Obj.box [V.sl 1 (rws (fun l => [V.sl 3 (rws api_Instr.cells l)]) a15)])], [(Tryd.f12.ntmps, [(3, V.fn 26 [V.ptr [1] 0 0]), (15, V.sl 1 (rws (fun l => [V.sl 3 (rws api_Instr.cells l)]) a15)), (16, I (a15.length : Int)), (17, I v13), (24, V.bool (x17 != 0)), (25, V.sl 3 (rws api_Instr.cells (gt a15 v13))), (26, V.fn 26 [V.ptr [1] 0 0])])], [27]⟩) ?_ (fun HJ470 => ?_)
    ·intro v14 h
     replace h : go_code_CheckAll_j13 v13 v14 = some ohr367 := h
     rw [go_code_CheckAll_j13] at h
     refine Q0 E_good rfl (v := V.bool (decide (v14 ≥ 0))) (.fn rfl) ?_
     refine Qf E_good ?_
     refine SafeOps.nil ?_
     repeat first|apply sq|apply sk|with_reducible first|apply tn|apply bn
     refine Safe.ret ?_
     repeat (first | with_reducible refine thenQ.r ?_ | with_reducible refine blockQ.r ?_)
     refine inQ.gen (vs := [V.bool (decide (v14 ≥ 0))]) (v := V.bool (decide (v14 ≥ 0))) (.inr rfl) rfl (.tmp (v := V.bool (decide (v14 ≥ 0))) rfl .nil) rfl ?_
     refine Q0 E_good rfl (v := V.bool (decide (v14 ≥ 0))) (.pickK rfl hc372 rfl) ?_
     refine SafeOps.nil ?_
     repeat first|apply sq|apply sk|with_reducible first|apply tn|apply bn
     refine ifG h (fun hc471 h => ?_) (fun hc471 h => ?_)
     ·skip
      refine Safe.condK rfl hc471 ?_
      repeat first|apply sq|apply sk|with_reducible first|apply tn|apply bn
      refine Safe.region ?_
      refine Qf E_good ?_
      refine SafeOps.nil ?_
      repeat first|apply sq|apply sk|with_reducible first|apply tn|apply bn
      refine Safe.ret ?_
      repeat (first | with_reducible refine thenQ.r ?_ | with_reducible refine blockQ.r ?_)
      replace h := inr_out h hr367
      obtain rfl := Option.some.inj h
      exact retQ.gen (vs := [I 1]) rfl (.tmp rfl .nil) (.free rfl) (by simp) (.inr rfl)
     ·skip
      refine Safe.condN rfl hc471 ?_
      repeat first|apply sq|apply sk|with_reducible first|apply tn|apply bn
      refine Safe.region ?_
      refine Q0 E_good rfl (v := I (IntKind.i64.wrap (v13 + 1))) (.fn rfl) ?_
      refine Qf E_good ?_
      refine SafeOps.nil ?_
      repeat first|apply sq|apply sk|with_reducible first|apply tn|apply bn
      exact ⟨_, next_out h, (.cov ⟨rfl, rfl, (ut (ut (ut (ut upT_nil)))), (uo upOb_nil), upOut_nil, rfl⟩)⟩
    ·skip
     refine SafeOps.inline E_good rfl rfl rfl rfl rfl Tryd.func36 rfl (fun _ _ => Tryd.call36 _ _) rfl ?_
     repeat first|apply sq|apply sk|with_reducible first|apply tn|apply bn
     refine Safe.region ?_
     refine Qf E_good ?_
     refine SafeOps.nil ?_
     repeat first|apply sq|apply sk|with_reducible first|apply tn|apply bn
     refine Safe.region ?_
     refine Qf E_good ?_
     refine Q0 E_good rfl (v := I ((gt a15 v13).length : Int)) (.fnE rfl lenE) ?_
     refine Qf E_good ?_
     refine SafeOps.nil ?_
     repeat first|apply sq|apply sk|with_reducible first|apply tn|apply bn
     refine Safe.block ?_
     repeat first|apply sq|apply sk|with_reducible first|apply tn|apply bn
     refine Safe.loopW (fun (v16 : Int) => ⟨Tryd.f36.ntmps, [(0, V.sl 3 (rws api_Instr.cells (gt a15 v13))), (1, V.fn 26 [V.ptr [1] 0 0]), (7, I ((gt a15 v13).length : Int)), (8, I v16)], [([1], Obj.box [V.sl 1 (rws (fun l => [V.sl 3 (rws api_Instr.cells l)]) a15)])], [(Tryd.f28.ntmps, []), (Tryd.f12.ntmps, [(3, V.fn 26 [V.ptr [1] 0 0]), (15, V.sl 1 (rws (fun l => [V.sl 3 (rws api_Instr.cells l)]) a15)), (16, I (a15.length : Int)), (17, I v13), (24, V.bool (x17 != 0)), (25, V.sl 3 (rws api_Instr.cells (gt a15 v13))), (26, V.fn 26 [V.ptr [1] 0 0])])], [27, 7]⟩) h (.cov ⟨rfl, rfl, (ut (ut (ut (ut upT_nil)))), (uo upOb_nil), (upOut_cons rfl upT_nil (upOut_cons rfl (ut (ut (ut (ut (ut (ut (ut upT_nil))))))) upOut_nil)), rfl⟩) ?_
     intro v16 ohr484 h hr484
     replace h : go_code_CheckAll_s14 a15 v13 v16 = some ohr484 := h
     rw [go_code_CheckAll_s14] at h
     repeat first|apply sq|apply sk|with_reducible first|apply tn|apply bn
     refine Safe.region ?_
     refine Q0 E_good rfl (v := V.bool (decide (v16 < ((gt a15 v13).length : Int)))) (.fn rfl) ?_
     refine SafeOps.nil ?_
     repeat first|apply sq|apply sk|with_reducible first|apply tn|apply bn
     refine ifG h (fun hc485 h => ?_) (fun hc485 h => ?_)
     ·skip
      refine Safe.condK rfl hc485 ?_
      repeat first|apply sq|apply sk|with_reducible first|apply tn|apply bn
      refine Safe.block ?_
      repeat first|apply sq|apply sk|with_reducible first|apply tn|apply bn
      refine Safe.region ?_
      refine Qf E_good ?_
      refine Qf E_good ?_
      refine SafeOps.nil ?_
      repeat first|apply sq|apply sk|with_reducible first|apply tn|apply bn
      refine Safe.region ?_
      refine Qf E_good ?_
      refine Qf E_good ?_
      refine Qf E_good ?_
      refine okG h (fun hb486 h => ?_)
      refine Q0 E_good rfl (v := V.spt 3 (rws api_Instr.cells (gt a15 v13)) (Int.toNat v16) 0) (.idxSlM (f := api_Instr.cells) rfl rfl rfl rfl rfl hb486) ?_
      refine Q0 E_good rfl (v := V.agg [I ((gt (gt a15 v13) v16).Op), I ((gt (gt a15 v13) v16).A), I ((gt (gt a15 v13) v16).B)]) (.load rfl rfl (.sptM (f := api_Instr.cells) hb486 rfl) rfl) ?_
      refine SafeOps.inline E_good rfl rfl rfl rfl rfl Tryd.func26 rfl (fun _ _ => Tryd.call26 _ _) rfl ?_
      repeat first|apply sq|apply sk|with_reducible first|apply tn|apply bn
      refine Safe.region ?_
      refine SafeOps.quiet1 E_good rfl rfl rfl (.box rfl rfl) rfl ?_
      refine Qf E_good ?_
      refine SafeOps.nil ?_
      repeat first|apply sq|apply sk|with_reducible first|apply tn|apply bn
      refine Safe.region ?_
      refine Q0 E_good rfl (v := V.ptr [27, 7, 16, 2] 0 0) (.fn rfl) ?_
      refine Q0 E_good rfl (v := I ((gt (gt a15 v13) v16).Op)) (.load rfl rfl (.box rfl rfl) rfl) ?_
      refine Q0 E_good rfl (v := V.bool (((gt (gt a15 v13) v16).Op) == 2)) (.fn rfl) ?_
      refine Qf E_good ?_
      refine SafeOps.bjoin 6 13 (b := ((((gt (gt a15 v13) v16).Op) == 2) && (decide (((gt (gt a15 v13) v16).A) ≥ (a15.length : Int))))) (b1 := decide (((gt (gt a15 v13) v16).A) ≥ (a15.length : Int))) (b0 := false) (fun hc488 K => ?_) (fun hc488 K => ?_) bj_and ?_
      ·skip
       refine qT E_good hc488 (v := V.ptr [27, 7, 16, 2] 0 1) (.fn rfl) ?_
       refine qT E_good hc488 (v := I ((gt (gt a15 v13) v16).A)) (.load rfl rfl (.box rfl rfl) rfl) ?_
       refine qT E_good hc488 (v := V.sl 1 (rws (fun l => [V.sl 3 (rws api_Instr.cells l)]) a15)) (.load rfl rfl (.box rfl rfl) rfl) ?_
       refine qT E_good hc488 (v := I (a15.length : Int)) (.fnE rfl lenE) ?_
       refine qT E_good hc488 (v := V.bool (decide (((gt (gt a15 v13) v16).A) ≥ (a15.length : Int)))) (.fn rfl) ?_
       refine Q0 E_good rfl (v := V.bool (decide (((gt (gt a15 v13) v16).A) ≥ (a15.length : Int)))) (.pickK rfl hc488 rfl) ?_
       exact SafeOps.drop' 6 rfl rfl rfl K
      ·skip
       refine sT hc488 ?_
       refine sT hc488 ?_
       refine sT hc488 ?_
       refine sT hc488 ?_
       refine sT hc488 ?_
       refine Q0 E_good rfl (v := V.bool false) (.pickK rfl hc488 rfl) ?_
       exact SafeOps.drop' 6 rfl rfl rfl K
      refine Qf E_good ?_
      refine SafeOps.nil ?_
      repeat first|apply sq|apply sk|with_reducible first|apply tn|apply bn
      refine Safe.ret ?_
      repeat (first | with_reducible refine thenQ.r ?_ | with_reducible refine blockQ.r ?_)
      refine inQ.gen (vs := [V.bool ((((gt (gt a15 v13) v16).Op) == 2) && (decide (((gt (gt a15 v13) v16).A) ≥ (a15.length : Int))))]) (v := V.bool ((((gt (gt a15 v13) v16).Op) == 2) && (decide (((gt (gt a15 v13) v16).A) ≥ (a15.length : Int))))) (.inr rfl) rfl (.tmp (v := V.bool ((((gt (gt a15 v13) v16).Op) == 2) && (decide (((gt (gt a15 v13) v16).A) ≥ (a15.length : Int))))) rfl .nil) rfl ?_
      refine SafeOps.nil ?_
      repeat first|apply sq|apply sk|with_reducible first|apply tn|apply bn
      refine ifG h (fun hc489 h => ?_) (fun hc489 h => ?_)
      ·skip
       refine Safe.condK rfl hc489 ?_
       repeat first|apply sq|apply sk|with_reducible first|apply tn|apply bn
       refine Safe.region ?_
       refine Qf E_good ?_
       refine Qf E_good ?_
       refine SafeOps.nil ?_
       repeat first|apply sq|apply sk|with_reducible first|apply tn|apply bn
       refine Safe.ret ?_
       repeat (first | with_reducible refine thenQ.r ?_ | with_reducible refine blockQ.r ?_)
       refine inQ.gen (vs := [I v16]) (v := I v16) (.inr rfl) rfl (.tmp (v := I v16) rfl .nil) rfl ?_
       replace h := inr_out h hr484
       exact SafeOps.got (HJ470 (v16) h) (.cov ⟨rfl, rfl, (ut upT_nil), (uo upOb_nil), (upOut_cons rfl (ut (ut (ut (ut (ut (ut (ut upT_nil))))))) upOut_nil), rfl⟩)
      ·skip
       refine Safe.condN rfl hc489 ?_
       repeat first|apply sq|apply sk|with_reducible first|apply tn|apply bn
       refine Safe.region ?_
       refine Q0 E_good rfl (v := I (IntKind.i64.wrap (v16 + 1))) (.fn rfl) ?_
       refine Qf E_good ?_
       refine SafeOps.nil ?_
       repeat first|apply sq|apply sk|with_reducible first|apply tn|apply bn
       exact ⟨_, next_out h, (.cov ⟨rfl, rfl, (ut (ut (ut (ut upT_nil)))), (uo upOb_nil), (upOut_cons rfl upT_nil (upOut_cons rfl (ut (ut (ut (ut (ut (ut (ut upT_nil))))))) upOut_nil)), rfl⟩)⟩
     ·skip
      refine Safe.condN rfl hc485 ?_
      repeat first|apply sq|apply sk|with_reducible first|apply tn|apply bn
      refine Safe.exit ?_
      repeat (first | with_reducible refine thenQ.e ?_ | with_reducible refine blockQ.x rfl ?_ | with_reducible refine blockQ.y rfl ?_)
      replace h := inr_out h hr484
      repeat first|apply sq|apply sk|with_reducible first|apply tn|apply bn
      refine Safe.region ?_
      refine Qf E_good ?_
      refine SafeOps.nil ?_
      repeat first|apply sq|apply sk|with_reducible first|apply tn|apply bn
      refine Safe.ret ?_
      repeat (first | with_reducible refine thenQ.r ?_ | with_reducible refine blockQ.r ?_)
      refine inQ.gen (vs := [I (-1)]) (v := I (-1)) (.inr rfl) rfl (.tmp (v := I (-1)) rfl .nil) rfl ?_
      exact SafeOps.got (HJ470 (-1) h) (.cov ⟨rfl, rfl, (ut upT_nil), (uo upOb_nil), (upOut_cons rfl (ut (ut (ut (ut (ut (ut (ut upT_nil))))))) upOut_nil), rfl⟩)
  ·skip
   refine Safe.condN rfl hc368 ?_
   repeat first|apply sq|apply sk|with_reducible first|apply tn|apply bn
   refine Safe.exit ?_
   repeat (first | with_reducible refine thenQ.e ?_ | with_reducible refine blockQ.x rfl ?_ | with_reducible refine blockQ.y rfl ?_)
   replace h := inr_out h hr367
   repeat first|apply sq|apply sk|with_reducible first|apply tn|apply bn
   refine Safe.region ?_
   refine Qf E_good ?_
   refine SafeOps.nil ?_
   repeat first|apply sq|apply sk|with_reducible first|apply tn|apply bn
   refine Safe.ret ?_
   repeat (first | with_reducible refine thenQ.r ?_ | with_reducible refine blockQ.r ?_)
   obtain rfl := Option.some.inj h
   exact retQ.gen (vs := [I 0]) rfl (.tmp rfl .nil) (.free rfl) (by simp) (.inr rfl)

@[ext] structure A4_Int where
 a0 : Int
 a1 : Int
 a2 : Int
 a3 : Int
 deriving Inhabited
def A4_Int.cells (x : A4_Int) : List V := [I x.a0, I x.a1, I x.a2, I x.a3]
def A4_Int.zero : A4_Int := ⟨0, 0, 0, 0⟩
def A4_Int.beq (x y : A4_Int) : Bool := ((x.a0 == y.a0) && ((x.a1 == y.a1) && ((x.a2 == y.a2) && ((x.a3 == y.a3) && true))))

@[ext] structure api_Task where
 Id : Int
 Tenant : Int
 Prog : Int
 Pc : Int
 Unit : Int
 Keeps : A4_Int
 State : Int
 Ran : Int
 deriving Inhabited
def api_Task.cells (x : api_Task) : List V := [I x.Id, I x.Tenant, I x.Prog, I x.Pc, I x.Unit, I x.Keeps.a0, I x.Keeps.a1, I x.Keeps.a2, I x.Keeps.a3, I x.State, I x.Ran]
def api_Task.zero : api_Task := ⟨0, 0, 0, 0, 0, ⟨0, 0, 0, 0⟩, 0, 0⟩
def api_Task.beq (x y : api_Task) : Bool := ((x.Id == y.Id) && ((x.Tenant == y.Tenant) && ((x.Prog == y.Prog) && ((x.Pc == y.Pc) && ((x.Unit == y.Unit) && (((x.Keeps.a0 == y.Keeps.a0) && ((x.Keeps.a1 == y.Keeps.a1) && ((x.Keeps.a2 == y.Keeps.a2) && ((x.Keeps.a3 == y.Keeps.a3) && true)))) && ((x.State == y.State) && ((x.Ran == y.Ran) && true))))))))

@[ext] structure trace_seen where
 Task : api_Task
 last : api_Event
 deriving Inhabited
def trace_seen.cells (x : trace_seen) : List V := [I x.Task.Id, I x.Task.Tenant, I x.Task.Prog, I x.Task.Pc, I x.Task.Unit, I x.Task.Keeps.a0, I x.Task.Keeps.a1, I x.Task.Keeps.a2, I x.Task.Keeps.a3, I x.Task.State, I x.Task.Ran, I x.last.Kind, I x.last.Id, I x.last.A]
def trace_seen.zero : trace_seen := ⟨⟨0, 0, 0, 0, 0, ⟨0, 0, 0, 0⟩, 0, 0⟩, ⟨0, 0, 0⟩⟩
def trace_seen.beq (x y : trace_seen) : Bool := (((x.Task.Id == y.Task.Id) && ((x.Task.Tenant == y.Task.Tenant) && ((x.Task.Prog == y.Task.Prog) && ((x.Task.Pc == y.Task.Pc) && ((x.Task.Unit == y.Task.Unit) && (((x.Task.Keeps.a0 == y.Task.Keeps.a0) && ((x.Task.Keeps.a1 == y.Task.Keeps.a1) && ((x.Task.Keeps.a2 == y.Task.Keeps.a2) && ((x.Task.Keeps.a3 == y.Task.Keeps.a3) && true)))) && ((x.Task.State == y.Task.State) && ((x.Task.Ran == y.Task.Ran) && true)))))))) && (((x.last.Kind == y.last.Kind) && ((x.last.Id == y.last.Id) && ((x.last.A == y.last.A) && true))) && true))

def go_life_below (a18 : Int) (a19 : Int) : Bool :=
 ((decide (a18 ≥ 0)) && (decide (a18 < a19)))

theorem go_life_below_sc (a18 : Int) (a19 : Int) (r : Bool) (h : go_life_below a18 a19 = r) : SC Tryd.prog gl 59 [I a18, I a19] (V.bool r) := by
 rw [go_life_below] at h
 refine SC.of E_good Tryd.func59 rfl (fun _ _ => Tryd.call59 _ _) rfl ?_
 repeat first|apply sq|apply sk|with_reducible first|apply tn|apply bn
 refine Safe.region ?_
 refine Qf E_good ?_
 refine SafeOps.nil ?_
 repeat first|apply sq|apply sk|with_reducible first|apply tn|apply bn
 refine Safe.region ?_
 refine Qf E_good ?_
 refine Q0 E_good rfl (v := V.bool (decide (a18 ≥ 0))) (.fn rfl) ?_
 refine Qf E_good ?_
 refine SafeOps.bjoin 4 11 (b := ((decide (a18 ≥ 0)) && (decide (a18 < a19)))) (b1 := decide (a18 < a19)) (b0 := false) (fun hc506 K => ?_) (fun hc506 K => ?_) bj_and ?_
 ·skip
  refine qT E_good hc506 (.fn rfl) ?_
  refine qT E_good hc506 (.fn rfl) ?_
  refine qT E_good hc506 (v := V.bool (decide (a18 < a19))) (.fn rfl) ?_
  refine Q0 E_good rfl (v := V.bool (decide (a18 < a19))) (.pickK rfl hc506 rfl) ?_
  exact SafeOps.drop' 4 rfl rfl rfl K
 ·skip
  refine sT hc506 ?_
  refine sT hc506 ?_
  refine sT hc506 ?_
  refine Q0 E_good rfl (v := V.bool false) (.pickK rfl hc506 rfl) ?_
  exact SafeOps.drop' 4 rfl rfl rfl K
 refine Qf E_good ?_
 refine SafeOps.nil ?_
 repeat first|apply sq|apply sk|with_reducible first|apply tn|apply bn
 refine Safe.ret ?_
 repeat (first | with_reducible refine thenQ.r ?_ | with_reducible refine blockQ.r ?_)
 obtain rfl := h
 exact retQ.gen (vs := [V.bool ((decide (a18 ≥ 0)) && (decide (a18 < a19)))]) rfl (.tmp rfl .nil) (.free rfl) (by simp) (.inr rfl)

def go_life_state (a20 : Int) : Bool :=
 ((decide (a20 ≥ 1)) && (decide (a20 ≤ 7)))

theorem go_life_state_sc (a20 : Int) (r : Bool) (h : go_life_state a20 = r) : SC Tryd.prog gl 57 [I a20] (V.bool r) := by
 rw [go_life_state] at h
 refine SC.of E_good Tryd.func57 rfl (fun _ _ => Tryd.call57 _ _) rfl ?_
 repeat first|apply sq|apply sk|with_reducible first|apply tn|apply bn
 refine Safe.region ?_
 refine Qf E_good ?_
 refine SafeOps.nil ?_
 repeat first|apply sq|apply sk|with_reducible first|apply tn|apply bn
 refine Safe.region ?_
 refine Qf E_good ?_
 refine Q0 E_good rfl (v := V.bool (decide (a20 ≥ 1))) (.fn rfl) ?_
 refine Qf E_good ?_
 refine SafeOps.bjoin 3 8 (b := ((decide (a20 ≥ 1)) && (decide (a20 ≤ 7)))) (b1 := decide (a20 ≤ 7)) (b0 := false) (fun hc513 K => ?_) (fun hc513 K => ?_) bj_and ?_
 ·skip
  refine qT E_good hc513 (.fn rfl) ?_
  refine qT E_good hc513 (v := V.bool (decide (a20 ≤ 7))) (.fn rfl) ?_
  refine Q0 E_good rfl (v := V.bool (decide (a20 ≤ 7))) (.pickK rfl hc513 rfl) ?_
  exact SafeOps.drop' 3 rfl rfl rfl K
 ·skip
  refine sT hc513 ?_
  refine sT hc513 ?_
  refine Q0 E_good rfl (v := V.bool false) (.pickK rfl hc513 rfl) ?_
  exact SafeOps.drop' 3 rfl rfl rfl K
 refine Qf E_good ?_
 refine SafeOps.nil ?_
 repeat first|apply sq|apply sk|with_reducible first|apply tn|apply bn
 refine Safe.ret ?_
 repeat (first | with_reducible refine thenQ.r ?_ | with_reducible refine blockQ.r ?_)
 obtain rfl := h
 exact retQ.gen (vs := [V.bool ((decide (a20 ≥ 1)) && (decide (a20 ≤ 7)))]) rfl (.tmp rfl .nil) (.free rfl) (by simp) (.inr rfl)

noncomputable def go_slices_Min_int64_int64_s1 (a21 : List Int) : (Int × Int) → Option ((Int × Int) ⊕ (Int))
 | (v22, v23) =>
  if (decide (v23 < (a21.length : Int))) = true then
   if 0 ≤ v23 ∧ v23 < (a21.length : Int) then
    nextO ((if (gt a21 v23) < v22 then (gt a21 v23) else v22), IntKind.i64.wrap (v23 + 1))
   else none
  else
   inrO (
    some v22)

noncomputable def go_slices_Min_int64_int64 (a21 : List Int) : Option Int :=
 if (decide ((a21.length : Int) < 1)) = true then
  none
 else
  if 0 ≤ (0 : Int) ∧ (0 : Int) < (a21.length : Int) then
   whileO (go_slices_Min_int64_int64_s1 a21) ((gt a21 0), 1)
  else none

theorem go_slices_Min_int64_int64_sc (a21 : List Int) (r : Int) (h : go_slices_Min_int64_int64 a21 = some r) : SC Tryd.prog gl 60 [V.sl 1 (rws (fun n => [I n]) a21)] (I r) := by
 rw [go_slices_Min_int64_int64] at h
 refine SC.of E_good Tryd.func60 rfl (fun _ _ => Tryd.call60 _ _) rfl ?_
 repeat first|apply sq|apply sk|with_reducible first|apply tn|apply bn
 refine Safe.region ?_
 refine Qf E_good ?_
 refine SafeOps.nil ?_
 repeat first|apply sq|apply sk|with_reducible first|apply tn|apply bn
 refine Safe.region ?_
 refine Qf E_good ?_
 refine Q0 E_good rfl (v := I (a21.length : Int)) (.fnE rfl lenE) ?_
 refine Q0 E_good rfl (v := V.bool (decide ((a21.length : Int) < 1))) (.fn rfl) ?_
 refine SafeOps.nil ?_
 repeat first|apply sq|apply sk|with_reducible first|apply tn|apply bn
 refine ifG h (fun hc531 h => ?_) (fun hc531 h => ?_)
 ·skip
  refine Safe.condK rfl hc531 ?_
  repeat first|apply sq|apply sk|with_reducible first|apply tn|apply bn
  refine Safe.region ?_
  cases h
 ·skip
  refine Safe.condN rfl hc531 ?_
  repeat first|apply sq|apply sk|with_reducible first|apply tn|apply bn
  refine Safe.region ?_
  refine Qf E_good ?_
  refine okG h (fun hb532 h => ?_)
  refine Q0 E_good rfl (v := V.spt 1 (rws (fun n => [I n]) a21) (Int.toNat 0) 0) (.idxSlM (f := (fun n => [I n])) rfl rfl rfl rfl rfl hb532) ?_
  refine Q0 E_good rfl (v := I (gt a21 0)) (.load rfl rfl (.sptM (f := (fun n => [I n])) hb532 rfl) rfl) ?_
  refine Qf E_good ?_
  refine SafeOps.nil ?_
  repeat first|apply sq|apply sk|with_reducible first|apply tn|apply bn
  refine Safe.region ?_
  refine Qf E_good ?_
  refine SafeOps.nil ?_
  repeat first|apply sq|apply sk|with_reducible first|apply tn|apply bn
  refine Safe.block ?_
  repeat first|apply sq|apply sk|with_reducible first|apply tn|apply bn
  refine Safe.loopW (fun ((v22, v23) : Int × Int) => ⟨Tryd.f60.ntmps, [(0, V.sl 1 (rws (fun n => [I n]) a21)), (3, I v22), (4, I v23)], [], [], []⟩) h (.cov ⟨rfl, rfl, (ut (ut (ut upT_nil))), upOb_nil, upOut_nil, rfl⟩) ?_
  rintro ⟨v22, v23⟩ ohr541 h hr541
  replace h : go_slices_Min_int64_int64_s1 a21 (v22, v23) = some ohr541 := h
  rw [go_slices_Min_int64_int64_s1] at h
  repeat first|apply sq|apply sk|with_reducible first|apply tn|apply bn
  refine Safe.region ?_
  refine Qf E_good ?_
  refine Qf E_good ?_
  refine Q0 E_good rfl (v := I (a21.length : Int)) (.fnE rfl lenE) ?_
  refine Q0 E_good rfl (v := V.bool (decide (v23 < (a21.length : Int)))) (.fn rfl) ?_
  refine SafeOps.nil ?_
  repeat first|apply sq|apply sk|with_reducible first|apply tn|apply bn
  refine ifG h (fun hc542 h => ?_) (fun hc542 h => ?_)
  ·skip
   refine Safe.condK rfl hc542 ?_
   repeat first|apply sq|apply sk|with_reducible first|apply tn|apply bn
   refine Safe.block ?_
   repeat first|apply sq|apply sk|with_reducible first|apply tn|apply bn
   refine Safe.region ?_
   refine Qf E_good ?_
   refine Qf E_good ?_
   refine Qf E_good ?_
   refine okG h (fun hb543 h => ?_)
   refine Q0 E_good rfl (v := V.spt 1 (rws (fun n => [I n]) a21) (Int.toNat v23) 0) (.idxSlM (f := (fun n => [I n])) rfl rfl rfl rfl rfl hb543) ?_
   refine Q0 E_good rfl (v := I (gt a21 v23)) (.load rfl rfl (.sptM (f := (fun n => [I n])) hb543 rfl) rfl) ?_
   refine Q0 E_good rfl (v := I (if (gt a21 v23) < v22 then (gt a21 v23) else v22)) (.fn rfl) ?_
   refine Qf E_good ?_
   refine SafeOps.nil ?_
   repeat first|apply sq|apply sk|with_reducible first|apply tn|apply bn
   refine Safe.region ?_
   refine Qf E_good ?_
   refine Q0 E_good rfl (v := I (IntKind.i64.wrap (v23 + 1))) (.fn rfl) ?_
   refine Qf E_good ?_
   refine SafeOps.nil ?_
   repeat first|apply sq|apply sk|with_reducible first|apply tn|apply bn
   exact ⟨_, next_out h, (.cov ⟨rfl, rfl, (ut (ut (ut upT_nil))), upOb_nil, upOut_nil, rfl⟩)⟩
  ·skip
   refine Safe.condN rfl hc542 ?_
   repeat first|apply sq|apply sk|with_reducible first|apply tn|apply bn
   refine Safe.exit ?_
   repeat (first | with_reducible refine thenQ.e ?_ | with_reducible refine blockQ.x rfl ?_ | with_reducible refine blockQ.y rfl ?_)
   replace h := inr_out h hr541
   repeat first|apply sq|apply sk|with_reducible first|apply tn|apply bn
   refine Safe.region ?_
   refine Qf E_good ?_
   refine Qf E_good ?_
   refine SafeOps.nil ?_
   repeat first|apply sq|apply sk|with_reducible first|apply tn|apply bn
   refine Safe.ret ?_
   repeat (first | with_reducible refine thenQ.r ?_ | with_reducible refine blockQ.r ?_)
   obtain rfl := Option.some.inj h
   exact retQ.gen (vs := [I v22]) rfl (.tmp rfl .nil) (.free rfl) (by simp) (.inr rfl)

noncomputable def go_life_Check (a24 : api_Task) : Option Int :=
 if (!((((((((decide (a24.Id ≥ 0)) && (go_life_below a24.Tenant 16)) && (go_life_below a24.Prog 16)) && (go_life_below a24.Pc 33)) && (go_life_below a24.Unit 100)) && (go_life_state a24.State)) && (decide (a24.Ran ≥ 0))) && (decide (a24.Ran ≤ 1099511627776)))) = true then
  some 1
 else
  (go_slices_Min_int64_int64 [a24.Keeps.a0, a24.Keeps.a1, a24.Keeps.a2, a24.Keeps.a3]).bind fun x25 =>
  if (decide (x25 < (-1))) = true then
   some 1
  else
   some 0

theorem go_life_Check_sc (a24 : api_Task) (r : Int) (h : go_life_Check a24 = some r) : SC Tryd.prog gl 56 [V.agg [I a24.Id, I a24.Tenant, I a24.Prog, I a24.Pc, I a24.Unit, I a24.Keeps.a0, I a24.Keeps.a1, I a24.Keeps.a2, I a24.Keeps.a3, I a24.State, I a24.Ran]] (I r) := by
 rw [go_life_Check] at h
 refine SC.of E_good Tryd.func56 rfl (fun _ _ => Tryd.call56 _ _) rfl ?_
 repeat first|apply sq|apply sk|with_reducible first|apply tn|apply bn
 refine Safe.region ?_
 refine SafeOps.quiet1 E_good rfl rfl rfl (.box rfl rfl) rfl ?_
 refine Qf E_good ?_
 refine SafeOps.nil ?_
 repeat first|apply sq|apply sk|with_reducible first|apply tn|apply bn
 refine Safe.region ?_
 refine Q0 E_good rfl (v := V.ptr [1] 0 0) (.fn rfl) ?_
 refine Q0 E_good rfl (v := I a24.Id) (.load rfl rfl (.box rfl rfl) rfl) ?_
 refine Q0 E_good rfl (v := V.bool (decide (a24.Id ≥ 0))) (.fn rfl) ?_
 refine Qf E_good ?_
 refine SafeOps.bjoin 4 11 (b := ((decide (a24.Id ≥ 0)) && (go_life_below a24.Tenant 16))) (b1 := go_life_below a24.Tenant 16) (b0 := false) (fun hc1058 K => ?_) (fun hc1058 K => ?_) bj_and ?_
 ·skip
  refine qT E_good hc1058 (v := V.ptr [1] 0 1) (.fn rfl) ?_
  refine qT E_good hc1058 (v := I a24.Tenant) (.load rfl rfl (.box rfl rfl) rfl) ?_
  refine qT E_good hc1058 (v := V.bool (go_life_below a24.Tenant 16)) (.callP rfl rfl (go_life_below_sc a24.Tenant 16 _ rfl) rfl) ?_
  refine Q0 E_good rfl (v := V.bool (go_life_below a24.Tenant 16)) (.pickK rfl hc1058 rfl) ?_
  exact SafeOps.drop' 4 rfl rfl rfl K
 ·skip
  refine sT hc1058 ?_
  refine sT hc1058 ?_
  refine sT hc1058 ?_
  refine Q0 E_good rfl (v := V.bool false) (.pickK rfl hc1058 rfl) ?_
  exact SafeOps.drop' 4 rfl rfl rfl K
 refine Qf E_good ?_
 refine SafeOps.bjoin 4 16 (b := (((decide (a24.Id ≥ 0)) && (go_life_below a24.Tenant 16)) && (go_life_below a24.Prog 16))) (b1 := go_life_below a24.Prog 16) (b0 := false) (fun hc1059 K => ?_) (fun hc1059 K => ?_) bj_and ?_
 ·skip
  refine qT E_good hc1059 (v := V.ptr [1] 0 2) (.fn rfl) ?_
  refine qT E_good hc1059 (v := I a24.Prog) (.load rfl rfl (.box rfl rfl) rfl) ?_
  refine qT E_good hc1059 (v := V.bool (go_life_below a24.Prog 16)) (.callP rfl rfl (go_life_below_sc a24.Prog 16 _ rfl) rfl) ?_
  refine Q0 E_good rfl (v := V.bool (go_life_below a24.Prog 16)) (.pickK rfl hc1059 rfl) ?_
  exact SafeOps.drop' 4 rfl rfl rfl K
 ·skip
  refine sT hc1059 ?_
  refine sT hc1059 ?_
  refine sT hc1059 ?_
  refine Q0 E_good rfl (v := V.bool false) (.pickK rfl hc1059 rfl) ?_
  exact SafeOps.drop' 4 rfl rfl rfl K
 refine Qf E_good ?_
 refine SafeOps.bjoin 4 21 (b := ((((decide (a24.Id ≥ 0)) && (go_life_below a24.Tenant 16)) && (go_life_below a24.Prog 16)) && (go_life_below a24.Pc 33))) (b1 := go_life_below a24.Pc 33) (b0 := false) (fun hc1060 K => ?_) (fun hc1060 K => ?_) bj_and ?_
 ·skip
  refine qT E_good hc1060 (v := V.ptr [1] 0 3) (.fn rfl) ?_
  refine qT E_good hc1060 (v := I a24.Pc) (.load rfl rfl (.box rfl rfl) rfl) ?_
  refine qT E_good hc1060 (v := V.bool (go_life_below a24.Pc 33)) (.callP rfl rfl (go_life_below_sc a24.Pc 33 _ rfl) rfl) ?_
  refine Q0 E_good rfl (v := V.bool (go_life_below a24.Pc 33)) (.pickK rfl hc1060 rfl) ?_
  exact SafeOps.drop' 4 rfl rfl rfl K
 ·skip
  refine sT hc1060 ?_
  refine sT hc1060 ?_
  refine sT hc1060 ?_
  refine Q0 E_good rfl (v := V.bool false) (.pickK rfl hc1060 rfl) ?_
  exact SafeOps.drop' 4 rfl rfl rfl K
 refine Qf E_good ?_
 refine SafeOps.bjoin 4 26 (b := (((((decide (a24.Id ≥ 0)) && (go_life_below a24.Tenant 16)) && (go_life_below a24.Prog 16)) && (go_life_below a24.Pc 33)) && (go_life_below a24.Unit 100))) (b1 := go_life_below a24.Unit 100) (b0 := false) (fun hc1061 K => ?_) (fun hc1061 K => ?_) bj_and ?_
 ·skip
  refine qT E_good hc1061 (v := V.ptr [1] 0 4) (.fn rfl) ?_
  refine qT E_good hc1061 (v := I a24.Unit) (.load rfl rfl (.box rfl rfl) rfl) ?_
  refine qT E_good hc1061 (v := V.bool (go_life_below a24.Unit 100)) (.callP rfl rfl (go_life_below_sc a24.Unit 100 _ rfl) rfl) ?_
  refine Q0 E_good rfl (v := V.bool (go_life_below a24.Unit 100)) (.pickK rfl hc1061 rfl) ?_
  exact SafeOps.drop' 4 rfl rfl rfl K
 ·skip
  refine sT hc1061 ?_
  refine sT hc1061 ?_
  refine sT hc1061 ?_
  refine Q0 E_good rfl (v := V.bool false) (.pickK rfl hc1061 rfl) ?_
  exact SafeOps.drop' 4 rfl rfl rfl K
 refine Qf E_good ?_
 refine SafeOps.bjoin 4 31 (b := ((((((decide (a24.Id ≥ 0)) && (go_life_below a24.Tenant 16)) && (go_life_below a24.Prog 16)) && (go_life_below a24.Pc 33)) && (go_life_below a24.Unit 100)) && (go_life_state a24.State))) (b1 := go_life_state a24.State) (b0 := false) (fun hc1062 K => ?_) (fun hc1062 K => ?_) bj_and ?_
 ·skip
  refine qT E_good hc1062 (v := V.ptr [1] 0 9) (.fn rfl) ?_
  refine qT E_good hc1062 (v := I a24.State) (.load rfl rfl (.box rfl rfl) rfl) ?_
  refine qT E_good hc1062 (v := V.bool (go_life_state a24.State)) (.callP rfl rfl (go_life_state_sc a24.State _ rfl) rfl) ?_
  refine Q0 E_good rfl (v := V.bool (go_life_state a24.State)) (.pickK rfl hc1062 rfl) ?_
  exact SafeOps.drop' 4 rfl rfl rfl K
 ·skip
  refine sT hc1062 ?_
  refine sT hc1062 ?_
  refine sT hc1062 ?_
  refine Q0 E_good rfl (v := V.bool false) (.pickK rfl hc1062 rfl) ?_
  exact SafeOps.drop' 4 rfl rfl rfl K
 refine Qf E_good ?_
 refine SafeOps.bjoin 4 36 (b := (((((((decide (a24.Id ≥ 0)) && (go_life_below a24.Tenant 16)) && (go_life_below a24.Prog 16)) && (go_life_below a24.Pc 33)) && (go_life_below a24.Unit 100)) && (go_life_state a24.State)) && (decide (a24.Ran ≥ 0)))) (b1 := decide (a24.Ran ≥ 0)) (b0 := false) (fun hc1063 K => ?_) (fun hc1063 K => ?_) bj_and ?_
 ·skip
  refine qT E_good hc1063 (v := V.ptr [1] 0 10) (.fn rfl) ?_
  refine qT E_good hc1063 (v := I a24.Ran) (.load rfl rfl (.box rfl rfl) rfl) ?_
  refine qT E_good hc1063 (v := V.bool (decide (a24.Ran ≥ 0))) (.fn rfl) ?_
  refine Q0 E_good rfl (v := V.bool (decide (a24.Ran ≥ 0))) (.pickK rfl hc1063 rfl) ?_
  exact SafeOps.drop' 4 rfl rfl rfl K
 ·skip
  refine sT hc1063 ?_
  refine sT hc1063 ?_
  refine sT hc1063 ?_
  refine Q0 E_good rfl (v := V.bool false) (.pickK rfl hc1063 rfl) ?_
  exact SafeOps.drop' 4 rfl rfl rfl K
 refine Qf E_good ?_
 refine SafeOps.bjoin 4 41 (b := ((((((((decide (a24.Id ≥ 0)) && (go_life_below a24.Tenant 16)) && (go_life_below a24.Prog 16)) && (go_life_below a24.Pc 33)) && (go_life_below a24.Unit 100)) && (go_life_state a24.State)) && (decide (a24.Ran ≥ 0))) && (decide (a24.Ran ≤ 1099511627776)))) (b1 := decide (a24.Ran ≤ 1099511627776)) (b0 := false) (fun hc1064 K => ?_) (fun hc1064 K => ?_) bj_and ?_
 ·skip
  refine qT E_good hc1064 (v := V.ptr [1] 0 10) (.fn rfl) ?_
  refine qT E_good hc1064 (v := I a24.Ran) (.load rfl rfl (.box rfl rfl) rfl) ?_
  refine qT E_good hc1064 (v := V.bool (decide (a24.Ran ≤ 1099511627776))) (.fn rfl) ?_
  refine Q0 E_good rfl (v := V.bool (decide (a24.Ran ≤ 1099511627776))) (.pickK rfl hc1064 rfl) ?_
  exact SafeOps.drop' 4 rfl rfl rfl K
 ·skip
  refine sT hc1064 ?_
  refine sT hc1064 ?_
  refine sT hc1064 ?_
  refine Q0 E_good rfl (v := V.bool false) (.pickK rfl hc1064 rfl) ?_
  exact SafeOps.drop' 4 rfl rfl rfl K
 refine Qf E_good ?_
 refine SafeOps.nil ?_
 repeat first|apply sq|apply sk|with_reducible first|apply tn|apply bn
 refine Safe.region ?_
 refine Qf E_good ?_
 refine Q0 E_good rfl (v := V.bool (!((((((((decide (a24.Id ≥ 0)) && (go_life_below a24.Tenant 16)) && (go_life_below a24.Prog 16)) && (go_life_below a24.Pc 33)) && (go_life_below a24.Unit 100)) && (go_life_state a24.State)) && (decide (a24.Ran ≥ 0))) && (decide (a24.Ran ≤ 1099511627776))))) (.fn rfl) ?_
 refine Qf E_good ?_
 refine ifG h (fun hc1065 h => ?_) (fun hc1065 h => ?_)
 ·skip
  refine sF hc1065 ?_
  refine sF hc1065 ?_
  refine sF hc1065 ?_
  refine sF hc1065 ?_
  refine Q0 E_good rfl (v := V.bool true) (.pickK rfl hc1065 rfl) ?_
  refine SafeOps.nil ?_
  repeat first|apply sq|apply sk|with_reducible first|apply tn|apply bn
  refine Safe.condK rfl rfl ?_
  repeat first|apply sq|apply sk|with_reducible first|apply tn|apply bn
  refine Safe.region ?_
  refine Qf E_good ?_
  refine SafeOps.nil ?_
  repeat first|apply sq|apply sk|with_reducible first|apply tn|apply bn
  refine Safe.ret ?_
  repeat (first | with_reducible refine thenQ.r ?_ | with_reducible refine blockQ.r ?_)
  obtain rfl := Option.some.inj h
  exact retQ.gen (vs := [I 1]) rfl (.tmp rfl .nil) (.free rfl) (by simp) (.inr rfl)
 ·skip
  refine qF E_good hc1065 (v := V.ptr [1] 0 5) (.fn rfl) ?_
  refine qF E_good hc1065 (v := V.bref [1] 5 1 4) (.slArrM rfl rfl rfl rfl rfl rfl rfl) ?_
  refine bindG h ?_
  intro x25 he1069 h
  refine qF E_good hc1065 (v := I x25) (.callS rfl (.cons (.bref rfl rfl rfl) .nil) (go_slices_Min_int64_int64_sc [a24.Keeps.a0, a24.Keeps.a1, a24.Keeps.a2, a24.Keeps.a3] _ he1069) (.plain rfl) rfl) ?_
  refine qF E_good hc1065 (v := V.bool (decide (x25 < (-1)))) (.fn rfl) ?_
  refine Q0 E_good rfl (v := V.bool (decide (x25 < (-1)))) (.pickK rfl hc1065 rfl) ?_
  refine SafeOps.nil ?_
  repeat first|apply sq|apply sk|with_reducible first|apply tn|apply bn
  refine ifG h (fun hc1070 h => ?_) (fun hc1070 h => ?_)
  ·skip
   refine Safe.condK rfl hc1070 ?_
   repeat first|apply sq|apply sk|with_reducible first|apply tn|apply bn
   refine Safe.region ?_
   refine Qf E_good ?_
   refine SafeOps.nil ?_
   repeat first|apply sq|apply sk|with_reducible first|apply tn|apply bn
   refine Safe.ret ?_
   repeat (first | with_reducible refine thenQ.r ?_ | with_reducible refine blockQ.r ?_)
   obtain rfl := Option.some.inj h
   exact retQ.gen (vs := [I 1]) rfl (.tmp rfl .nil) (.free rfl) (by simp) (.inr rfl)
  ·skip
   refine Safe.condN rfl hc1070 ?_
   repeat first|apply sq|apply sk|with_reducible first|apply tn|apply bn
   refine Safe.region ?_
   refine Qf E_good ?_
   refine SafeOps.nil ?_
   repeat first|apply sq|apply sk|with_reducible first|apply tn|apply bn
   refine Safe.ret ?_
   repeat (first | with_reducible refine thenQ.r ?_ | with_reducible refine blockQ.r ?_)
   obtain rfl := Option.some.inj h
   exact retQ.gen (vs := [I 0]) rfl (.tmp rfl .nil) (.free rfl) (by simp) (.inr rfl)

noncomputable def go_life_New (a26 : Int) (a27 : Int) (a28 : Int) : Option (api_Task × Int) :=
 (go_life_Check (api_Task.mk a26 a27 a28 0 0 (A4_Int.mk (-1) (-1) (-1) (-1)) 1 0)).bind fun x29 =>
 if (x29 != 0) = true then
  some (api_Task.zero, x29)
 else
  some ((api_Task.mk a26 a27 a28 0 0 (A4_Int.mk (-1) (-1) (-1) (-1)) 1 0), 0)

theorem go_life_New_sc (a26 : Int) (a27 : Int) (a28 : Int) (r : api_Task × Int) (h : go_life_New a26 a27 a28 = some r) : SC Tryd.prog gl 50 [I a26, I a27, I a28] (V.tup [V.agg [I r.1.Id, I r.1.Tenant, I r.1.Prog, I r.1.Pc, I r.1.Unit, I r.1.Keeps.a0, I r.1.Keeps.a1, I r.1.Keeps.a2, I r.1.Keeps.a3, I r.1.State, I r.1.Ran], I r.2]) := by
 rw [go_life_New] at h
 refine SC.of E_good Tryd.func50 rfl (fun _ _ => Tryd.call50 _ _) rfl ?_
 repeat first|apply sq|apply sk|with_reducible first|apply tn|apply bn
 refine Safe.region ?_
 refine SafeOps.quiet1 E_good rfl rfl rfl (.alloc rfl rfl) rfl ?_
 refine Qf E_good ?_
 refine SafeOps.nil ?_
 repeat first|apply sq|apply sk|with_reducible first|apply tn|apply bn
 refine Safe.region ?_
 refine Qf E_good ?_
 refine Qf E_good ?_
 refine Qf E_good ?_
 refine Q0 E_good rfl (v := V.agg [I (-1), I (-1), I (-1), I (-1)]) (.fn rfl) ?_
 refine Q0 E_good rfl (v := V.agg [I a26, I a27, I a28, I 0, I 0, I (-1), I (-1), I (-1), I (-1), I 1, I 0]) (.fn rfl) ?_
 refine SafeOps.quiet1 E_good rfl rfl rfl (.alloc rfl rfl) rfl ?_
 refine SafeOps.store (z := Obj.box [I a26, I a27, I a28, I 0, I 0, I (-1), I (-1), I (-1), I (-1), I 1, I 0]) E_good rfl rfl rfl rfl rfl rfl rfl (.boxM (c := 11) rfl rfl (Nat.le_of_ble_eq_true rfl) rfl) ?_
 refine SafeOps.nil ?_
 repeat first|apply sq|apply sk|with_reducible first|apply tn|apply bn
 refine Safe.region ?_
 refine Q0 E_good rfl (v := V.agg [I a26, I a27, I a28, I 0, I 0, I (-1), I (-1), I (-1), I (-1), I 1, I 0]) (.load rfl rfl (.box rfl rfl) rfl) ?_
 refine bindG h ?_
 intro x29 he1075 h
 refine Q0 E_good rfl (v := I x29) (.callP rfl rfl (go_life_Check_sc (api_Task.mk a26 a27 a28 0 0 (A4_Int.mk (-1) (-1) (-1) (-1)) 1 0) _ he1075) rfl) ?_
 refine Qf E_good ?_
 refine SafeOps.nil ?_
 repeat first|apply sq|apply sk|with_reducible first|apply tn|apply bn
 refine Safe.region ?_
 refine Qf E_good ?_
 refine Q0 E_good rfl (v := V.bool (x29 != 0)) (.fn rfl) ?_
 refine SafeOps.nil ?_
 repeat first|apply sq|apply sk|with_reducible first|apply tn|apply bn
 refine ifG h (fun hc1076 h => ?_) (fun hc1076 h => ?_)
 ·skip
  refine Safe.condK rfl hc1076 ?_
  repeat first|apply sq|apply sk|with_reducible first|apply tn|apply bn
  refine Safe.region ?_
  refine Q0 E_good rfl (v := V.agg [I 0, I 0, I 0, I 0, I 0, I 0, I 0, I 0, I 0, I 0, I 0]) (.fn rfl) ?_
  refine Qf E_good ?_
  refine SafeOps.store (z := Obj.box [I 0, I 0, I 0, I 0, I 0, I 0, I 0, I 0, I 0, I 0, I 0]) E_good rfl rfl rfl rfl rfl rfl rfl (.boxM (c := 11) rfl rfl (Nat.le_of_ble_eq_true rfl) rfl) ?_
  refine Qf E_good ?_
  refine SafeOps.nil ?_
  repeat first|apply sq|apply sk|with_reducible first|apply tn|apply bn
  refine Safe.ret ?_
  repeat (first | with_reducible refine thenQ.r ?_ | with_reducible refine blockQ.r ?_)
  obtain rfl := Option.some.inj h
  exact retQ.gen (vs := [V.agg [I 0, I 0, I 0, I 0, I 0, I 0, I 0, I 0, I 0, I 0, I 0], I x29]) rfl (.cell (v := V.agg [I 0, I 0, I 0, I 0, I 0, I 0, I 0, I 0, I 0, I 0, I 0]) rfl rfl (.box rfl rfl) rfl (.tmp rfl .nil)) (.free rfl) (by simp) (.inr rfl)
 ·skip
  refine Safe.condN rfl hc1076 ?_
  repeat first|apply sq|apply sk|with_reducible first|apply tn|apply bn
  refine Safe.region ?_
  refine Q0 E_good rfl (v := V.agg [I a26, I a27, I a28, I 0, I 0, I (-1), I (-1), I (-1), I (-1), I 1, I 0]) (.load rfl rfl (.box rfl rfl) rfl) ?_
  refine SafeOps.store (z := Obj.box [I a26, I a27, I a28, I 0, I 0, I (-1), I (-1), I (-1), I (-1), I 1, I 0]) E_good rfl rfl rfl rfl rfl rfl rfl (.boxM (c := 11) rfl rfl (Nat.le_of_ble_eq_true rfl) rfl) ?_
  refine Qf E_good ?_
  refine SafeOps.nil ?_
  repeat first|apply sq|apply sk|with_reducible first|apply tn|apply bn
  refine Safe.ret ?_
  repeat (first | with_reducible refine thenQ.r ?_ | with_reducible refine blockQ.r ?_)
  obtain rfl := Option.some.inj h
  exact retQ.gen (vs := [V.agg [I a26, I a27, I a28, I 0, I 0, I (-1), I (-1), I (-1), I (-1), I 1, I 0], I 0]) rfl (.cell (v := V.agg [I a26, I a27, I a28, I 0, I 0, I (-1), I (-1), I (-1), I (-1), I 1, I 0]) rfl rfl (.box rfl rfl) rfl (.tmp rfl .nil)) (.free rfl) (by simp) (.inr rfl)

noncomputable def go_step_Next_j2 (a30 : api_Task) (v31 : Int) (v32 : Int) (v33 : Int) : Option (api_Instr × Int) :=
 if ((decide (a30.Unit > 0)) && ((v31 != 1) || (decide (a30.Unit ≥ v32)))) = true then
  some (api_Instr.zero, 1)
 else
  some ((api_Instr.mk v31 v32 v33), 0)

noncomputable def go_step_Next_j1 (a30 : api_Task) (a34 : List api_Instr) (b35 : Bool) : Option (api_Instr × Int) :=
 if (b35 || (decide (a30.Pc > (a34.length : Int)))) = true then
  some (api_Instr.zero, 1)
 else
  if (decide (a30.Pc < (a34.length : Int))) = true then
   if 0 ≤ a30.Pc ∧ a30.Pc < (a34.length : Int) then
    go_step_Next_j2 a30 ((gt a34 a30.Pc).Op) ((gt a34 a30.Pc).A) ((gt a34 a30.Pc).B)
   else none
  else
   go_step_Next_j2 a30 9 0 0

noncomputable def go_step_Next (a30 : api_Task) (a34 : List api_Instr) : Option (api_Instr × Int) :=
 (go_life_Check a30).bind fun x36 =>
 if (x36 != 0) = true then
  go_step_Next_j1 a30 a34 true
 else
  (go_code_Check a34).bind fun x37 =>
  go_step_Next_j1 a30 a34 (x37 != 0)

theorem go_step_Next_sc (a30 : api_Task) (a34 : List api_Instr) (r : api_Instr × Int) (h : go_step_Next a30 a34 = some r) : SC Tryd.prog gl 51 [V.agg [I a30.Id, I a30.Tenant, I a30.Prog, I a30.Pc, I a30.Unit, I a30.Keeps.a0, I a30.Keeps.a1, I a30.Keeps.a2, I a30.Keeps.a3, I a30.State, I a30.Ran], V.sl 3 (rws api_Instr.cells a34)] (V.tup [V.agg [I r.1.Op, I r.1.A, I r.1.B], I r.2]) := by
 rw [go_step_Next] at h
 refine SC.of E_good Tryd.func51 rfl (fun _ _ => Tryd.call51 _ _) rfl ?_
 repeat first|apply sq|apply sk|with_reducible first|apply tn|apply bn
 refine Safe.region ?_
 refine SafeOps.quiet1 E_good rfl rfl rfl (.box rfl rfl) rfl ?_
 refine SafeOps.quiet1 E_good rfl rfl rfl (.alloc rfl rfl) rfl ?_
 refine Qf E_good ?_
 refine SafeOps.nil ?_
 repeat first|apply sq|apply sk|with_reducible first|apply tn|apply bn
 refine Safe.region ?_
 refine Q0 E_good rfl (v := V.agg [I a30.Id, I a30.Tenant, I a30.Prog, I a30.Pc, I a30.Unit, I a30.Keeps.a0, I a30.Keeps.a1, I a30.Keeps.a2, I a30.Keeps.a3, I a30.State, I a30.Ran]) (.load rfl rfl (.box rfl rfl) rfl) ?_
 refine bindG h ?_
 intro x36 he1115 h
 refine Q0 E_good rfl (v := I x36) (.callP rfl rfl (go_life_Check_sc a30 _ he1115) rfl) ?_
 refine Q0 E_good rfl (v := V.bool (x36 != 0)) (.fn rfl) ?_
 refine Qf E_good ?_
 refine SafeOps.bsplit 4 14 (fun b35 => go_step_Next_j1 a30 a34 b35 = some r) (fun HJ1120 => ?_) (fun b35 h => ?_)
 ·refine ifG h (fun hc1116 h => ?_) (fun hc1116 h => ?_)
  ·skip
   refine sF hc1116 ?_
   refine sF hc1116 ?_
   refine sF hc1116 ?_
   refine Q0 E_good rfl (v := V.bool true) (.pickK rfl hc1116 rfl) ?_
   exact SafeOps.drop' 4 rfl rfl rfl (HJ1120 _ h)
  ·skip
   refine qF E_good hc1116 (.fn rfl) ?_
   refine bindG h ?_
   intro x37 he1134 h
   refine qF E_good hc1116 (v := I x37) (.callP rfl rfl (go_code_Check_sc a34 _ he1134) rfl) ?_
   refine qF E_good hc1116 (v := V.bool (x37 != 0)) (.fn rfl) ?_
   refine Q0 E_good rfl (v := V.bool (x37 != 0)) (.pickK rfl hc1116 rfl) ?_
   exact SafeOps.drop' 4 rfl rfl rfl (HJ1120 _ h)
 ·replace h : go_step_Next_j1 a30 a34 b35 = some r := h
  rw [go_step_Next_j1] at h
  refine Qf E_good ?_
  refine SafeOps.bjoin 6 21 (b := (b35 || (decide (a30.Pc > (a34.length : Int))))) (b1 := true) (b0 := decide (a30.Pc > (a34.length : Int))) (fun hc1121 K => ?_) (fun hc1121 K => ?_) bj_or ?_
  ·skip
   refine sF hc1121 ?_
   refine sF hc1121 ?_
   refine sF hc1121 ?_
   refine sF hc1121 ?_
   refine sF hc1121 ?_
   refine Q0 E_good rfl (v := V.bool true) (.pickK rfl hc1121 rfl) ?_
   exact SafeOps.drop' 6 rfl rfl rfl K
  ·skip
   refine qF E_good hc1121 (v := V.ptr [2] 0 3) (.fn rfl) ?_
   refine qF E_good hc1121 (v := I a30.Pc) (.load rfl rfl (.box rfl rfl) rfl) ?_
   refine qF E_good hc1121 (.fn rfl) ?_
   refine qF E_good hc1121 (v := I (a34.length : Int)) (.fnE rfl lenE) ?_
   refine qF E_good hc1121 (v := V.bool (decide (a30.Pc > (a34.length : Int)))) (.fn rfl) ?_
   refine Q0 E_good rfl (v := V.bool (decide (a30.Pc > (a34.length : Int)))) (.pickK rfl hc1121 rfl) ?_
   exact SafeOps.drop' 6 rfl rfl rfl K
  refine SafeOps.nil ?_
  repeat first|apply sq|apply sk|with_reducible first|apply tn|apply bn
  refine ifG h (fun hc1122 h => ?_) (fun hc1122 h => ?_)
  ·skip
   refine Safe.condK rfl hc1122 ?_
   repeat first|apply sq|apply sk|with_reducible first|apply tn|apply bn
   refine Safe.region ?_
   refine Q0 E_good rfl (v := V.agg [I 0, I 0, I 0]) (.fn rfl) ?_
   refine SafeOps.store (z := Obj.box [I 0, I 0, I 0]) E_good rfl rfl rfl rfl rfl rfl rfl (.boxM (c := 3) rfl rfl (Nat.le_of_ble_eq_true rfl) rfl) ?_
   refine Qf E_good ?_
   refine SafeOps.nil ?_
   repeat first|apply sq|apply sk|with_reducible first|apply tn|apply bn
   refine Safe.ret ?_
   repeat (first | with_reducible refine thenQ.r ?_ | with_reducible refine blockQ.r ?_)
   obtain rfl := Option.some.inj h
   exact retQ.gen (vs := [V.agg [I 0, I 0, I 0], I 1]) rfl (.cell (v := V.agg [I 0, I 0, I 0]) rfl rfl (.box rfl rfl) rfl (.tmp rfl .nil)) (.free rfl) (by simp) (.inr rfl)
  ·skip
   refine Safe.condN rfl hc1122 ?_
   repeat first|apply sq|apply sk|with_reducible first|apply tn|apply bn
   refine Safe.region ?_
   refine Q0 E_good rfl (v := V.agg [I 9, I 0, I 0]) (.fn rfl) ?_
   refine SafeOps.quiet1 E_good rfl rfl rfl (.alloc rfl rfl) rfl ?_
   refine SafeOps.store (z := Obj.box [I 9, I 0, I 0]) E_good rfl rfl rfl rfl rfl rfl rfl (.boxM (c := 3) rfl rfl (Nat.le_of_ble_eq_true rfl) rfl) ?_
   refine SafeOps.nil ?_
   repeat first|apply sq|apply sk|with_reducible first|apply tn|apply bn
   refine Safe.region ?_
   refine Q0 E_good rfl (v := V.ptr [2] 0 3) (.fn rfl) ?_
   refine Q0 E_good rfl (v := I a30.Pc) (.load rfl rfl (.box rfl rfl) rfl) ?_
   refine Qf E_good ?_
   refine Q0 E_good rfl (v := I (a34.length : Int)) (.fnE rfl lenE) ?_
   refine Q0 E_good rfl (v := V.bool (decide (a30.Pc < (a34.length : Int)))) (.fn rfl) ?_
   refine SafeOps.nil ?_
   repeat first|apply sq|apply sk|with_reducible first|apply tn|apply bn
   refine Safe.joinT (fun ((v31, v32, v33) : Int × Int × Int) => go_step_Next_j2 a30 v31 v32 v33 = some r) (fun ((v31, v32, v33) : Int × Int × Int) => ⟨Tryd.f51.ntmps, [(2, V.ptr [2] 0 0), (4, V.ptr [4] 0 0), (6, V.ptr [6] 0 0)], [([2], Obj.box [I a30.Id, I a30.Tenant, I a30.Prog, I a30.Pc, I a30.Unit, I a30.Keeps.a0, I a30.Keeps.a1, I a30.Keeps.a2, I a30.Keeps.a3, I a30.State, I a30.Ran]), ([4], Obj.box [I 0, I 0, I 0]), ([6], Obj.box [I v31, I v32, I v33])], [], []⟩) ?_ (fun HJ1127 => ?_)
   ·rintro ⟨v31, v32, v33⟩ h
    replace h : go_step_Next_j2 a30 v31 v32 v33 = some r := h
    rw [go_step_Next_j2] at h
    repeat first|apply sq|apply sk|with_reducible first|apply tn|apply bn
    refine Safe.region ?_
    refine Q0 E_good rfl (v := V.ptr [2] 0 4) (.fn rfl) ?_
    refine Q0 E_good rfl (v := I a30.Unit) (.load rfl rfl (.box rfl rfl) rfl) ?_
    refine Q0 E_good rfl (v := V.bool (decide (a30.Unit > 0))) (.fn rfl) ?_
    refine Qf E_good ?_
    refine SafeOps.bjoin 11 48 (b := ((decide (a30.Unit > 0)) && ((v31 != 1) || (decide (a30.Unit ≥ v32))))) (b1 := ((v31 != 1) || (decide (a30.Unit ≥ v32)))) (b0 := false) (fun hc1128 K => ?_) (fun hc1128 K => ?_) bj_and ?_
    ·skip
     refine qT E_good hc1128 (v := V.ptr [6] 0 0) (.fn rfl) ?_
     refine qT E_good hc1128 (v := I v31) (.load rfl rfl (.box rfl rfl) rfl) ?_
     refine qT E_good hc1128 (v := V.bool (v31 != 1)) (.fn rfl) ?_
     refine qT E_good hc1128 (.fn rfl) ?_
     refine SafeOps.bjoin 6 47 (b := ((v31 != 1) || (decide (a30.Unit ≥ v32)))) (b1 := true) (b0 := decide (a30.Unit ≥ v32)) (fun hc1129 K => ?_) (fun hc1129 K => ?_) bj_or ?_
     ·skip
      refine sF hc1129 ?_
      refine sF hc1129 ?_
      refine sF hc1129 ?_
      refine sF hc1129 ?_
      refine sF hc1129 ?_
      refine qT E_good hc1128 (v := V.bool true) (.pickK rfl hc1129 rfl) ?_
      exact SafeOps.drop' 6 rfl rfl rfl K
     ·skip
      refine qF E_good hc1129 (v := V.ptr [2] 0 4) (.fn rfl) ?_
      refine qF E_good hc1129 (v := I a30.Unit) (.load rfl rfl (.box rfl rfl) rfl) ?_
      refine qF E_good hc1129 (v := V.ptr [6] 0 1) (.fn rfl) ?_
      refine qF E_good hc1129 (v := I v32) (.load rfl rfl (.box rfl rfl) rfl) ?_
      refine qF E_good hc1129 (v := V.bool (decide (a30.Unit ≥ v32))) (.fn rfl) ?_
      refine qT E_good hc1128 (v := V.bool (decide (a30.Unit ≥ v32))) (.pickK rfl hc1129 rfl) ?_
      exact SafeOps.drop' 6 rfl rfl rfl K
     refine Q0 E_good rfl (v := V.bool ((v31 != 1) || (decide (a30.Unit ≥ v32)))) (.pickK rfl hc1128 rfl) ?_
     exact SafeOps.drop' 6 rfl rfl rfl K
    ·skip
     refine sT hc1128 ?_
     refine sT hc1128 ?_
     refine sT hc1128 ?_
     refine sT hc1128 ?_
     refine SafeOps.skip rfl rfl rfl ?_
     refine SafeOps.skip rfl rfl rfl ?_
     refine SafeOps.skip rfl rfl rfl ?_
     refine SafeOps.skip rfl rfl rfl ?_
     refine SafeOps.skip rfl rfl rfl ?_
     refine sT hc1128 ?_
     refine Q0 E_good rfl (v := V.bool false) (.pickK rfl hc1128 rfl) ?_
     exact SafeOps.drop' 11 rfl rfl rfl K
    refine SafeOps.nil ?_
    repeat first|apply sq|apply sk|with_reducible first|apply tn|apply bn
    refine ifG h (fun hc1130 h => ?_) (fun hc1130 h => ?_)
    ·skip
     refine Safe.condK rfl hc1130 ?_
     repeat first|apply sq|apply sk|with_reducible first|apply tn|apply bn
     refine Safe.region ?_
     refine Q0 E_good rfl (v := V.agg [I 0, I 0, I 0]) (.fn rfl) ?_
     refine SafeOps.store (z := Obj.box [I 0, I 0, I 0]) E_good rfl rfl rfl rfl rfl rfl rfl (.boxM (c := 3) rfl rfl (Nat.le_of_ble_eq_true rfl) rfl) ?_
     refine Qf E_good ?_
     refine SafeOps.nil ?_
     repeat first|apply sq|apply sk|with_reducible first|apply tn|apply bn
     refine Safe.ret ?_
     repeat (first | with_reducible refine thenQ.r ?_ | with_reducible refine blockQ.r ?_)
     obtain rfl := Option.some.inj h
     exact retQ.gen (vs := [V.agg [I 0, I 0, I 0], I 1]) rfl (.cell (v := V.agg [I 0, I 0, I 0]) rfl rfl (.box rfl rfl) rfl (.tmp rfl .nil)) (.free rfl) (by simp) (.inr rfl)
    ·skip
     refine Safe.condN rfl hc1130 ?_
     repeat first|apply sq|apply sk|with_reducible first|apply tn|apply bn
     refine Safe.region ?_
     refine Q0 E_good rfl (v := V.agg [I v31, I v32, I v33]) (.load rfl rfl (.box rfl rfl) rfl) ?_
     refine SafeOps.store (z := Obj.box [I v31, I v32, I v33]) E_good rfl rfl rfl rfl rfl rfl rfl (.boxM (c := 3) rfl rfl (Nat.le_of_ble_eq_true rfl) rfl) ?_
     refine Qf E_good ?_
     refine SafeOps.nil ?_
     repeat first|apply sq|apply sk|with_reducible first|apply tn|apply bn
     refine Safe.ret ?_
     repeat (first | with_reducible refine thenQ.r ?_ | with_reducible refine blockQ.r ?_)
     obtain rfl := Option.some.inj h
     exact retQ.gen (vs := [V.agg [I v31, I v32, I v33], I 0]) rfl (.cell (v := V.agg [I v31, I v32, I v33]) rfl rfl (.box rfl rfl) rfl (.tmp rfl .nil)) (.free rfl) (by simp) (.inr rfl)
   ·skip
    refine ifG h (fun hc1131 h => ?_) (fun hc1131 h => ?_)
    ·skip
     refine Safe.condK rfl hc1131 ?_
     repeat first|apply sq|apply sk|with_reducible first|apply tn|apply bn
     refine Safe.region ?_
     refine Qf E_good ?_
     refine Q0 E_good rfl (v := V.ptr [2] 0 3) (.fn rfl) ?_
     refine Q0 E_good rfl (v := I a30.Pc) (.load rfl rfl (.box rfl rfl) rfl) ?_
     refine okG h (fun hb1132 h => ?_)
     refine Q0 E_good rfl (v := V.spt 3 (rws api_Instr.cells a34) (Int.toNat a30.Pc) 0) (.idxSlM (f := api_Instr.cells) rfl rfl rfl rfl rfl hb1132) ?_
     refine Q0 E_good rfl (v := V.agg [I ((gt a34 a30.Pc).Op), I ((gt a34 a30.Pc).A), I ((gt a34 a30.Pc).B)]) (.load rfl rfl (.sptM (f := api_Instr.cells) hb1132 rfl) rfl) ?_
     refine SafeOps.store (z := Obj.box [I ((gt a34 a30.Pc).Op), I ((gt a34 a30.Pc).A), I ((gt a34 a30.Pc).B)]) E_good rfl rfl rfl rfl rfl rfl rfl (.boxM (c := 3) rfl rfl (Nat.le_of_ble_eq_true rfl) rfl) ?_
     refine SafeOps.nil ?_
     repeat (first | refine Safe.skip ?_ | with_reducible refine thenQ.n ?_ | with_reducible refine blockQ.n ?_)
     exact Safe.got (HJ1127 ((gt a34 a30.Pc).Op, (gt a34 a30.Pc).A, (gt a34 a30.Pc).B) h) (.cov ⟨rfl, rfl, (ut (ut (ut upT_nil))), (uo (uo (uo upOb_nil))), upOut_nil, rfl⟩)
    ·skip
     refine Safe.condN rfl hc1131 ?_
     repeat (first | refine Safe.skip ?_ | with_reducible refine thenQ.n ?_ | with_reducible refine blockQ.n ?_)
     exact Safe.got (HJ1127 (9, 0, 0) h) (.cov ⟨rfl, rfl, (ut (ut (ut upT_nil))), (uo (uo (uo upOb_nil))), upOut_nil, rfl⟩)

noncomputable def go_life_Legal (a38 : Int) (a39 : Int) : Option Bool :=
 if ((go_life_state a38) && (go_life_state a39)) = true then
  if 0 ≤ a38 ∧ a38 < (8 : Int) then
   if 0 ≤ a39 then
    some ((IntKind.u8.wrap (BitVec.ofInt IntKind.u8.bits (Int.fdiv (follows.getD (0 + Int.toNat a38 * 1) 0) (2 ^ (min (Int.toNat a39) IntKind.u8.bits))) &&& BitVec.ofInt IntKind.u8.bits 1).toNat) == 1)
   else none
  else none
 else
  some false

theorem go_life_Legal_sc (a38 : Int) (a39 : Int) (r : Bool) (h : go_life_Legal a38 a39 = some r) : SC Tryd.prog gl 58 [I a38, I a39] (V.bool r) := by
 rw [go_life_Legal] at h
 refine SC.of E_good Tryd.func58 rfl (fun _ _ => Tryd.call58 _ _) rfl ?_
 repeat first|apply sq|apply sk|with_reducible first|apply tn|apply bn
 refine Safe.region ?_
 refine Qf E_good ?_
 refine SafeOps.nil ?_
 repeat first|apply sq|apply sk|with_reducible first|apply tn|apply bn
 refine Safe.region ?_
 refine Qf E_good ?_
 refine Q0 E_good rfl (v := V.bool (go_life_state a38)) (.callP rfl rfl (go_life_state_sc a38 _ rfl) rfl) ?_
 refine Qf E_good ?_
 refine SafeOps.bjoin 3 10 (b := ((go_life_state a38) && (go_life_state a39))) (b1 := go_life_state a39) (b0 := false) (fun hc1162 K => ?_) (fun hc1162 K => ?_) bj_and ?_
 ·skip
  refine qT E_good hc1162 (.fn rfl) ?_
  refine qT E_good hc1162 (v := V.bool (go_life_state a39)) (.callP rfl rfl (go_life_state_sc a39 _ rfl) rfl) ?_
  refine Q0 E_good rfl (v := V.bool (go_life_state a39)) (.pickK rfl hc1162 rfl) ?_
  exact SafeOps.drop' 3 rfl rfl rfl K
 ·skip
  refine sT hc1162 ?_
  refine sT hc1162 ?_
  refine Q0 E_good rfl (v := V.bool false) (.pickK rfl hc1162 rfl) ?_
  exact SafeOps.drop' 3 rfl rfl rfl K
 refine Qf E_good ?_
 refine ifG h (fun hc1163 h => ?_) (fun hc1163 h => ?_)
 ·skip
  refine qT E_good hc1163 (.fn rfl) ?_
  refine okG h (fun hb1166 h => ?_)
  refine qT E_good hc1163 (v := V.gptr 0 (0 + Int.toNat a38 * 1)) (.idxArrGM rfl rfl rfl rfl rfl rfl 8 rfl hb1166) ?_
  refine qT E_good hc1163 (v := V.int .u8 (follows.getD (0 + Int.toNat a38 * 1) 0)) (.load rfl rfl (.globI (xs := follows) rfl (globlt hb1166)) rfl) ?_
  refine qT E_good hc1163 (.fn rfl) ?_
  refine okG h (fun hb1167 h => ?_)
  refine qT E_good hc1163 (v := V.int .u8 (Int.fdiv (follows.getD (0 + Int.toNat a38 * 1) 0) (2 ^ (min (Int.toNat a39) IntKind.u8.bits)))) (.shrV rfl rfl hb1167) ?_
  refine qT E_good hc1163 (v := V.int .u8 (IntKind.u8.wrap (BitVec.ofInt IntKind.u8.bits (Int.fdiv (follows.getD (0 + Int.toNat a38 * 1) 0) (2 ^ (min (Int.toNat a39) IntKind.u8.bits))) &&& BitVec.ofInt IntKind.u8.bits 1).toNat)) (.fn rfl) ?_
  refine qT E_good hc1163 (v := V.bool ((IntKind.u8.wrap (BitVec.ofInt IntKind.u8.bits (Int.fdiv (follows.getD (0 + Int.toNat a38 * 1) 0) (2 ^ (min (Int.toNat a39) IntKind.u8.bits))) &&& BitVec.ofInt IntKind.u8.bits 1).toNat) == 1)) (.fn rfl) ?_
  refine Q0 E_good rfl (v := V.bool ((IntKind.u8.wrap (BitVec.ofInt IntKind.u8.bits (Int.fdiv (follows.getD (0 + Int.toNat a38 * 1) 0) (2 ^ (min (Int.toNat a39) IntKind.u8.bits))) &&& BitVec.ofInt IntKind.u8.bits 1).toNat) == 1)) (.pickK rfl hc1163 rfl) ?_
  refine Qf E_good ?_
  refine SafeOps.nil ?_
  repeat first|apply sq|apply sk|with_reducible first|apply tn|apply bn
  refine Safe.ret ?_
  repeat (first | with_reducible refine thenQ.r ?_ | with_reducible refine blockQ.r ?_)
  obtain rfl := Option.some.inj h
  exact retQ.gen (vs := [V.bool ((IntKind.u8.wrap (BitVec.ofInt IntKind.u8.bits (Int.fdiv (follows.getD (0 + Int.toNat a38 * 1) 0) (2 ^ (min (Int.toNat a39) IntKind.u8.bits))) &&& BitVec.ofInt IntKind.u8.bits 1).toNat) == 1)]) rfl (.tmp rfl .nil) (.free rfl) (by simp) (.inr rfl)
 ·skip
  refine sT hc1163 ?_
  refine sT hc1163 ?_
  refine sT hc1163 ?_
  refine sT hc1163 ?_
  refine sT hc1163 ?_
  refine sT hc1163 ?_
  refine sT hc1163 ?_
  refine Q0 E_good rfl (v := V.bool false) (.pickK rfl hc1163 rfl) ?_
  refine Qf E_good ?_
  refine SafeOps.nil ?_
  repeat first|apply sq|apply sk|with_reducible first|apply tn|apply bn
  refine Safe.ret ?_
  repeat (first | with_reducible refine thenQ.r ?_ | with_reducible refine blockQ.r ?_)
  obtain rfl := Option.some.inj h
  exact retQ.gen (vs := [V.bool false]) rfl (.tmp rfl .nil) (.free rfl) (by simp) (.inr rfl)

noncomputable def go_life_Move (a40 : api_Task) (a41 : Int) : Option (api_Task × Int) :=
 (go_life_Check a40).bind fun x42 =>
 if ((x42 != 0) || (!(go_life_state a41))) = true then
  some (api_Task.zero, 1)
 else
  (go_life_Legal a40.State a41).bind fun x43 =>
  if (!x43) = true then
   some (api_Task.zero, 9)
  else
   some ((api_Task.mk a40.Id a40.Tenant a40.Prog a40.Pc a40.Unit a40.Keeps a41 a40.Ran), 0)

theorem go_life_Move_sc (a40 : api_Task) (a41 : Int) (r : api_Task × Int) (h : go_life_Move a40 a41 = some r) : SC Tryd.prog gl 52 [V.agg [I a40.Id, I a40.Tenant, I a40.Prog, I a40.Pc, I a40.Unit, I a40.Keeps.a0, I a40.Keeps.a1, I a40.Keeps.a2, I a40.Keeps.a3, I a40.State, I a40.Ran], I a41] (V.tup [V.agg [I r.1.Id, I r.1.Tenant, I r.1.Prog, I r.1.Pc, I r.1.Unit, I r.1.Keeps.a0, I r.1.Keeps.a1, I r.1.Keeps.a2, I r.1.Keeps.a3, I r.1.State, I r.1.Ran], I r.2]) := by
 rw [go_life_Move] at h
 refine SC.of E_good Tryd.func52 rfl (fun _ _ => Tryd.call52 _ _) rfl ?_
 repeat first|apply sq|apply sk|with_reducible first|apply tn|apply bn
 refine Safe.region ?_
 refine SafeOps.quiet1 E_good rfl rfl rfl (.box rfl rfl) rfl ?_
 refine SafeOps.quiet1 E_good rfl rfl rfl (.alloc rfl rfl) rfl ?_
 refine Qf E_good ?_
 refine SafeOps.nil ?_
 repeat first|apply sq|apply sk|with_reducible first|apply tn|apply bn
 refine Safe.block ?_
 repeat first|apply sq|apply sk|with_reducible first|apply tn|apply bn
 refine Safe.region ?_
 refine Q0 E_good rfl (v := V.agg [I a40.Id, I a40.Tenant, I a40.Prog, I a40.Pc, I a40.Unit, I a40.Keeps.a0, I a40.Keeps.a1, I a40.Keeps.a2, I a40.Keeps.a3, I a40.State, I a40.Ran]) (.load rfl rfl (.box rfl rfl) rfl) ?_
 refine bindG h ?_
 intro x42 he1186 h
 refine Q0 E_good rfl (v := I x42) (.callP rfl rfl (go_life_Check_sc a40 _ he1186) rfl) ?_
 refine Q0 E_good rfl (v := V.bool (x42 != 0)) (.fn rfl) ?_
 refine Qf E_good ?_
 refine SafeOps.bjoin 4 14 (b := ((x42 != 0) || (!(go_life_state a41)))) (b1 := true) (b0 := (!(go_life_state a41))) (fun hc1187 K => ?_) (fun hc1187 K => ?_) bj_or ?_
 ·skip
  refine sF hc1187 ?_
  refine sF hc1187 ?_
  refine sF hc1187 ?_
  refine Q0 E_good rfl (v := V.bool true) (.pickK rfl hc1187 rfl) ?_
  exact SafeOps.drop' 4 rfl rfl rfl K
 ·skip
  refine qF E_good hc1187 (.fn rfl) ?_
  refine qF E_good hc1187 (v := V.bool (go_life_state a41)) (.callP rfl rfl (go_life_state_sc a41 _ rfl) rfl) ?_
  refine qF E_good hc1187 (v := V.bool (!(go_life_state a41))) (.fn rfl) ?_
  refine Q0 E_good rfl (v := V.bool (!(go_life_state a41))) (.pickK rfl hc1187 rfl) ?_
  exact SafeOps.drop' 4 rfl rfl rfl K
 refine Qf E_good ?_
 refine SafeOps.nil ?_
 repeat first|apply sq|apply sk|with_reducible first|apply tn|apply bn
 refine ifG h (fun hc1188 h => ?_) (fun hc1188 h => ?_)
 ·skip
  refine Safe.condK rfl hc1188 ?_
  repeat first|apply sq|apply sk|with_reducible first|apply tn|apply bn
  refine Safe.region ?_
  refine Q0 E_good rfl (v := V.agg [I 0, I 0, I 0, I 0, I 0, I 0, I 0, I 0, I 0, I 0, I 0]) (.fn rfl) ?_
  refine SafeOps.store (z := Obj.box [I 0, I 0, I 0, I 0, I 0, I 0, I 0, I 0, I 0, I 0, I 0]) E_good rfl rfl rfl rfl rfl rfl rfl (.boxM (c := 11) rfl rfl (Nat.le_of_ble_eq_true rfl) rfl) ?_
  refine Qf E_good ?_
  refine SafeOps.nil ?_
  repeat first|apply sq|apply sk|with_reducible first|apply tn|apply bn
  refine Safe.ret ?_
  repeat (first | with_reducible refine thenQ.r ?_ | with_reducible refine blockQ.r ?_)
  obtain rfl := Option.some.inj h
  exact retQ.gen (vs := [V.agg [I 0, I 0, I 0, I 0, I 0, I 0, I 0, I 0, I 0, I 0, I 0], I 1]) rfl (.cell (v := V.agg [I 0, I 0, I 0, I 0, I 0, I 0, I 0, I 0, I 0, I 0, I 0]) rfl rfl (.box rfl rfl) rfl (.tmp rfl .nil)) (.free rfl) (by simp) (.inr rfl)
 ·skip
  refine Safe.condN rfl hc1188 ?_
  repeat first|apply sq|apply sk|with_reducible first|apply tn|apply bn
  refine Safe.region ?_
  refine Q0 E_good rfl (v := V.ptr [2] 0 9) (.fn rfl) ?_
  refine Q0 E_good rfl (v := I a40.State) (.load rfl rfl (.box rfl rfl) rfl) ?_
  refine Qf E_good ?_
  refine bindG h ?_
  intro x43 he1190 h
  refine Q0 E_good rfl (v := V.bool x43) (.callP rfl rfl (go_life_Legal_sc a40.State a41 _ he1190) rfl) ?_
  refine Q0 E_good rfl (v := V.bool (!x43)) (.fn rfl) ?_
  refine Qf E_good ?_
  refine SafeOps.nil ?_
  repeat first|apply sq|apply sk|with_reducible first|apply tn|apply bn
  refine ifG h (fun hc1191 h => ?_) (fun hc1191 h => ?_)
  ·skip
   refine Safe.condK rfl hc1191 ?_
   repeat first|apply sq|apply sk|with_reducible first|apply tn|apply bn
   refine Safe.region ?_
   refine Q0 E_good rfl (v := V.agg [I 0, I 0, I 0, I 0, I 0, I 0, I 0, I 0, I 0, I 0, I 0]) (.fn rfl) ?_
   refine SafeOps.store (z := Obj.box [I 0, I 0, I 0, I 0, I 0, I 0, I 0, I 0, I 0, I 0, I 0]) E_good rfl rfl rfl rfl rfl rfl rfl (.boxM (c := 11) rfl rfl (Nat.le_of_ble_eq_true rfl) rfl) ?_
   refine Qf E_good ?_
   refine SafeOps.nil ?_
   repeat first|apply sq|apply sk|with_reducible first|apply tn|apply bn
   refine Safe.ret ?_
   repeat (first | with_reducible refine thenQ.r ?_ | with_reducible refine blockQ.r ?_)
   obtain rfl := Option.some.inj h
   exact retQ.gen (vs := [V.agg [I 0, I 0, I 0, I 0, I 0, I 0, I 0, I 0, I 0, I 0, I 0], I 9]) rfl (.cell (v := V.agg [I 0, I 0, I 0, I 0, I 0, I 0, I 0, I 0, I 0, I 0, I 0]) rfl rfl (.box rfl rfl) rfl (.tmp rfl .nil)) (.free rfl) (by simp) (.inr rfl)
  ·skip
   refine Safe.condN rfl hc1191 ?_
   repeat first|apply sq|apply sk|with_reducible first|apply tn|apply bn
   refine Safe.region ?_
   refine Qf E_good ?_
   refine Q0 E_good rfl (v := V.ptr [2] 0 9) (.fn rfl) ?_
   refine SafeOps.store (z := Obj.box [I a40.Id, I a40.Tenant, I a40.Prog, I a40.Pc, I a40.Unit, I a40.Keeps.a0, I a40.Keeps.a1, I a40.Keeps.a2, I a40.Keeps.a3, I a41, I a40.Ran]) E_good rfl rfl rfl rfl rfl rfl rfl (.boxM (c := 11) rfl rfl (Nat.le_of_ble_eq_true rfl) rfl) ?_
   refine SafeOps.nil ?_
   repeat first|apply sq|apply sk|with_reducible first|apply tn|apply bn
   refine Safe.region ?_
   refine Q0 E_good rfl (v := V.agg [I a40.Id, I a40.Tenant, I a40.Prog, I a40.Pc, I a40.Unit, I a40.Keeps.a0, I a40.Keeps.a1, I a40.Keeps.a2, I a40.Keeps.a3, I a41, I a40.Ran]) (.load rfl rfl (.box rfl rfl) rfl) ?_
   refine SafeOps.store (z := Obj.box [I a40.Id, I a40.Tenant, I a40.Prog, I a40.Pc, I a40.Unit, I a40.Keeps.a0, I a40.Keeps.a1, I a40.Keeps.a2, I a40.Keeps.a3, I a41, I a40.Ran]) E_good rfl rfl rfl rfl rfl rfl rfl (.boxM (c := 11) rfl rfl (Nat.le_of_ble_eq_true rfl) rfl) ?_
   refine Qf E_good ?_
   refine SafeOps.nil ?_
   repeat first|apply sq|apply sk|with_reducible first|apply tn|apply bn
   refine Safe.ret ?_
   repeat (first | with_reducible refine thenQ.r ?_ | with_reducible refine blockQ.r ?_)
   obtain rfl := Option.some.inj h
   exact retQ.gen (vs := [V.agg [I a40.Id, I a40.Tenant, I a40.Prog, I a40.Pc, I a40.Unit, I a40.Keeps.a0, I a40.Keeps.a1, I a40.Keeps.a2, I a40.Keeps.a3, I a41, I a40.Ran], I 0]) rfl (.cell (v := V.agg [I a40.Id, I a40.Tenant, I a40.Prog, I a40.Pc, I a40.Unit, I a40.Keeps.a0, I a40.Keeps.a1, I a40.Keeps.a2, I a40.Keeps.a3, I a41, I a40.Ran]) rfl rfl (.box rfl rfl) rfl (.tmp rfl .nil)) (.free rfl) (by simp) (.inr rfl)

@[ext] structure api_Effect where
 Kind : Int
 A : Int
 B : Int
 deriving Inhabited
def api_Effect.cells (x : api_Effect) : List V := [I x.Kind, I x.A, I x.B]
def api_Effect.zero : api_Effect := ⟨0, 0, 0⟩
def api_Effect.beq (x y : api_Effect) : Bool := ((x.Kind == y.Kind) && ((x.A == y.A) && ((x.B == y.B) && true)))

noncomputable def go_step_Do_j1 (a44 : api_Task) (a45 : List api_Instr) (v46 : Int) (v47 : Int) (v48 : Int) (v49 : Int) : Option (api_Task × api_Effect × Int) :=
 some ((api_Task.mk a44.Id a44.Tenant a44.Prog (if (a45.length : Int) < (IntKind.i64.wrap (a44.Pc + 1)) then (a45.length : Int) else IntKind.i64.wrap (a44.Pc + 1)) 0 a44.Keeps a44.State (IntKind.i64.wrap (a44.Ran + 1))), (api_Effect.mk v47 v48 v49), 0)

noncomputable def go_step_Do (a44 : api_Task) (a45 : List api_Instr) : Option (api_Task × api_Effect × Int) :=
 (go_step_Next a44 a45).bind fun (x50, x51) =>
 if (x51 != 0) = true then
  some (api_Task.zero, api_Effect.zero, x51)
 else
  if (a44.State != 2) = true then
   some (api_Task.zero, api_Effect.zero, 9)
  else
   if (a44.Ran == 1099511627776) = true then
    some (api_Task.zero, api_Effect.zero, 4)
   else
    if (x50.Op == 1) = true then
     if (decide ((IntKind.i64.wrap (a44.Unit + 1)) < x50.A)) = true then
      some ((api_Task.mk a44.Id a44.Tenant a44.Prog a44.Pc (IntKind.i64.wrap (a44.Unit + 1)) a44.Keeps a44.State (IntKind.i64.wrap (a44.Ran + 1))), api_Effect.zero, 0)
     else
      go_step_Do_j1 a44 a45 (IntKind.i64.wrap (a44.Unit + 1)) 0 0 0
    else
     go_step_Do_j1 a44 a45 a44.Unit x50.Op x50.A x50.B

theorem go_step_Do_sc (a44 : api_Task) (a45 : List api_Instr) (r : api_Task × api_Effect × Int) (h : go_step_Do a44 a45 = some r) : SC Tryd.prog gl 53 [V.agg [I a44.Id, I a44.Tenant, I a44.Prog, I a44.Pc, I a44.Unit, I a44.Keeps.a0, I a44.Keeps.a1, I a44.Keeps.a2, I a44.Keeps.a3, I a44.State, I a44.Ran], V.sl 3 (rws api_Instr.cells a45)] (V.tup [V.agg [I r.1.Id, I r.1.Tenant, I r.1.Prog, I r.1.Pc, I r.1.Unit, I r.1.Keeps.a0, I r.1.Keeps.a1, I r.1.Keeps.a2, I r.1.Keeps.a3, I r.1.State, I r.1.Ran], V.agg [I r.2.1.Kind, I r.2.1.A, I r.2.1.B], I r.2.2]) := by
 rw [go_step_Do] at h
 refine SC.of E_good Tryd.func53 rfl (fun _ _ => Tryd.call53 _ _) rfl ?_
 repeat first|apply sq|apply sk|with_reducible first|apply tn|apply bn
 refine Safe.region ?_
 refine SafeOps.quiet1 E_good rfl rfl rfl (.box rfl rfl) rfl ?_
 refine SafeOps.quiet1 E_good rfl rfl rfl (.alloc rfl rfl) rfl ?_
 refine SafeOps.quiet1 E_good rfl rfl rfl (.alloc rfl rfl) rfl ?_
 refine Qf E_good ?_
 refine SafeOps.nil ?_
 repeat first|apply sq|apply sk|with_reducible first|apply tn|apply bn
 refine Safe.region ?_
 refine Q0 E_good rfl (v := V.agg [I a44.Id, I a44.Tenant, I a44.Prog, I a44.Pc, I a44.Unit, I a44.Keeps.a0, I a44.Keeps.a1, I a44.Keeps.a2, I a44.Keeps.a3, I a44.State, I a44.Ran]) (.load rfl rfl (.box rfl rfl) rfl) ?_
 refine Qf E_good ?_
 refine bindG h ?_
 rintro ⟨x50, x51⟩ he1217 h
 refine Q0 E_good rfl (v := V.tup [V.agg [I x50.Op, I x50.A, I x50.B], I x51]) (.callP rfl rfl (go_step_Next_sc a44 a45 _ he1217) rfl) ?_
 refine Qf E_good ?_
 refine Qf E_good ?_
 refine Qf E_good ?_
 refine SafeOps.quiet1 E_good rfl rfl rfl (.alloc rfl rfl) rfl ?_
 refine SafeOps.store (z := Obj.box [I x50.Op, I x50.A, I x50.B]) E_good rfl rfl rfl rfl rfl rfl rfl (.boxM (c := 3) rfl rfl (Nat.le_of_ble_eq_true rfl) rfl) ?_
 refine Qf E_good ?_
 refine SafeOps.nil ?_
 repeat first|apply sq|apply sk|with_reducible first|apply tn|apply bn
 refine Safe.block ?_
 repeat first|apply sq|apply sk|with_reducible first|apply tn|apply bn
 refine Safe.region ?_
 refine Qf E_good ?_
 refine Q0 E_good rfl (v := V.bool (x51 != 0)) (.fn rfl) ?_
 refine Qf E_good ?_
 refine SafeOps.nil ?_
 repeat first|apply sq|apply sk|with_reducible first|apply tn|apply bn
 refine ifG h (fun hc1221 h => ?_) (fun hc1221 h => ?_)
 ·skip
  refine Safe.condK rfl hc1221 ?_
  repeat first|apply sq|apply sk|with_reducible first|apply tn|apply bn
  refine Safe.region ?_
  refine Q0 E_good rfl (v := V.agg [I 0, I 0, I 0, I 0, I 0, I 0, I 0, I 0, I 0, I 0, I 0]) (.fn rfl) ?_
  refine Q0 E_good rfl (v := V.agg [I 0, I 0, I 0]) (.fn rfl) ?_
  refine Qf E_good ?_
  refine SafeOps.store (z := Obj.box [I 0, I 0, I 0, I 0, I 0, I 0, I 0, I 0, I 0, I 0, I 0]) E_good rfl rfl rfl rfl rfl rfl rfl (.boxM (c := 11) rfl rfl (Nat.le_of_ble_eq_true rfl) rfl) ?_
  refine SafeOps.store (z := Obj.box [I 0, I 0, I 0]) E_good rfl rfl rfl rfl rfl rfl rfl (.boxM (c := 3) rfl rfl (Nat.le_of_ble_eq_true rfl) rfl) ?_
  refine Qf E_good ?_
  refine SafeOps.nil ?_
  repeat first|apply sq|apply sk|with_reducible first|apply tn|apply bn
  refine Safe.ret ?_
  repeat (first | with_reducible refine thenQ.r ?_ | with_reducible refine blockQ.r ?_)
  obtain rfl := Option.some.inj h
  exact retQ.gen (vs := [V.agg [I 0, I 0, I 0, I 0, I 0, I 0, I 0, I 0, I 0, I 0, I 0], V.agg [I 0, I 0, I 0], I x51]) rfl (.cell (v := V.agg [I 0, I 0, I 0, I 0, I 0, I 0, I 0, I 0, I 0, I 0, I 0]) rfl rfl (.box rfl rfl) rfl (.cell (v := V.agg [I 0, I 0, I 0]) rfl rfl (.box rfl rfl) rfl (.tmp rfl .nil))) (.free rfl) (by simp) (.inr rfl)
 ·skip
  refine Safe.condN rfl hc1221 ?_
  repeat first|apply sq|apply sk|with_reducible first|apply tn|apply bn
  refine Safe.region ?_
  refine Q0 E_good rfl (v := V.ptr [2] 0 9) (.fn rfl) ?_
  refine Q0 E_good rfl (v := I a44.State) (.load rfl rfl (.box rfl rfl) rfl) ?_
  refine Q0 E_good rfl (v := V.bool (a44.State != 2)) (.fn rfl) ?_
  refine Qf E_good ?_
  refine SafeOps.nil ?_
  repeat first|apply sq|apply sk|with_reducible first|apply tn|apply bn
  refine ifG h (fun hc1222 h => ?_) (fun hc1222 h => ?_)
  ·skip
   refine Safe.condK rfl hc1222 ?_
   repeat first|apply sq|apply sk|with_reducible first|apply tn|apply bn
   refine Safe.region ?_
   refine Q0 E_good rfl (v := V.agg [I 0, I 0, I 0, I 0, I 0, I 0, I 0, I 0, I 0, I 0, I 0]) (.fn rfl) ?_
   refine Q0 E_good rfl (v := V.agg [I 0, I 0, I 0]) (.fn rfl) ?_
   refine SafeOps.store (z := Obj.box [I 0, I 0, I 0, I 0, I 0, I 0, I 0, I 0, I 0, I 0, I 0]) E_good rfl rfl rfl rfl rfl rfl rfl (.boxM (c := 11) rfl rfl (Nat.le_of_ble_eq_true rfl) rfl) ?_
   refine SafeOps.store (z := Obj.box [I 0, I 0, I 0]) E_good rfl rfl rfl rfl rfl rfl rfl (.boxM (c := 3) rfl rfl (Nat.le_of_ble_eq_true rfl) rfl) ?_
   refine Qf E_good ?_
   refine SafeOps.nil ?_
   repeat first|apply sq|apply sk|with_reducible first|apply tn|apply bn
   refine Safe.ret ?_
   repeat (first | with_reducible refine thenQ.r ?_ | with_reducible refine blockQ.r ?_)
   obtain rfl := Option.some.inj h
   exact retQ.gen (vs := [V.agg [I 0, I 0, I 0, I 0, I 0, I 0, I 0, I 0, I 0, I 0, I 0], V.agg [I 0, I 0, I 0], I 9]) rfl (.cell (v := V.agg [I 0, I 0, I 0, I 0, I 0, I 0, I 0, I 0, I 0, I 0, I 0]) rfl rfl (.box rfl rfl) rfl (.cell (v := V.agg [I 0, I 0, I 0]) rfl rfl (.box rfl rfl) rfl (.tmp rfl .nil))) (.free rfl) (by simp) (.inr rfl)
  ·skip
   refine Safe.condN rfl hc1222 ?_
   repeat first|apply sq|apply sk|with_reducible first|apply tn|apply bn
   refine Safe.region ?_
   refine Q0 E_good rfl (v := V.ptr [2] 0 10) (.fn rfl) ?_
   refine Q0 E_good rfl (v := I a44.Ran) (.load rfl rfl (.box rfl rfl) rfl) ?_
   refine Q0 E_good rfl (v := V.bool (a44.Ran == 1099511627776)) (.fn rfl) ?_
   refine Qf E_good ?_
   refine SafeOps.nil ?_
   repeat first|apply sq|apply sk|with_reducible first|apply tn|apply bn
   refine ifG h (fun hc1223 h => ?_) (fun hc1223 h => ?_)
   ·skip
    refine Safe.condK rfl hc1223 ?_
    repeat first|apply sq|apply sk|with_reducible first|apply tn|apply bn
    refine Safe.region ?_
    refine Q0 E_good rfl (v := V.agg [I 0, I 0, I 0, I 0, I 0, I 0, I 0, I 0, I 0, I 0, I 0]) (.fn rfl) ?_
    refine Q0 E_good rfl (v := V.agg [I 0, I 0, I 0]) (.fn rfl) ?_
    refine SafeOps.store (z := Obj.box [I 0, I 0, I 0, I 0, I 0, I 0, I 0, I 0, I 0, I 0, I 0]) E_good rfl rfl rfl rfl rfl rfl rfl (.boxM (c := 11) rfl rfl (Nat.le_of_ble_eq_true rfl) rfl) ?_
    refine SafeOps.store (z := Obj.box [I 0, I 0, I 0]) E_good rfl rfl rfl rfl rfl rfl rfl (.boxM (c := 3) rfl rfl (Nat.le_of_ble_eq_true rfl) rfl) ?_
    refine Qf E_good ?_
    refine SafeOps.nil ?_
    repeat first|apply sq|apply sk|with_reducible first|apply tn|apply bn
    refine Safe.ret ?_
    repeat (first | with_reducible refine thenQ.r ?_ | with_reducible refine blockQ.r ?_)
    obtain rfl := Option.some.inj h
    exact retQ.gen (vs := [V.agg [I 0, I 0, I 0, I 0, I 0, I 0, I 0, I 0, I 0, I 0, I 0], V.agg [I 0, I 0, I 0], I 4]) rfl (.cell (v := V.agg [I 0, I 0, I 0, I 0, I 0, I 0, I 0, I 0, I 0, I 0, I 0]) rfl rfl (.box rfl rfl) rfl (.cell (v := V.agg [I 0, I 0, I 0]) rfl rfl (.box rfl rfl) rfl (.tmp rfl .nil))) (.free rfl) (by simp) (.inr rfl)
   ·skip
    refine Safe.condN rfl hc1223 ?_
    repeat first|apply sq|apply sk|with_reducible first|apply tn|apply bn
    refine Safe.region ?_
    refine Q0 E_good rfl (v := V.ptr [2] 0 10) (.fn rfl) ?_
    refine Q0 E_good rfl (v := I a44.Ran) (.load rfl rfl (.box rfl rfl) rfl) ?_
    refine Q0 E_good rfl (v := I (IntKind.i64.wrap (a44.Ran + 1))) (.fn rfl) ?_
    refine Q0 E_good rfl (v := V.ptr [2] 0 10) (.fn rfl) ?_
    refine SafeOps.store (z := Obj.box [I a44.Id, I a44.Tenant, I a44.Prog, I a44.Pc, I a44.Unit, I a44.Keeps.a0, I a44.Keeps.a1, I a44.Keeps.a2, I a44.Keeps.a3, I a44.State, I (IntKind.i64.wrap (a44.Ran + 1))]) E_good rfl rfl rfl rfl rfl rfl rfl (.boxM (c := 11) rfl rfl (Nat.le_of_ble_eq_true rfl) rfl) ?_
    refine SafeOps.nil ?_
    repeat first|apply sq|apply sk|with_reducible first|apply tn|apply bn
    refine Safe.region ?_
    refine Q0 E_good rfl (v := V.ptr [7] 0 0) (.fn rfl) ?_
    refine Q0 E_good rfl (v := I x50.Op) (.load rfl rfl (.box rfl rfl) rfl) ?_
    refine Q0 E_good rfl (v := V.ptr [7] 0 1) (.fn rfl) ?_
    refine Q0 E_good rfl (v := I x50.A) (.load rfl rfl (.box rfl rfl) rfl) ?_
    refine Q0 E_good rfl (v := V.ptr [7] 0 2) (.fn rfl) ?_
    refine Q0 E_good rfl (v := I x50.B) (.load rfl rfl (.box rfl rfl) rfl) ?_
    refine Q0 E_good rfl (v := V.agg [I x50.Op, I x50.A, I x50.B]) (.fn rfl) ?_
    refine SafeOps.quiet1 E_good rfl rfl rfl (.alloc rfl rfl) rfl ?_
    refine SafeOps.store (z := Obj.box [I x50.Op, I x50.A, I x50.B]) E_good rfl rfl rfl rfl rfl rfl rfl (.boxM (c := 3) rfl rfl (Nat.le_of_ble_eq_true rfl) rfl) ?_
    refine SafeOps.nil ?_
    repeat first|apply sq|apply sk|with_reducible first|apply tn|apply bn
    refine Safe.region ?_
    refine Q0 E_good rfl (v := V.ptr [7] 0 0) (.fn rfl) ?_
    refine Q0 E_good rfl (v := I x50.Op) (.load rfl rfl (.box rfl rfl) rfl) ?_
    refine Q0 E_good rfl (v := V.bool (x50.Op == 1)) (.fn rfl) ?_
    refine SafeOps.nil ?_
    repeat first|apply sq|apply sk|with_reducible first|apply tn|apply bn
    refine Safe.joinT (fun ((v46, v47, v48, v49) : Int × Int × Int × Int) => go_step_Do_j1 a44 a45 v46 v47 v48 v49 = some r) (fun ((v46, v47, v48, v49) : Int × Int × Int × Int) => ⟨Tryd.f53.ntmps, [(1, V.sl 3 (rws api_Instr.cells a45)), (2, V.ptr [2] 0 0), (4, V.ptr [4] 0 0), (5, V.ptr [5] 0 0), (9, V.ptr [9] 0 0)], [([2], Obj.box [I a44.Id, I a44.Tenant, I a44.Prog, I a44.Pc, I v46, I a44.Keeps.a0, I a44.Keeps.a1, I a44.Keeps.a2, I a44.Keeps.a3, I a44.State, I (IntKind.i64.wrap (a44.Ran + 1))]), ([4], Obj.box [I 0, I 0, I 0, I 0, I 0, I 0, I 0, I 0, I 0, I 0, I 0]), ([5], Obj.box [I 0, I 0, I 0]), ([9], Obj.box [I v47, I v48, I v49])], [], []⟩) ?_ (fun HJ1229 => ?_)
    ·rintro ⟨v46, v47, v48, v49⟩ h
     replace h : go_step_Do_j1 a44 a45 v46 v47 v48 v49 = some r := h
     rw [go_step_Do_j1] at h
     repeat first|apply sq|apply sk|with_reducible first|apply tn|apply bn
     refine Safe.region ?_
     refine Q0 E_good rfl (v := V.ptr [2] 0 3) (.fn rfl) ?_
     refine Q0 E_good rfl (v := I a44.Pc) (.load rfl rfl (.box rfl rfl) rfl) ?_
     refine Q0 E_good rfl (v := I (IntKind.i64.wrap (a44.Pc + 1))) (.fn rfl) ?_
     refine Qf E_good ?_
     refine Q0 E_good rfl (v := I (a45.length : Int)) (.fnE rfl lenE) ?_
     refine Q0 E_good rfl (v := I (if (a45.length : Int) < (IntKind.i64.wrap (a44.Pc + 1)) then (a45.length : Int) else IntKind.i64.wrap (a44.Pc + 1))) (.fn rfl) ?_
     refine Q0 E_good rfl (v := V.ptr [2] 0 4) (.fn rfl) ?_
     refine SafeOps.store (z := Obj.box [I a44.Id, I a44.Tenant, I a44.Prog, I a44.Pc, I 0, I a44.Keeps.a0, I a44.Keeps.a1, I a44.Keeps.a2, I a44.Keeps.a3, I a44.State, I (IntKind.i64.wrap (a44.Ran + 1))]) E_good rfl rfl rfl rfl rfl rfl rfl (.boxM (c := 11) rfl rfl (Nat.le_of_ble_eq_true rfl) rfl) ?_
     refine Q0 E_good rfl (v := V.ptr [2] 0 3) (.fn rfl) ?_
     refine SafeOps.store (z := Obj.box [I a44.Id, I a44.Tenant, I a44.Prog, I (if (a45.length : Int) < (IntKind.i64.wrap (a44.Pc + 1)) then (a45.length : Int) else IntKind.i64.wrap (a44.Pc + 1)), I 0, I a44.Keeps.a0, I a44.Keeps.a1, I a44.Keeps.a2, I a44.Keeps.a3, I a44.State, I (IntKind.i64.wrap (a44.Ran + 1))]) E_good rfl rfl rfl rfl rfl rfl rfl (.boxM (c := 11) rfl rfl (Nat.le_of_ble_eq_true rfl) rfl) ?_
     refine SafeOps.nil ?_
     repeat first|apply sq|apply sk|with_reducible first|apply tn|apply bn
     refine Safe.regionD (n := 5) [(2, [4]), (3, [5])] [] E_good mixed rfl ?_
     refine DT 0 [[4], [5]] rfl rfl (v := V.agg [I a44.Id, I a44.Tenant, I a44.Prog, I (if (a45.length : Int) < (IntKind.i64.wrap (a44.Pc + 1)) then (a45.length : Int) else IntKind.i64.wrap (a44.Pc + 1)), I 0, I a44.Keeps.a0, I a44.Keeps.a1, I a44.Keeps.a2, I a44.Keeps.a3, I a44.State, I (IntKind.i64.wrap (a44.Ran + 1))]) (fun _ hz => (.load rfl rfl (.box (hz _ _ rfl rfl) rfl) rfl)) ?_
     refine DT 1 [[4], [5]] rfl rfl (v := V.agg [I v47, I v48, I v49]) (fun _ hz => (.load rfl rfl (.box (hz _ _ rfl rfl) rfl) rfl)) ?_
     refine DAny.only (i := 2) rfl (by kernel_rfl) (.store (z := Obj.box [I a44.Id, I a44.Tenant, I a44.Prog, I (if (a45.length : Int) < (IntKind.i64.wrap (a44.Pc + 1)) then (a45.length : Int) else IntKind.i64.wrap (a44.Pc + 1)), I 0, I a44.Keeps.a0, I a44.Keeps.a1, I a44.Keeps.a2, I a44.Keeps.a3, I a44.State, I (IntKind.i64.wrap (a44.Ran + 1))]) rfl rfl rfl rfl rfl rfl rfl (.boxM (c := 11) rfl rfl (Nat.le_of_ble_eq_true rfl) rfl) rfl ?_)
     refine DAny.only (i := 3) rfl (by kernel_rfl) (.store (z := Obj.box [I v47, I v48, I v49]) rfl rfl rfl rfl rfl rfl rfl (.boxM (c := 3) rfl rfl (Nat.le_of_ble_eq_true rfl) rfl) rfl ?_)
     refine DT 4 [[4], [5]] rfl rfl (fun _ hz => (.fn rfl)) ?_
     refine DAny.nil (by kernel_rfl) ?_
     repeat first|apply sq|apply sk|with_reducible first|apply tn|apply bn
     refine Safe.ret ?_
     repeat (first | with_reducible refine thenQ.r ?_ | with_reducible refine blockQ.r ?_)
     obtain rfl := Option.some.inj h
     exact retQ.gen (vs := [V.agg [I a44.Id, I a44.Tenant, I a44.Prog, I (if (a45.length : Int) < (IntKind.i64.wrap (a44.Pc + 1)) then (a45.length : Int) else IntKind.i64.wrap (a44.Pc + 1)), I 0, I a44.Keeps.a0, I a44.Keeps.a1, I a44.Keeps.a2, I a44.Keeps.a3, I a44.State, I (IntKind.i64.wrap (a44.Ran + 1))], V.agg [I v47, I v48, I v49], I 0]) rfl (.cell (v := V.agg [I a44.Id, I a44.Tenant, I a44.Prog, I (if (a45.length : Int) < (IntKind.i64.wrap (a44.Pc + 1)) then (a45.length : Int) else IntKind.i64.wrap (a44.Pc + 1)), I 0, I a44.Keeps.a0, I a44.Keeps.a1, I a44.Keeps.a2, I a44.Keeps.a3, I a44.State, I (IntKind.i64.wrap (a44.Ran + 1))]) rfl rfl (.box rfl rfl) rfl (.cell (v := V.agg [I v47, I v48, I v49]) rfl rfl (.box rfl rfl) rfl (.tmp rfl .nil))) (.free rfl) (by simp) (.inr rfl)
    ·skip
     refine ifG h (fun hc1230 h => ?_) (fun hc1230 h => ?_)
     ·skip
      refine Safe.condK rfl hc1230 ?_
      repeat first|apply sq|apply sk|with_reducible first|apply tn|apply bn
      refine Safe.region ?_
      refine Q0 E_good rfl (v := V.agg [I 0, I 0, I 0]) (.fn rfl) ?_
      refine SafeOps.store (z := Obj.box [I 0, I 0, I 0]) E_good rfl rfl rfl rfl rfl rfl rfl (.boxM (c := 3) rfl rfl (Nat.le_of_ble_eq_true rfl) rfl) ?_
      refine SafeOps.nil ?_
      repeat first|apply sq|apply sk|with_reducible first|apply tn|apply bn
      refine Safe.region ?_
      refine Q0 E_good rfl (v := V.ptr [2] 0 4) (.fn rfl) ?_
      refine Q0 E_good rfl (v := I a44.Unit) (.load rfl rfl (.box rfl rfl) rfl) ?_
      refine Q0 E_good rfl (v := I (IntKind.i64.wrap (a44.Unit + 1))) (.fn rfl) ?_
      refine Q0 E_good rfl (v := V.ptr [2] 0 4) (.fn rfl) ?_
      refine SafeOps.store (z := Obj.box [I a44.Id, I a44.Tenant, I a44.Prog, I a44.Pc, I (IntKind.i64.wrap (a44.Unit + 1)), I a44.Keeps.a0, I a44.Keeps.a1, I a44.Keeps.a2, I a44.Keeps.a3, I a44.State, I (IntKind.i64.wrap (a44.Ran + 1))]) E_good rfl rfl rfl rfl rfl rfl rfl (.boxM (c := 11) rfl rfl (Nat.le_of_ble_eq_true rfl) rfl) ?_
      refine SafeOps.nil ?_
      repeat first|apply sq|apply sk|with_reducible first|apply tn|apply bn
      refine Safe.region ?_
      refine Q0 E_good rfl (v := V.ptr [2] 0 4) (.fn rfl) ?_
      refine Q0 E_good rfl (v := I (IntKind.i64.wrap (a44.Unit + 1))) (.load rfl rfl (.box rfl rfl) rfl) ?_
      refine Q0 E_good rfl (v := V.ptr [7] 0 1) (.fn rfl) ?_
      refine Q0 E_good rfl (v := I x50.A) (.load rfl rfl (.box rfl rfl) rfl) ?_
      refine Q0 E_good rfl (v := V.bool (decide ((IntKind.i64.wrap (a44.Unit + 1)) < x50.A))) (.fn rfl) ?_
      refine SafeOps.nil ?_
      repeat first|apply sq|apply sk|with_reducible first|apply tn|apply bn
      refine ifG h (fun hc1231 h => ?_) (fun hc1231 h => ?_)
      ·skip
       refine Safe.condK rfl hc1231 ?_
       repeat first|apply sq|apply sk|with_reducible first|apply tn|apply bn
       refine Safe.regionD (n := 5) [(2, [4]), (3, [5])] [] E_good mixed rfl ?_
       refine DT 0 [[4], [5]] rfl rfl (v := V.agg [I a44.Id, I a44.Tenant, I a44.Prog, I a44.Pc, I (IntKind.i64.wrap (a44.Unit + 1)), I a44.Keeps.a0, I a44.Keeps.a1, I a44.Keeps.a2, I a44.Keeps.a3, I a44.State, I (IntKind.i64.wrap (a44.Ran + 1))]) (fun _ hz => (.load rfl rfl (.box (hz _ _ rfl rfl) rfl) rfl)) ?_
       refine DT 1 [[4], [5]] rfl rfl (v := V.agg [I 0, I 0, I 0]) (fun _ hz => (.load rfl rfl (.box (hz _ _ rfl rfl) rfl) rfl)) ?_
       refine DAny.only (i := 2) rfl (by kernel_rfl) (.store (z := Obj.box [I a44.Id, I a44.Tenant, I a44.Prog, I a44.Pc, I (IntKind.i64.wrap (a44.Unit + 1)), I a44.Keeps.a0, I a44.Keeps.a1, I a44.Keeps.a2, I a44.Keeps.a3, I a44.State, I (IntKind.i64.wrap (a44.Ran + 1))]) rfl rfl rfl rfl rfl rfl rfl (.boxM (c := 11) rfl rfl (Nat.le_of_ble_eq_true rfl) rfl) rfl ?_)
       refine DAny.only (i := 3) rfl (by kernel_rfl) (.store (z := Obj.box [I 0, I 0, I 0]) rfl rfl rfl rfl rfl rfl rfl (.boxM (c := 3) rfl rfl (Nat.le_of_ble_eq_true rfl) rfl) rfl ?_)
       refine DT 4 [[4], [5]] rfl rfl (fun _ hz => (.fn rfl)) ?_
       refine DAny.nil (by kernel_rfl) ?_
       repeat first|apply sq|apply sk|with_reducible first|apply tn|apply bn
       refine Safe.ret ?_
       repeat (first | with_reducible refine thenQ.r ?_ | with_reducible refine blockQ.r ?_)
       obtain rfl := Option.some.inj h
       exact retQ.gen (vs := [V.agg [I a44.Id, I a44.Tenant, I a44.Prog, I a44.Pc, I (IntKind.i64.wrap (a44.Unit + 1)), I a44.Keeps.a0, I a44.Keeps.a1, I a44.Keeps.a2, I a44.Keeps.a3, I a44.State, I (IntKind.i64.wrap (a44.Ran + 1))], V.agg [I 0, I 0, I 0], I 0]) rfl (.cell (v := V.agg [I a44.Id, I a44.Tenant, I a44.Prog, I a44.Pc, I (IntKind.i64.wrap (a44.Unit + 1)), I a44.Keeps.a0, I a44.Keeps.a1, I a44.Keeps.a2, I a44.Keeps.a3, I a44.State, I (IntKind.i64.wrap (a44.Ran + 1))]) rfl rfl (.box rfl rfl) rfl (.cell (v := V.agg [I 0, I 0, I 0]) rfl rfl (.box rfl rfl) rfl (.tmp rfl .nil))) (.free rfl) (by simp) (.inr rfl)
      ·skip
       refine Safe.condN rfl hc1231 ?_
       repeat (first | refine Safe.skip ?_ | with_reducible refine thenQ.n ?_ | with_reducible refine blockQ.n ?_)
       exact Safe.got (HJ1229 (IntKind.i64.wrap (a44.Unit + 1), 0, 0, 0) h) (.cov ⟨rfl, rfl, (ut (ut (ut (ut (ut upT_nil))))), (uo (uo (uo (uo upOb_nil)))), upOut_nil, rfl⟩)
     ·skip
      refine Safe.condN rfl hc1230 ?_
      repeat (first | refine Safe.skip ?_ | with_reducible refine thenQ.n ?_ | with_reducible refine blockQ.n ?_)
      exact Safe.got (HJ1229 (a44.Unit, x50.Op, x50.A, x50.B) h) (.cov ⟨rfl, rfl, (ut (ut (ut (ut (ut upT_nil))))), (uo (uo (uo (uo upOb_nil)))), upOut_nil, rfl⟩)

def go_trace_Held (a52 : Int) : Int :=
 if (a52 == 4) = true then
  3
 else
  if (a52 == 5) = true then
   4
  else
   if (a52 == 6) = true then
    5
   else
    if (a52 == 7) = true then
     6
    else
     0

theorem go_trace_Held_sc (a52 : Int) (r : Int) (h : go_trace_Held a52 = r) : SC Tryd.prog gl 22 [I a52] (I r) := by
 rw [go_trace_Held] at h
 refine SC.of E_good Tryd.func22 rfl (fun _ _ => Tryd.call22 _ _) rfl ?_
 repeat first|apply sq|apply sk|with_reducible first|apply tn|apply bn
 refine Safe.region ?_
 refine Qf E_good ?_
 refine SafeOps.nil ?_
 repeat first|apply sq|apply sk|with_reducible first|apply tn|apply bn
 refine Safe.region ?_
 refine Qf E_good ?_
 refine SafeOps.nil ?_
 repeat first|apply sq|apply sk|with_reducible first|apply tn|apply bn
 refine Safe.block ?_
 repeat first|apply sq|apply sk|with_reducible first|apply tn|apply bn
 refine Safe.region ?_
 refine Q0 E_good rfl (v := V.bool (a52 == 4)) (.fn rfl) ?_
 refine Qf E_good ?_
 refine SafeOps.nil ?_
 repeat first|apply sq|apply sk|with_reducible first|apply tn|apply bn
 refine ifG h (fun hc1262 h => ?_) (fun hc1262 h => ?_)
 ·skip
  refine Safe.condK rfl hc1262 ?_
  repeat first|apply sq|apply sk|with_reducible first|apply tn|apply bn
  refine Safe.region ?_
  refine Qf E_good ?_
  refine SafeOps.nil ?_
  repeat first|apply sq|apply sk|with_reducible first|apply tn|apply bn
  refine Safe.ret ?_
  repeat (first | with_reducible refine thenQ.r ?_ | with_reducible refine blockQ.r ?_)
  obtain rfl := h
  exact retQ.gen (vs := [I 3]) rfl (.tmp rfl .nil) (.free rfl) (by simp) (.inr rfl)
 ·skip
  refine Safe.condN rfl hc1262 ?_
  repeat first|apply sq|apply sk|with_reducible first|apply tn|apply bn
  refine Safe.region ?_
  refine Q0 E_good rfl (v := V.bool (a52 == 5)) (.fn rfl) ?_
  refine Qf E_good ?_
  refine SafeOps.nil ?_
  repeat first|apply sq|apply sk|with_reducible first|apply tn|apply bn
  refine ifG h (fun hc1263 h => ?_) (fun hc1263 h => ?_)
  ·skip
   refine Safe.condK rfl hc1263 ?_
   repeat first|apply sq|apply sk|with_reducible first|apply tn|apply bn
   refine Safe.region ?_
   refine Qf E_good ?_
   refine SafeOps.nil ?_
   repeat first|apply sq|apply sk|with_reducible first|apply tn|apply bn
   refine Safe.ret ?_
   repeat (first | with_reducible refine thenQ.r ?_ | with_reducible refine blockQ.r ?_)
   obtain rfl := h
   exact retQ.gen (vs := [I 4]) rfl (.tmp rfl .nil) (.free rfl) (by simp) (.inr rfl)
  ·skip
   refine Safe.condN rfl hc1263 ?_
   repeat first|apply sq|apply sk|with_reducible first|apply tn|apply bn
   refine Safe.region ?_
   refine Q0 E_good rfl (v := V.bool (a52 == 6)) (.fn rfl) ?_
   refine Qf E_good ?_
   refine SafeOps.nil ?_
   repeat first|apply sq|apply sk|with_reducible first|apply tn|apply bn
   refine ifG h (fun hc1264 h => ?_) (fun hc1264 h => ?_)
   ·skip
    refine Safe.condK rfl hc1264 ?_
    repeat first|apply sq|apply sk|with_reducible first|apply tn|apply bn
    refine Safe.region ?_
    refine Qf E_good ?_
    refine SafeOps.nil ?_
    repeat first|apply sq|apply sk|with_reducible first|apply tn|apply bn
    refine Safe.ret ?_
    repeat (first | with_reducible refine thenQ.r ?_ | with_reducible refine blockQ.r ?_)
    obtain rfl := h
    exact retQ.gen (vs := [I 5]) rfl (.tmp rfl .nil) (.free rfl) (by simp) (.inr rfl)
   ·skip
    refine Safe.condN rfl hc1264 ?_
    repeat first|apply sq|apply sk|with_reducible first|apply tn|apply bn
    refine Safe.region ?_
    refine Q0 E_good rfl (v := V.bool (a52 == 7)) (.fn rfl) ?_
    refine Qf E_good ?_
    refine SafeOps.nil ?_
    repeat first|apply sq|apply sk|with_reducible first|apply tn|apply bn
    refine ifG h (fun hc1265 h => ?_) (fun hc1265 h => ?_)
    ·skip
     refine Safe.condK rfl hc1265 ?_
     repeat first|apply sq|apply sk|with_reducible first|apply tn|apply bn
     refine Safe.region ?_
     refine Qf E_good ?_
     refine SafeOps.nil ?_
     repeat first|apply sq|apply sk|with_reducible first|apply tn|apply bn
     refine Safe.ret ?_
     repeat (first | with_reducible refine thenQ.r ?_ | with_reducible refine blockQ.r ?_)
     obtain rfl := h
     exact retQ.gen (vs := [I 6]) rfl (.tmp rfl .nil) (.free rfl) (by simp) (.inr rfl)
    ·skip
     refine Safe.condN rfl hc1265 ?_
     repeat first|apply sq|apply sk|with_reducible first|apply tn|apply bn
     refine Safe.region ?_
     refine Qf E_good ?_
     refine SafeOps.nil ?_
     repeat first|apply sq|apply sk|with_reducible first|apply tn|apply bn
     refine Safe.ret ?_
     repeat (first | with_reducible refine thenQ.r ?_ | with_reducible refine blockQ.r ?_)
     obtain rfl := h
     exact retQ.gen (vs := [I 0]) rfl (.tmp rfl .nil) (.free rfl) (by simp) (.inr rfl)

def go_life_Waits (a53 : Int) : Bool :=
 ((decide (a53 ≥ 3)) && (decide (a53 ≤ 6)))

theorem go_life_Waits_sc (a53 : Int) (r : Bool) (h : go_life_Waits a53 = r) : SC Tryd.prog gl 45 [I a53] (V.bool r) := by
 rw [go_life_Waits] at h
 refine SC.of E_good Tryd.func45 rfl (fun _ _ => Tryd.call45 _ _) rfl ?_
 repeat first|apply sq|apply sk|with_reducible first|apply tn|apply bn
 refine Safe.region ?_
 refine Qf E_good ?_
 refine SafeOps.nil ?_
 repeat first|apply sq|apply sk|with_reducible first|apply tn|apply bn
 refine Safe.region ?_
 refine Qf E_good ?_
 refine Q0 E_good rfl (v := V.bool (decide (a53 ≥ 3))) (.fn rfl) ?_
 refine Qf E_good ?_
 refine SafeOps.bjoin 3 8 (b := ((decide (a53 ≥ 3)) && (decide (a53 ≤ 6)))) (b1 := decide (a53 ≤ 6)) (b0 := false) (fun hc1270 K => ?_) (fun hc1270 K => ?_) bj_and ?_
 ·skip
  refine qT E_good hc1270 (.fn rfl) ?_
  refine qT E_good hc1270 (v := V.bool (decide (a53 ≤ 6))) (.fn rfl) ?_
  refine Q0 E_good rfl (v := V.bool (decide (a53 ≤ 6))) (.pickK rfl hc1270 rfl) ?_
  exact SafeOps.drop' 3 rfl rfl rfl K
 ·skip
  refine sT hc1270 ?_
  refine sT hc1270 ?_
  refine Q0 E_good rfl (v := V.bool false) (.pickK rfl hc1270 rfl) ?_
  exact SafeOps.drop' 3 rfl rfl rfl K
 refine Qf E_good ?_
 refine SafeOps.nil ?_
 repeat first|apply sq|apply sk|with_reducible first|apply tn|apply bn
 refine Safe.ret ?_
 repeat (first | with_reducible refine thenQ.r ?_ | with_reducible refine blockQ.r ?_)
 obtain rfl := h
 exact retQ.gen (vs := [V.bool ((decide (a53 ≥ 3)) && (decide (a53 ≤ 6)))]) rfl (.tmp rfl .nil) (.free rfl) (by simp) (.inr rfl)
end Go.Proofs.YtpkegoikocfchaaDoor
