/- Helper lemmas for the claim's theorem: an abstract machine over the model, proved sound; no condition beyond each lemma's own. -/
import Derived.Test.YtoapmmcoaggekaaSEnv
import Derived.Test.YtoapmmcoaggekaaAmH
import Derived.Test.YtoapmmcoaggekaaAmI
import Derived.Test.YtoapmmcoaggekaaAmJ
import Derived.Test.YtoapmmcoaggekaaAmK
set_option linter.unusedVariables false
set_option linter.unusedSimpArgs false
set_option linter.unnecessarySimpa false
set_option linter.unusedSectionVars false
namespace Go.Proofs.Ytoapmmcoaggekaa
open Go Go.AM
set_option maxRecDepth 100000
set_option maxHeartbeats 1000000
set_option linter.unusedVariables false
set_option linter.unusedSimpArgs false
variable {gl : List (Nat × List V)}
@[ext] structure api_Deque where
 Base : Int
 Cap : Int
 deriving Inhabited
def api_Deque.cells (x : api_Deque) : List V := [I x.Base, I x.Cap]
def api_Deque.zero : api_Deque := ⟨0, 0⟩
def api_Deque.beq (x y : api_Deque) : Bool := ((x.Base == y.Base) && ((x.Cap == y.Cap) && true))

@[ext] structure api_Hand where
 Kind : Int
 Pc : Int
 V : Int
 T : Int
 B : Int
 Won : Bool
 State : Int
 deriving Inhabited
def api_Hand.cells (x : api_Hand) : List Go.AM.V := [Go.AM.I x.Kind, Go.AM.I x.Pc, Go.AM.I x.V, Go.AM.I x.T, Go.AM.I x.B, Go.AM.V.bool x.Won, Go.AM.I x.State]
def api_Hand.zero : api_Hand := ⟨0, 0, 0, 0, 0, false, 0⟩
def api_Hand.beq (x y : api_Hand) : Bool := ((x.Kind == y.Kind) && ((x.Pc == y.Pc) && ((x.V == y.V) && ((x.T == y.T) && ((x.B == y.B) && ((x.Won == y.Won) && ((x.State == y.State) && true)))))))

def go_ring_accesses (a0 : Int) : List Nat :=
 ((mget (mput (mput (mput [] 1 [37, 38, 39, 40]) 2 [41, 42, 43, 44, 45, 46, 47]) 3 [37, 48, 49, 50]) a0).getD [])

theorem go_ring_accesses_sc (a0 : Int) (r : List Nat) (h : go_ring_accesses a0 = r) : SC Try.prog gl 22 [I a0] (V.sl 1 (rws (fun f : Nat => [V.fn f []]) r)) := by
 rw [go_ring_accesses] at h
 refine SC.of E_good Try.func22 rfl (fun _ _ => Try.call22 _ _) rfl ?_
 repeat first|apply sq|apply sk|with_reducible first|apply tn|apply bn
 refine Safe.region ?_
 refine Qf E_good ?_
 refine SafeOps.nil ?_
 repeat first|apply sq|apply sk|with_reducible first|apply tn|apply bn
 refine Safe.region ?_
 refine SafeOps.quiet1 E_good rfl rfl rfl (.mkMapM (fun n : Int => I n) (fun l : List Nat => V.sl 1 (rws (fun f : Nat => [V.fn f []]) l))) rfl ?_
 refine SafeOps.quiet1 E_good rfl rfl rfl (.litM (f := (fun f : Nat => [V.fn f []])) (xs := [37, 38, 39, 40]) rfl rfl (by decide) rfl rfl rfl rfl rfl) rfl ?_
 refine SafeOps.freeze [4] rfl ?_
 refine SafeOps.see 4 (u := V.sl 1 (rws (fun f : Nat => [V.fn f []]) [37, 38, 39, 40])) rfl (.full rfl rfl) ?_
 refine SafeOps.mputM (fun n : Int => I n) (fun l : List Nat => V.sl 1 (rws (fun f : Nat => [V.fn f []]) l)) [] 1 [37, 38, 39, 40] E_good (keyI .i64) rfl (.inr rfl) rfl rfl rfl rfl rfl rfl rfl rfl rfl ?_
 refine SafeOps.quiet1 E_good rfl rfl rfl (.litM (f := (fun f : Nat => [V.fn f []])) (xs := [41, 42, 43, 44, 45, 46, 47]) rfl rfl (by decide) rfl rfl rfl rfl rfl) rfl ?_
 refine SafeOps.freeze [5] rfl ?_
 refine SafeOps.see 5 (u := V.sl 1 (rws (fun f : Nat => [V.fn f []]) [41, 42, 43, 44, 45, 46, 47])) rfl (.full rfl rfl) ?_
 refine SafeOps.mputM (fun n : Int => I n) (fun l : List Nat => V.sl 1 (rws (fun f : Nat => [V.fn f []]) l)) (mput [] 1 [37, 38, 39, 40]) 2 [41, 42, 43, 44, 45, 46, 47] E_good (keyI .i64) rfl (.inr rfl) rfl rfl rfl rfl rfl rfl rfl rfl rfl ?_
 refine SafeOps.quiet1 E_good rfl rfl rfl (.litM (f := (fun f : Nat => [V.fn f []])) (xs := [37, 48, 49, 50]) rfl rfl (by decide) rfl rfl rfl rfl rfl) rfl ?_
 refine SafeOps.freeze [6] rfl ?_
 refine SafeOps.see 6 (u := V.sl 1 (rws (fun f : Nat => [V.fn f []]) [37, 48, 49, 50])) rfl (.full rfl rfl) ?_
 refine SafeOps.mputM (fun n : Int => I n) (fun l : List Nat => V.sl 1 (rws (fun f : Nat => [V.fn f []]) l)) (mput (mput [] 1 [37, 38, 39, 40]) 2 [41, 42, 43, 44, 45, 46, 47]) 3 [37, 48, 49, 50] E_good (keyI .i64) rfl (.inr rfl) rfl rfl rfl rfl rfl rfl rfl rfl rfl ?_
 refine Qf E_good ?_
 refine Qf E_good ?_
 refine SafeOps.lookSl (fun n : Int => I n) (fun f : Nat => [V.fn f []]) 1 (m := mput (mput (mput [] 1 [37, 38, 39, 40]) 2 [41, 42, 43, 44, 45, 46, 47]) 3 [37, 48, 49, 50]) (kk := a0) (keyI .i64) E_good rfl rfl rfl rfl rfl rfl rfl rfl rfl rfl rfl rfl rfl ?_
 refine Qf E_good ?_
 refine SafeOps.nil ?_
 repeat first|apply sq|apply sk|with_reducible first|apply tn|apply bn
 refine Safe.ret ?_
 repeat (first | with_reducible refine thenQ.r ?_ | with_reducible refine blockQ.r ?_)
 obtain rfl := h
 exact retQ.gen (vs := [V.sl 1 (rws (fun f : Nat => [V.fn f []]) ((mget (mput (mput (mput [] 1 [37, 38, 39, 40]) 2 [41, 42, 43, 44, 45, 46, 47]) 3 [37, 48, 49, 50]) a0).getD []))]) rfl (.tmp rfl .nil) (.free rfl) (by simp) (.inr rfl)

def go_ring_Start (a1 : Int) (a2 : Int) : api_Hand × Int :=
 letO (go_ring_accesses a1) fun x3 =>
 if ((x3.length : Int) == 0) = true then
  (api_Hand.zero, 1)
 else
  ((api_Hand.mk a1 0 a2 0 0 false 0), 0)

theorem go_ring_Start_sc (a1 : Int) (a2 : Int) (r : api_Hand × Int) (h : go_ring_Start a1 a2 = r) : SC Try.prog gl 12 [I a1, I a2] (V.tup [V.agg [I r.1.Kind, I r.1.Pc, I r.1.V, I r.1.T, I r.1.B, V.bool r.1.Won, I r.1.State], I r.2]) := by
 rw [go_ring_Start] at h
 refine SC.of E_good Try.func12 rfl (fun _ _ => Try.call12 _ _) rfl ?_
 repeat first|apply sq|apply sk|with_reducible first|apply tn|apply bn
 refine Safe.region ?_
 refine SafeOps.quiet1 E_good rfl rfl rfl (.alloc rfl rfl) rfl ?_
 refine Qf E_good ?_
 refine SafeOps.nil ?_
 repeat first|apply sq|apply sk|with_reducible first|apply tn|apply bn
 refine Safe.region ?_
 refine Qf E_good ?_
 refine letG h ?_
 intro x3 he15 h
 refine Q0 E_good rfl (v := V.sl 1 (rws (fun f : Nat => [V.fn f []]) x3)) (.callP rfl rfl (go_ring_accesses_sc a1 _ he15) rfl) ?_
 refine Q0 E_good rfl (v := I (x3.length : Int)) (.fnE rfl lenE) ?_
 refine Q0 E_good rfl (v := V.bool ((x3.length : Int) == 0)) (.fn rfl) ?_
 refine SafeOps.nil ?_
 repeat first|apply sq|apply sk|with_reducible first|apply tn|apply bn
 refine ifG h (fun hc16 h => ?_) (fun hc16 h => ?_)
 ·skip
  refine Safe.condK rfl hc16 ?_
  repeat first|apply sq|apply sk|with_reducible first|apply tn|apply bn
  refine Safe.region ?_
  refine Q0 E_good rfl (v := V.agg [I 0, I 0, I 0, I 0, I 0, V.bool false, I 0]) (.fn rfl) ?_
  refine SafeOps.store (z := Obj.box [I 0, I 0, I 0, I 0, I 0, V.bool false, I 0]) E_good rfl rfl rfl rfl rfl rfl rfl (.boxM (c := 7) rfl rfl (Nat.le_of_ble_eq_true rfl) rfl) ?_
  refine Qf E_good ?_
  refine SafeOps.nil ?_
  repeat first|apply sq|apply sk|with_reducible first|apply tn|apply bn
  refine Safe.ret ?_
  repeat (first | with_reducible refine thenQ.r ?_ | with_reducible refine blockQ.r ?_)
  obtain rfl := h
  exact retQ.gen (vs := [V.agg [I 0, I 0, I 0, I 0, I 0, V.bool false, I 0], I 1]) rfl (.cell (v := V.agg [I 0, I 0, I 0, I 0, I 0, V.bool false, I 0]) rfl rfl (.box rfl rfl) rfl (.tmp rfl .nil)) (.free rfl) (by simp) (.inr rfl)
 ·skip
  refine Safe.condN rfl hc16 ?_
  repeat first|apply sq|apply sk|with_reducible first|apply tn|apply bn
  refine Safe.region ?_
  refine Qf E_good ?_
  refine Qf E_good ?_
  refine Q0 E_good rfl (v := V.agg [I a1, I 0, I a2, I 0, I 0, V.bool false, I 0]) (.fn rfl) ?_
  refine SafeOps.store (z := Obj.box [I a1, I 0, I a2, I 0, I 0, V.bool false, I 0]) E_good rfl rfl rfl rfl rfl rfl rfl (.boxM (c := 7) rfl rfl (Nat.le_of_ble_eq_true rfl) rfl) ?_
  refine Qf E_good ?_
  refine SafeOps.nil ?_
  repeat first|apply sq|apply sk|with_reducible first|apply tn|apply bn
  refine Safe.ret ?_
  repeat (first | with_reducible refine thenQ.r ?_ | with_reducible refine blockQ.r ?_)
  obtain rfl := h
  exact retQ.gen (vs := [V.agg [I a1, I 0, I a2, I 0, I 0, V.bool false, I 0], I 0]) rfl (.cell (v := V.agg [I a1, I 0, I a2, I 0, I 0, V.bool false, I 0]) rfl rfl (.box rfl rfl) rfl (.tmp rfl .nil)) (.free rfl) (by simp) (.inr rfl)

def go_cell_Check (a4 : List Int) : Int :=
 if (decide ((a4.length : Int) > 65536)) = true then
  1
 else
  0

theorem go_cell_Check_sc (a4 : List Int) (r : Int) (h : go_cell_Check a4 = r) : SC Try.prog gl 35 [V.sl 1 (rws (fun n => [I n]) a4)] (I r) := by
 rw [go_cell_Check] at h
 refine SC.of E_good Try.func35 rfl (fun _ _ => Try.call35 _ _) rfl ?_
 repeat first|apply sq|apply sk|with_reducible first|apply tn|apply bn
 refine Safe.region ?_
 refine Qf E_good ?_
 refine SafeOps.nil ?_
 repeat first|apply sq|apply sk|with_reducible first|apply tn|apply bn
 refine Safe.region ?_
 refine Qf E_good ?_
 refine Q0 E_good rfl (v := I (a4.length : Int)) (.fnE rfl lenE) ?_
 refine Q0 E_good rfl (v := V.bool (decide ((a4.length : Int) > 65536))) (.fn rfl) ?_
 refine SafeOps.nil ?_
 repeat first|apply sq|apply sk|with_reducible first|apply tn|apply bn
 refine ifG h (fun hc27 h => ?_) (fun hc27 h => ?_)
 ·skip
  refine Safe.condK rfl hc27 ?_
  repeat first|apply sq|apply sk|with_reducible first|apply tn|apply bn
  refine Safe.region ?_
  refine Qf E_good ?_
  refine SafeOps.nil ?_
  repeat first|apply sq|apply sk|with_reducible first|apply tn|apply bn
  refine Safe.ret ?_
  repeat (first | with_reducible refine thenQ.r ?_ | with_reducible refine blockQ.r ?_)
  obtain rfl := h
  exact retQ.gen (vs := [I 1]) rfl (.tmp rfl .nil) (.free rfl) (by simp) (.inr rfl)
 ·skip
  refine Safe.condN rfl hc27 ?_
  repeat first|apply sq|apply sk|with_reducible first|apply tn|apply bn
  refine Safe.region ?_
  refine Qf E_good ?_
  refine SafeOps.nil ?_
  repeat first|apply sq|apply sk|with_reducible first|apply tn|apply bn
  refine Safe.ret ?_
  repeat (first | with_reducible refine thenQ.r ?_ | with_reducible refine blockQ.r ?_)
  obtain rfl := h
  exact retQ.gen (vs := [I 0]) rfl (.tmp rfl .nil) (.free rfl) (by simp) (.inr rfl)

def go_ring_Check (a5 : List Int) (a6 : api_Deque) : Int :=
 if ((((((go_cell_Check a5) != 0) || (decide (a6.Cap < 1))) || (decide (a6.Cap > 1024))) || (decide (a6.Base < 0))) || (decide (a6.Base > (IntKind.i64.wrap ((IntKind.i64.wrap ((a5.length : Int) - a6.Cap)) - 2))))) = true then
  1
 else
  0

theorem go_ring_Check_sc (a5 : List Int) (a6 : api_Deque) (r : Int) (h : go_ring_Check a5 a6 = r) : SC Try.prog gl 17 [V.sl 1 (rws (fun n => [I n]) a5), V.agg [I a6.Base, I a6.Cap]] (I r) := by
 rw [go_ring_Check] at h
 refine SC.of E_good Try.func17 rfl (fun _ _ => Try.call17 _ _) rfl ?_
 repeat first|apply sq|apply sk|with_reducible first|apply tn|apply bn
 refine Safe.region ?_
 refine SafeOps.quiet1 E_good rfl rfl rfl (.box rfl rfl) rfl ?_
 refine Qf E_good ?_
 refine SafeOps.nil ?_
 repeat first|apply sq|apply sk|with_reducible first|apply tn|apply bn
 refine Safe.region ?_
 refine Qf E_good ?_
 refine Q0 E_good rfl (v := I (go_cell_Check a5)) (.callP rfl rfl (go_cell_Check_sc a5 _ rfl) rfl) ?_
 refine Q0 E_good rfl (v := V.bool ((go_cell_Check a5) != 0)) (.fn rfl) ?_
 refine Qf E_good ?_
 refine SafeOps.bjoin 4 12 (b := (((go_cell_Check a5) != 0) || (decide (a6.Cap < 1)))) (b1 := true) (b0 := decide (a6.Cap < 1)) (fun hc33 K => ?_) (fun hc33 K => ?_) bj_or ?_
 ·skip
  refine sF hc33 ?_
  refine sF hc33 ?_
  refine sF hc33 ?_
  refine Q0 E_good rfl (v := V.bool true) (.pickK rfl hc33 rfl) ?_
  exact SafeOps.drop' 4 rfl rfl rfl K
 ·skip
  refine qF E_good hc33 (v := V.ptr [3] 0 1) (.fn rfl) ?_
  refine qF E_good hc33 (v := I a6.Cap) (.load rfl rfl (.box rfl rfl) rfl) ?_
  refine qF E_good hc33 (v := V.bool (decide (a6.Cap < 1))) (.fn rfl) ?_
  refine Q0 E_good rfl (v := V.bool (decide (a6.Cap < 1))) (.pickK rfl hc33 rfl) ?_
  exact SafeOps.drop' 4 rfl rfl rfl K
 refine Qf E_good ?_
 refine SafeOps.bjoin 4 17 (b := ((((go_cell_Check a5) != 0) || (decide (a6.Cap < 1))) || (decide (a6.Cap > 1024)))) (b1 := true) (b0 := decide (a6.Cap > 1024)) (fun hc34 K => ?_) (fun hc34 K => ?_) bj_or ?_
 ·skip
  refine sF hc34 ?_
  refine sF hc34 ?_
  refine sF hc34 ?_
  refine Q0 E_good rfl (v := V.bool true) (.pickK rfl hc34 rfl) ?_
  exact SafeOps.drop' 4 rfl rfl rfl K
 ·skip
  refine qF E_good hc34 (v := V.ptr [3] 0 1) (.fn rfl) ?_
  refine qF E_good hc34 (v := I a6.Cap) (.load rfl rfl (.box rfl rfl) rfl) ?_
  refine qF E_good hc34 (v := V.bool (decide (a6.Cap > 1024))) (.fn rfl) ?_
  refine Q0 E_good rfl (v := V.bool (decide (a6.Cap > 1024))) (.pickK rfl hc34 rfl) ?_
  exact SafeOps.drop' 4 rfl rfl rfl K
 refine Qf E_good ?_
 refine SafeOps.bjoin 4 22 (b := (((((go_cell_Check a5) != 0) || (decide (a6.Cap < 1))) || (decide (a6.Cap > 1024))) || (decide (a6.Base < 0)))) (b1 := true) (b0 := decide (a6.Base < 0)) (fun hc35 K => ?_) (fun hc35 K => ?_) bj_or ?_
 ·skip
  refine sF hc35 ?_
  refine sF hc35 ?_
  refine sF hc35 ?_
  refine Q0 E_good rfl (v := V.bool true) (.pickK rfl hc35 rfl) ?_
  exact SafeOps.drop' 4 rfl rfl rfl K
 ·skip
  refine qF E_good hc35 (v := V.ptr [3] 0 0) (.fn rfl) ?_
  refine qF E_good hc35 (v := I a6.Base) (.load rfl rfl (.box rfl rfl) rfl) ?_
  refine qF E_good hc35 (v := V.bool (decide (a6.Base < 0))) (.fn rfl) ?_
  refine Q0 E_good rfl (v := V.bool (decide (a6.Base < 0))) (.pickK rfl hc35 rfl) ?_
  exact SafeOps.drop' 4 rfl rfl rfl K
 refine Qf E_good ?_
 refine SafeOps.bjoin 10 33 (b := ((((((go_cell_Check a5) != 0) || (decide (a6.Cap < 1))) || (decide (a6.Cap > 1024))) || (decide (a6.Base < 0))) || (decide (a6.Base > (IntKind.i64.wrap ((IntKind.i64.wrap ((a5.length : Int) - a6.Cap)) - 2)))))) (b1 := true) (b0 := decide (a6.Base > (IntKind.i64.wrap ((IntKind.i64.wrap ((a5.length : Int) - a6.Cap)) - 2)))) (fun hc36 K => ?_) (fun hc36 K => ?_) bj_or ?_
 ·skip
  refine sF hc36 ?_
  refine sF hc36 ?_
  refine sF hc36 ?_
  refine sF hc36 ?_
  refine sF hc36 ?_
  refine sF hc36 ?_
  refine sF hc36 ?_
  refine sF hc36 ?_
  refine sF hc36 ?_
  refine Q0 E_good rfl (v := V.bool true) (.pickK rfl hc36 rfl) ?_
  exact SafeOps.drop' 10 rfl rfl rfl K
 ·skip
  refine qF E_good hc36 (v := V.ptr [3] 0 0) (.fn rfl) ?_
  refine qF E_good hc36 (v := I a6.Base) (.load rfl rfl (.box rfl rfl) rfl) ?_
  refine qF E_good hc36 (.fn rfl) ?_
  refine qF E_good hc36 (v := I (a5.length : Int)) (.fnE rfl lenE) ?_
  refine qF E_good hc36 (v := V.ptr [3] 0 1) (.fn rfl) ?_
  refine qF E_good hc36 (v := I a6.Cap) (.load rfl rfl (.box rfl rfl) rfl) ?_
  refine qF E_good hc36 (v := I (IntKind.i64.wrap ((a5.length : Int) - a6.Cap))) (.fn rfl) ?_
  refine qF E_good hc36 (v := I (IntKind.i64.wrap ((IntKind.i64.wrap ((a5.length : Int) - a6.Cap)) - 2))) (.fn rfl) ?_
  refine qF E_good hc36 (v := V.bool (decide (a6.Base > (IntKind.i64.wrap ((IntKind.i64.wrap ((a5.length : Int) - a6.Cap)) - 2))))) (.fn rfl) ?_
  refine Q0 E_good rfl (v := V.bool (decide (a6.Base > (IntKind.i64.wrap ((IntKind.i64.wrap ((a5.length : Int) - a6.Cap)) - 2))))) (.pickK rfl hc36 rfl) ?_
  exact SafeOps.drop' 10 rfl rfl rfl K
 refine SafeOps.nil ?_
 repeat first|apply sq|apply sk|with_reducible first|apply tn|apply bn
 refine ifG h (fun hc37 h => ?_) (fun hc37 h => ?_)
 ·skip
  refine Safe.condK rfl hc37 ?_
  repeat first|apply sq|apply sk|with_reducible first|apply tn|apply bn
  refine Safe.region ?_
  refine Qf E_good ?_
  refine SafeOps.nil ?_
  repeat first|apply sq|apply sk|with_reducible first|apply tn|apply bn
  refine Safe.ret ?_
  repeat (first | with_reducible refine thenQ.r ?_ | with_reducible refine blockQ.r ?_)
  obtain rfl := h
  exact retQ.gen (vs := [I 1]) rfl (.tmp rfl .nil) (.free rfl) (by simp) (.inr rfl)
 ·skip
  refine Safe.condN rfl hc37 ?_
  repeat first|apply sq|apply sk|with_reducible first|apply tn|apply bn
  refine Safe.region ?_
  refine Qf E_good ?_
  refine SafeOps.nil ?_
  repeat first|apply sq|apply sk|with_reducible first|apply tn|apply bn
  refine Safe.ret ?_
  repeat (first | with_reducible refine thenQ.r ?_ | with_reducible refine blockQ.r ?_)
  obtain rfl := h
  exact retQ.gen (vs := [I 0]) rfl (.tmp rfl .nil) (.free rfl) (by simp) (.inr rfl)

def go_ring_may (a7 : api_Hand) : Bool :=
 if (decide (a7.Pc ≥ 0)) = true then
  letO (go_ring_accesses a7.Kind) fun x8 =>
  if (decide (a7.Pc < (x8.length : Int))) = true then
   if (decide ((if a7.B < a7.T then a7.B else a7.T) ≥ (-1))) = true then
    if (decide ((if a7.B > a7.T then a7.B else a7.T) ≤ 1099511627776)) = true then
     if (decide (a7.State ≥ 0)) = true then
      decide (a7.State ≤ 4)
     else
      false
    else
     false
   else
    false
  else
   false
 else
  false

theorem go_ring_may_sc (a7 : api_Hand) (r : Bool) (h : go_ring_may a7 = r) : SC Try.prog gl 21 [V.agg [I a7.Kind, I a7.Pc, I a7.V, I a7.T, I a7.B, V.bool a7.Won, I a7.State]] (V.bool r) := by
 rw [go_ring_may] at h
 refine SC.of E_good Try.func21 rfl (fun _ _ => Try.call21 _ _) rfl ?_
 repeat first|apply sq|apply sk|with_reducible first|apply tn|apply bn
 refine Safe.region ?_
 refine SafeOps.quiet1 E_good rfl rfl rfl (.box rfl rfl) rfl ?_
 refine Qf E_good ?_
 refine SafeOps.nil ?_
 repeat first|apply sq|apply sk|with_reducible first|apply tn|apply bn
 refine Safe.regionD (n := 39) [] [] E_good mixed rfl ?_
 refine DT 0 [] rfl rfl (v := V.ptr [1] 0 1) (fun _ hz => (.fn rfl)) ?_
 refine DT 1 [] rfl rfl (v := I a7.Pc) (fun _ hz => (.load rfl rfl (.box (hz _ _ rfl rfl) rfl) rfl)) ?_
 refine DT 2 [] rfl rfl (v := V.bool (decide (a7.Pc ≥ 0))) (fun _ hz => (.fn rfl)) ?_
 refine DT 3 [] rfl rfl (fun _ hz => (.fn rfl)) ?_
 refine ifG h (fun hc47 h => ?_) (fun hc47 h => ?_)
 ·skip
  refine DAny.take (i := 4) rfl (by kernel_rfl) [] (by kernel_rfl) (by kernel_rfl) (by kernel_rfl) (congrArg some hc47) rfl rfl (v := V.ptr [1] 0 1) (fun _ hz => (.fn rfl)) ?_
  refine DAny.take (i := 5) rfl (by kernel_rfl) [] (by kernel_rfl) (by kernel_rfl) (by kernel_rfl) (congrArg some hc47) rfl rfl (v := I a7.Pc) (fun _ hz => (.load rfl rfl (.box (hz _ _ rfl rfl) rfl) rfl)) ?_
  refine DAny.take (i := 6) rfl (by kernel_rfl) [] (by kernel_rfl) (by kernel_rfl) (by kernel_rfl) (congrArg some hc47) rfl rfl (v := V.ptr [1] 0 0) (fun _ hz => (.fn rfl)) ?_
  refine DAny.take (i := 7) rfl (by kernel_rfl) [] (by kernel_rfl) (by kernel_rfl) (by kernel_rfl) (congrArg some hc47) rfl rfl (v := I a7.Kind) (fun _ hz => (.load rfl rfl (.box (hz _ _ rfl rfl) rfl) rfl)) ?_
  refine letG h ?_
  intro x8 he49 h
  refine DAny.take (i := 8) rfl (by kernel_rfl) [] (by kernel_rfl) (by kernel_rfl) (by kernel_rfl) (congrArg some hc47) rfl rfl (v := V.sl 1 (rws (fun f : Nat => [V.fn f []]) x8)) (fun _ hz => (.callP rfl rfl (go_ring_accesses_sc a7.Kind _ he49) rfl)) ?_
  refine DAny.take (i := 9) rfl (by kernel_rfl) [] (by kernel_rfl) (by kernel_rfl) (by kernel_rfl) (congrArg some hc47) rfl rfl (v := I (x8.length : Int)) (fun _ hz => (.fnE rfl lenE)) ?_
  refine DAny.take (i := 10) rfl (by kernel_rfl) [] (by kernel_rfl) (by kernel_rfl) (by kernel_rfl) (congrArg some hc47) rfl rfl (v := V.bool (decide (a7.Pc < (x8.length : Int)))) (fun _ hz => (.fn rfl)) ?_
  refine DT 11 [] rfl rfl (v := V.bool (decide (a7.Pc < (x8.length : Int)))) (fun _ hz => (.pickK rfl hc47 rfl)) ?_
  refine DT 12 [] rfl rfl (fun _ hz => (.fn rfl)) ?_
  refine ifG h (fun hc50 h => ?_) (fun hc50 h => ?_)
  ·skip
   refine DAny.take (i := 13) rfl (by kernel_rfl) [] (by kernel_rfl) (by kernel_rfl) (by kernel_rfl) (congrArg some hc50) rfl rfl (v := V.ptr [1] 0 3) (fun _ hz => (.fn rfl)) ?_
   refine DAny.take (i := 14) rfl (by kernel_rfl) [] (by kernel_rfl) (by kernel_rfl) (by kernel_rfl) (congrArg some hc50) rfl rfl (v := I a7.T) (fun _ hz => (.load rfl rfl (.box (hz _ _ rfl rfl) rfl) rfl)) ?_
   refine DAny.take (i := 15) rfl (by kernel_rfl) [] (by kernel_rfl) (by kernel_rfl) (by kernel_rfl) (congrArg some hc50) rfl rfl (v := V.ptr [1] 0 4) (fun _ hz => (.fn rfl)) ?_
   refine DAny.take (i := 16) rfl (by kernel_rfl) [] (by kernel_rfl) (by kernel_rfl) (by kernel_rfl) (congrArg some hc50) rfl rfl (v := I a7.B) (fun _ hz => (.load rfl rfl (.box (hz _ _ rfl rfl) rfl) rfl)) ?_
   refine DAny.take (i := 17) rfl (by kernel_rfl) [] (by kernel_rfl) (by kernel_rfl) (by kernel_rfl) (congrArg some hc50) rfl rfl (v := I (if a7.B < a7.T then a7.B else a7.T)) (fun _ hz => (.fn rfl)) ?_
   refine DAny.take (i := 18) rfl (by kernel_rfl) [] (by kernel_rfl) (by kernel_rfl) (by kernel_rfl) (congrArg some hc50) rfl rfl (v := V.bool (decide ((if a7.B < a7.T then a7.B else a7.T) ≥ (-1)))) (fun _ hz => (.fn rfl)) ?_
   refine DT 19 [] rfl rfl (v := V.bool (decide ((if a7.B < a7.T then a7.B else a7.T) ≥ (-1)))) (fun _ hz => (.pickK rfl hc50 rfl)) ?_
   refine DT 20 [] rfl rfl (fun _ hz => (.fn rfl)) ?_
   refine ifG h (fun hc51 h => ?_) (fun hc51 h => ?_)
   ·skip
    refine DAny.take (i := 21) rfl (by kernel_rfl) [] (by kernel_rfl) (by kernel_rfl) (by kernel_rfl) (congrArg some hc51) rfl rfl (v := V.ptr [1] 0 3) (fun _ hz => (.fn rfl)) ?_
    refine DAny.take (i := 22) rfl (by kernel_rfl) [] (by kernel_rfl) (by kernel_rfl) (by kernel_rfl) (congrArg some hc51) rfl rfl (v := I a7.T) (fun _ hz => (.load rfl rfl (.box (hz _ _ rfl rfl) rfl) rfl)) ?_
    refine DAny.take (i := 23) rfl (by kernel_rfl) [] (by kernel_rfl) (by kernel_rfl) (by kernel_rfl) (congrArg some hc51) rfl rfl (v := V.ptr [1] 0 4) (fun _ hz => (.fn rfl)) ?_
    refine DAny.take (i := 24) rfl (by kernel_rfl) [] (by kernel_rfl) (by kernel_rfl) (by kernel_rfl) (congrArg some hc51) rfl rfl (v := I a7.B) (fun _ hz => (.load rfl rfl (.box (hz _ _ rfl rfl) rfl) rfl)) ?_
    refine DAny.take (i := 25) rfl (by kernel_rfl) [] (by kernel_rfl) (by kernel_rfl) (by kernel_rfl) (congrArg some hc51) rfl rfl (v := I (if a7.B > a7.T then a7.B else a7.T)) (fun _ hz => (.fn rfl)) ?_
    refine DAny.take (i := 26) rfl (by kernel_rfl) [] (by kernel_rfl) (by kernel_rfl) (by kernel_rfl) (congrArg some hc51) rfl rfl (v := V.bool (decide ((if a7.B > a7.T then a7.B else a7.T) ≤ 1099511627776))) (fun _ hz => (.fn rfl)) ?_
    refine DT 27 [] rfl rfl (v := V.bool (decide ((if a7.B > a7.T then a7.B else a7.T) ≤ 1099511627776))) (fun _ hz => (.pickK rfl hc51 rfl)) ?_
    refine DT 28 [] rfl rfl (fun _ hz => (.fn rfl)) ?_
    refine ifG h (fun hc52 h => ?_) (fun hc52 h => ?_)
    ·skip
     refine DAny.take (i := 29) rfl (by kernel_rfl) [] (by kernel_rfl) (by kernel_rfl) (by kernel_rfl) (congrArg some hc52) rfl rfl (v := V.ptr [1] 0 6) (fun _ hz => (.fn rfl)) ?_
     refine DAny.take (i := 30) rfl (by kernel_rfl) [] (by kernel_rfl) (by kernel_rfl) (by kernel_rfl) (congrArg some hc52) rfl rfl (v := I a7.State) (fun _ hz => (.load rfl rfl (.box (hz _ _ rfl rfl) rfl) rfl)) ?_
     refine DAny.take (i := 31) rfl (by kernel_rfl) [] (by kernel_rfl) (by kernel_rfl) (by kernel_rfl) (congrArg some hc52) rfl rfl (v := V.bool (decide (a7.State ≥ 0))) (fun _ hz => (.fn rfl)) ?_
     refine DT 32 [] rfl rfl (v := V.bool (decide (a7.State ≥ 0))) (fun _ hz => (.pickK rfl hc52 rfl)) ?_
     refine DT 33 [] rfl rfl (fun _ hz => (.fn rfl)) ?_
     refine ifG h (fun hc53 h => ?_) (fun hc53 h => ?_)
     ·skip
      refine DAny.take (i := 34) rfl (by kernel_rfl) [] (by kernel_rfl) (by kernel_rfl) (by kernel_rfl) (congrArg some hc53) rfl rfl (v := V.ptr [1] 0 6) (fun _ hz => (.fn rfl)) ?_
      refine DAny.take (i := 35) rfl (by kernel_rfl) [] (by kernel_rfl) (by kernel_rfl) (by kernel_rfl) (congrArg some hc53) rfl rfl (v := I a7.State) (fun _ hz => (.load rfl rfl (.box (hz _ _ rfl rfl) rfl) rfl)) ?_
      refine DAny.take (i := 36) rfl (by kernel_rfl) [] (by kernel_rfl) (by kernel_rfl) (by kernel_rfl) (congrArg some hc53) rfl rfl (v := V.bool (decide (a7.State ≤ 4))) (fun _ hz => (.fn rfl)) ?_
      refine DT 37 [] rfl rfl (v := V.bool (decide (a7.State ≤ 4))) (fun _ hz => (.pickK rfl hc53 rfl)) ?_
      refine DT 38 [] rfl rfl (fun _ hz => (.fn rfl)) ?_
      refine DAny.nil (by kernel_rfl) ?_
      repeat first|apply sq|apply sk|with_reducible first|apply tn|apply bn
      refine Safe.ret ?_
      repeat (first | with_reducible refine thenQ.r ?_ | with_reducible refine blockQ.r ?_)
      obtain rfl := h
      exact retQ.gen (vs := [V.bool (decide (a7.State ≤ 4))]) rfl (.tmp rfl .nil) (.free rfl) (by simp) (.inr rfl)
     ·skip
      refine DAny.takeSkip (i := 34) rfl (by kernel_rfl) [] (by kernel_rfl) (by kernel_rfl) (by kernel_rfl) (congrArg some hc53) rfl rfl ?_
      refine DAny.takeSkip (i := 35) rfl (by kernel_rfl) [] (by kernel_rfl) (by kernel_rfl) (by kernel_rfl) (congrArg some hc53) rfl rfl ?_
      refine DAny.takeSkip (i := 36) rfl (by kernel_rfl) [] (by kernel_rfl) (by kernel_rfl) (by kernel_rfl) (congrArg some hc53) rfl rfl ?_
      refine DT 37 [] rfl rfl (v := V.bool false) (fun _ hz => (.pickK rfl hc53 rfl)) ?_
      refine DT 38 [] rfl rfl (fun _ hz => (.fn rfl)) ?_
      refine DAny.nil (by kernel_rfl) ?_
      repeat first|apply sq|apply sk|with_reducible first|apply tn|apply bn
      refine Safe.ret ?_
      repeat (first | with_reducible refine thenQ.r ?_ | with_reducible refine blockQ.r ?_)
      obtain rfl := h
      exact retQ.gen (vs := [V.bool false]) rfl (.tmp rfl .nil) (.free rfl) (by simp) (.inr rfl)
    ·skip
     refine DAny.takeSkip (i := 29) rfl (by kernel_rfl) [] (by kernel_rfl) (by kernel_rfl) (by kernel_rfl) (congrArg some hc52) rfl rfl ?_
     refine DAny.takeSkip (i := 30) rfl (by kernel_rfl) [] (by kernel_rfl) (by kernel_rfl) (by kernel_rfl) (congrArg some hc52) rfl rfl ?_
     refine DAny.takeSkip (i := 31) rfl (by kernel_rfl) [] (by kernel_rfl) (by kernel_rfl) (by kernel_rfl) (congrArg some hc52) rfl rfl ?_
     refine DT 32 [] rfl rfl (v := V.bool false) (fun _ hz => (.pickK rfl hc52 rfl)) ?_
     refine DT 33 [] rfl rfl (fun _ hz => (.fn rfl)) ?_
     refine DAny.takeSkip (i := 34) rfl (by kernel_rfl) [] (by kernel_rfl) (by kernel_rfl) (by kernel_rfl) rfl rfl rfl ?_
     refine DAny.takeSkip (i := 35) rfl (by kernel_rfl) [] (by kernel_rfl) (by kernel_rfl) (by kernel_rfl) rfl rfl rfl ?_
     refine DAny.takeSkip (i := 36) rfl (by kernel_rfl) [] (by kernel_rfl) (by kernel_rfl) (by kernel_rfl) rfl rfl rfl ?_
     refine DT 37 [] rfl rfl (v := V.bool false) (fun _ hz => (.pickK rfl rfl rfl)) ?_
     refine DT 38 [] rfl rfl (fun _ hz => (.fn rfl)) ?_
     refine DAny.nil (by kernel_rfl) ?_
     repeat first|apply sq|apply sk|with_reducible first|apply tn|apply bn
     refine Safe.ret ?_
     repeat (first | with_reducible refine thenQ.r ?_ | with_reducible refine blockQ.r ?_)
     obtain rfl := h
     exact retQ.gen (vs := [V.bool false]) rfl (.tmp rfl .nil) (.free rfl) (by simp) (.inr rfl)
   ·skip
    refine DAny.takeSkip (i := 21) rfl (by kernel_rfl) [] (by kernel_rfl) (by kernel_rfl) (by kernel_rfl) (congrArg some hc51) rfl rfl ?_
    refine DAny.takeSkip (i := 22) rfl (by kernel_rfl) [] (by kernel_rfl) (by kernel_rfl) (by kernel_rfl) (congrArg some hc51) rfl rfl ?_
    refine DAny.takeSkip (i := 23) rfl (by kernel_rfl) [] (by kernel_rfl) (by kernel_rfl) (by kernel_rfl) (congrArg some hc51) rfl rfl ?_
    refine DAny.takeSkip (i := 24) rfl (by kernel_rfl) [] (by kernel_rfl) (by kernel_rfl) (by kernel_rfl) (congrArg some hc51) rfl rfl ?_
    refine DAny.takeSkip (i := 25) rfl (by kernel_rfl) [] (by kernel_rfl) (by kernel_rfl) (by kernel_rfl) (congrArg some hc51) rfl rfl ?_
    refine DAny.takeSkip (i := 26) rfl (by kernel_rfl) [] (by kernel_rfl) (by kernel_rfl) (by kernel_rfl) (congrArg some hc51) rfl rfl ?_
    refine DT 27 [] rfl rfl (v := V.bool false) (fun _ hz => (.pickK rfl hc51 rfl)) ?_
    refine DT 28 [] rfl rfl (fun _ hz => (.fn rfl)) ?_
    refine DAny.takeSkip (i := 29) rfl (by kernel_rfl) [] (by kernel_rfl) (by kernel_rfl) (by kernel_rfl) rfl rfl rfl ?_
    refine DAny.takeSkip (i := 30) rfl (by kernel_rfl) [] (by kernel_rfl) (by kernel_rfl) (by kernel_rfl) rfl rfl rfl ?_
    refine DAny.takeSkip (i := 31) rfl (by kernel_rfl) [] (by kernel_rfl) (by kernel_rfl) (by kernel_rfl) rfl rfl rfl ?_
    refine DT 32 [] rfl rfl (v := V.bool false) (fun _ hz => (.pickK rfl rfl rfl)) ?_
    refine DT 33 [] rfl rfl (fun _ hz => (.fn rfl)) ?_
    refine DAny.takeSkip (i := 34) rfl (by kernel_rfl) [] (by kernel_rfl) (by kernel_rfl) (by kernel_rfl) rfl rfl rfl ?_
    refine DAny.takeSkip (i := 35) rfl (by kernel_rfl) [] (by kernel_rfl) (by kernel_rfl) (by kernel_rfl) rfl rfl rfl ?_
    refine DAny.takeSkip (i := 36) rfl (by kernel_rfl) [] (by kernel_rfl) (by kernel_rfl) (by kernel_rfl) rfl rfl rfl ?_
    refine DT 37 [] rfl rfl (v := V.bool false) (fun _ hz => (.pickK rfl rfl rfl)) ?_
    refine DT 38 [] rfl rfl (fun _ hz => (.fn rfl)) ?_
    refine DAny.nil (by kernel_rfl) ?_
    repeat first|apply sq|apply sk|with_reducible first|apply tn|apply bn
    refine Safe.ret ?_
    repeat (first | with_reducible refine thenQ.r ?_ | with_reducible refine blockQ.r ?_)
    obtain rfl := h
    exact retQ.gen (vs := [V.bool false]) rfl (.tmp rfl .nil) (.free rfl) (by simp) (.inr rfl)
  ·skip
   refine DAny.takeSkip (i := 13) rfl (by kernel_rfl) [] (by kernel_rfl) (by kernel_rfl) (by kernel_rfl) (congrArg some hc50) rfl rfl ?_
   refine DAny.takeSkip (i := 14) rfl (by kernel_rfl) [] (by kernel_rfl) (by kernel_rfl) (by kernel_rfl) (congrArg some hc50) rfl rfl ?_
   refine DAny.takeSkip (i := 15) rfl (by kernel_rfl) [] (by kernel_rfl) (by kernel_rfl) (by kernel_rfl) (congrArg some hc50) rfl rfl ?_
   refine DAny.takeSkip (i := 16) rfl (by kernel_rfl) [] (by kernel_rfl) (by kernel_rfl) (by kernel_rfl) (congrArg some hc50) rfl rfl ?_
   refine DAny.takeSkip (i := 17) rfl (by kernel_rfl) [] (by kernel_rfl) (by kernel_rfl) (by kernel_rfl) (congrArg some hc50) rfl rfl ?_
   refine DAny.takeSkip (i := 18) rfl (by kernel_rfl) [] (by kernel_rfl) (by kernel_rfl) (by kernel_rfl) (congrArg some hc50) rfl rfl ?_
   refine DT 19 [] rfl rfl (v := V.bool false) (fun _ hz => (.pickK rfl hc50 rfl)) ?_
   refine DT 20 [] rfl rfl (fun _ hz => (.fn rfl)) ?_
   refine DAny.takeSkip (i := 21) rfl (by kernel_rfl) [] (by kernel_rfl) (by kernel_rfl) (by kernel_rfl) rfl rfl rfl ?_
   refine DAny.takeSkip (i := 22) rfl (by kernel_rfl) [] (by kernel_rfl) (by kernel_rfl) (by kernel_rfl) rfl rfl rfl ?_
   refine DAny.takeSkip (i := 23) rfl (by kernel_rfl) [] (by kernel_rfl) (by kernel_rfl) (by kernel_rfl) rfl rfl rfl ?_
   refine DAny.takeSkip (i := 24) rfl (by kernel_rfl) [] (by kernel_rfl) (by kernel_rfl) (by kernel_rfl) rfl rfl rfl ?_
   refine DAny.takeSkip (i := 25) rfl (by kernel_rfl) [] (by kernel_rfl) (by kernel_rfl) (by kernel_rfl) rfl rfl rfl ?_
   refine DAny.takeSkip (i := 26) rfl (by kernel_rfl) [] (by kernel_rfl) (by kernel_rfl) (by kernel_rfl) rfl rfl rfl ?_
   refine DT 27 [] rfl rfl (v := V.bool false) (fun _ hz => (.pickK rfl rfl rfl)) ?_
   refine DT 28 [] rfl rfl (fun _ hz => (.fn rfl)) ?_
   refine DAny.takeSkip (i := 29) rfl (by kernel_rfl) [] (by kernel_rfl) (by kernel_rfl) (by kernel_rfl) rfl rfl rfl ?_
   refine DAny.takeSkip (i := 30) rfl (by kernel_rfl) [] (by kernel_rfl) (by kernel_rfl) (by kernel_rfl) rfl rfl rfl ?_
   refine DAny.takeSkip (i := 31) rfl (by kernel_rfl) [] (by kernel_rfl) (by kernel_rfl) (by kernel_rfl) rfl rfl rfl ?_
   refine DT 32 [] rfl rfl (v := V.bool false) (fun _ hz => (.pickK rfl rfl rfl)) ?_
   refine DT 33 [] rfl rfl (fun _ hz => (.fn rfl)) ?_
   refine DAny.takeSkip (i := 34) rfl (by kernel_rfl) [] (by kernel_rfl) (by kernel_rfl) (by kernel_rfl) rfl rfl rfl ?_
   refine DAny.takeSkip (i := 35) rfl (by kernel_rfl) [] (by kernel_rfl) (by kernel_rfl) (by kernel_rfl) rfl rfl rfl ?_
   refine DAny.takeSkip (i := 36) rfl (by kernel_rfl) [] (by kernel_rfl) (by kernel_rfl) (by kernel_rfl) rfl rfl rfl ?_
   refine DT 37 [] rfl rfl (v := V.bool false) (fun _ hz => (.pickK rfl rfl rfl)) ?_
   refine DT 38 [] rfl rfl (fun _ hz => (.fn rfl)) ?_
   refine DAny.nil (by kernel_rfl) ?_
   repeat first|apply sq|apply sk|with_reducible first|apply tn|apply bn
   refine Safe.ret ?_
   repeat (first | with_reducible refine thenQ.r ?_ | with_reducible refine blockQ.r ?_)
   obtain rfl := h
   exact retQ.gen (vs := [V.bool false]) rfl (.tmp rfl .nil) (.free rfl) (by simp) (.inr rfl)
 ·skip
  refine DAny.takeSkip (i := 4) rfl (by kernel_rfl) [] (by kernel_rfl) (by kernel_rfl) (by kernel_rfl) (congrArg some hc47) rfl rfl ?_
  refine DAny.takeSkip (i := 5) rfl (by kernel_rfl) [] (by kernel_rfl) (by kernel_rfl) (by kernel_rfl) (congrArg some hc47) rfl rfl ?_
  refine DAny.takeSkip (i := 6) rfl (by kernel_rfl) [] (by kernel_rfl) (by kernel_rfl) (by kernel_rfl) (congrArg some hc47) rfl rfl ?_
  refine DAny.takeSkip (i := 7) rfl (by kernel_rfl) [] (by kernel_rfl) (by kernel_rfl) (by kernel_rfl) (congrArg some hc47) rfl rfl ?_
  refine DAny.takeSkip (i := 8) rfl (by kernel_rfl) [] (by kernel_rfl) (by kernel_rfl) (by kernel_rfl) (congrArg some hc47) rfl rfl ?_
  refine DAny.takeSkip (i := 9) rfl (by kernel_rfl) [] (by kernel_rfl) (by kernel_rfl) (by kernel_rfl) (congrArg some hc47) rfl rfl ?_
  refine DAny.takeSkip (i := 10) rfl (by kernel_rfl) [] (by kernel_rfl) (by kernel_rfl) (by kernel_rfl) (congrArg some hc47) rfl rfl ?_
  refine DT 11 [] rfl rfl (v := V.bool false) (fun _ hz => (.pickK rfl hc47 rfl)) ?_
  refine DT 12 [] rfl rfl (fun _ hz => (.fn rfl)) ?_
  refine DAny.takeSkip (i := 13) rfl (by kernel_rfl) [] (by kernel_rfl) (by kernel_rfl) (by kernel_rfl) rfl rfl rfl ?_
  refine DAny.takeSkip (i := 14) rfl (by kernel_rfl) [] (by kernel_rfl) (by kernel_rfl) (by kernel_rfl) rfl rfl rfl ?_
  refine DAny.takeSkip (i := 15) rfl (by kernel_rfl) [] (by kernel_rfl) (by kernel_rfl) (by kernel_rfl) rfl rfl rfl ?_
  refine DAny.takeSkip (i := 16) rfl (by kernel_rfl) [] (by kernel_rfl) (by kernel_rfl) (by kernel_rfl) rfl rfl rfl ?_
  refine DAny.takeSkip (i := 17) rfl (by kernel_rfl) [] (by kernel_rfl) (by kernel_rfl) (by kernel_rfl) rfl rfl rfl ?_
  refine DAny.takeSkip (i := 18) rfl (by kernel_rfl) [] (by kernel_rfl) (by kernel_rfl) (by kernel_rfl) rfl rfl rfl ?_
  refine DT 19 [] rfl rfl (v := V.bool false) (fun _ hz => (.pickK rfl rfl rfl)) ?_
  refine DT 20 [] rfl rfl (fun _ hz => (.fn rfl)) ?_
  refine DAny.takeSkip (i := 21) rfl (by kernel_rfl) [] (by kernel_rfl) (by kernel_rfl) (by kernel_rfl) rfl rfl rfl ?_
  refine DAny.takeSkip (i := 22) rfl (by kernel_rfl) [] (by kernel_rfl) (by kernel_rfl) (by kernel_rfl) rfl rfl rfl ?_
  refine DAny.takeSkip (i := 23) rfl (by kernel_rfl) [] (by kernel_rfl) (by kernel_rfl) (by kernel_rfl) rfl rfl rfl ?_
  refine DAny.takeSkip (i := 24) rfl (by kernel_rfl) [] (by kernel_rfl) (by kernel_rfl) (by kernel_rfl) rfl rfl rfl ?_
  refine DAny.takeSkip (i := 25) rfl (by kernel_rfl) [] (by kernel_rfl) (by kernel_rfl) (by kernel_rfl) rfl rfl rfl ?_
  refine DAny.takeSkip (i := 26) rfl (by kernel_rfl) [] (by kernel_rfl) (by kernel_rfl) (by kernel_rfl) rfl rfl rfl ?_
  refine DT 27 [] rfl rfl (v := V.bool false) (fun _ hz => (.pickK rfl rfl rfl)) ?_
  refine DT 28 [] rfl rfl (fun _ hz => (.fn rfl)) ?_
  refine DAny.takeSkip (i := 29) rfl (by kernel_rfl) [] (by kernel_rfl) (by kernel_rfl) (by kernel_rfl) rfl rfl rfl ?_
  refine DAny.takeSkip (i := 30) rfl (by kernel_rfl) [] (by kernel_rfl) (by kernel_rfl) (by kernel_rfl) rfl rfl rfl ?_
  refine DAny.takeSkip (i := 31) rfl (by kernel_rfl) [] (by kernel_rfl) (by kernel_rfl) (by kernel_rfl) rfl rfl rfl ?_
  refine DT 32 [] rfl rfl (v := V.bool false) (fun _ hz => (.pickK rfl rfl rfl)) ?_
  refine DT 33 [] rfl rfl (fun _ hz => (.fn rfl)) ?_
  refine DAny.takeSkip (i := 34) rfl (by kernel_rfl) [] (by kernel_rfl) (by kernel_rfl) (by kernel_rfl) rfl rfl rfl ?_
  refine DAny.takeSkip (i := 35) rfl (by kernel_rfl) [] (by kernel_rfl) (by kernel_rfl) (by kernel_rfl) rfl rfl rfl ?_
  refine DAny.takeSkip (i := 36) rfl (by kernel_rfl) [] (by kernel_rfl) (by kernel_rfl) (by kernel_rfl) rfl rfl rfl ?_
  refine DT 37 [] rfl rfl (v := V.bool false) (fun _ hz => (.pickK rfl rfl rfl)) ?_
  refine DT 38 [] rfl rfl (fun _ hz => (.fn rfl)) ?_
  refine DAny.nil (by kernel_rfl) ?_
  repeat first|apply sq|apply sk|with_reducible first|apply tn|apply bn
  refine Safe.ret ?_
  repeat (first | with_reducible refine thenQ.r ?_ | with_reducible refine blockQ.r ?_)
  obtain rfl := h
  exact retQ.gen (vs := [V.bool false]) rfl (.tmp rfl .nil) (.free rfl) (by simp) (.inr rfl)

@[ext] structure ring_actor where
 Hand : api_Hand
 m : List Int
 q : api_Deque
 e : Int
 deriving Inhabited
def ring_actor.cells (x : ring_actor) : List V := [I x.Hand.Kind, I x.Hand.Pc, I x.Hand.V, I x.Hand.T, I x.Hand.B, V.bool x.Hand.Won, I x.Hand.State, V.sl 1 (rws (fun n => [I n]) x.m), I x.q.Base, I x.q.Cap, I x.e]
def ring_actor.zero : ring_actor := ⟨⟨0, 0, 0, 0, 0, false, 0⟩, [], ⟨0, 0⟩, 0⟩

def go_pring_actor_top (a9 : ring_actor) : Int :=
 (a9).q.Base

theorem go_pring_actor_top_sc (a9 : ring_actor) (r : Int) (h : go_pring_actor_top a9 = r) : SC Try.prog gl 29 [V.spt 11 (rws ring_actor.cells [a9]) (Int.toNat 0) 0] (I r) := by
 rw [go_pring_actor_top] at h
 refine SC.of E_good Try.func29 rfl (fun _ _ => Try.call29 _ _) rfl ?_
 repeat first|apply sq|apply sk|with_reducible first|apply tn|apply bn
 refine Safe.region ?_
 refine Qf E_good ?_
 refine SafeOps.nil ?_
 repeat first|apply sq|apply sk|with_reducible first|apply tn|apply bn
 refine Safe.region ?_
 refine Qf E_good ?_
 refine Q0 E_good rfl (v := V.spt 11 (rws ring_actor.cells [a9]) (Int.toNat 0) 0) (.fn rfl) ?_
 refine Q0 E_good rfl (v := V.spt 11 (rws ring_actor.cells [a9]) (Int.toNat 0) 8) (.fn rfl) ?_
 refine Q0 E_good rfl (v := V.spt 11 (rws ring_actor.cells [a9]) (Int.toNat 0) 8) (.fn rfl) ?_
 refine Q0 E_good rfl (v := I ((a9).q.Base)) (.load rfl rfl (.sptM (f := ring_actor.cells) (by simp) rfl) rfl) ?_
 refine Qf E_good ?_
 refine SafeOps.nil ?_
 repeat first|apply sq|apply sk|with_reducible first|apply tn|apply bn
 refine Safe.ret ?_
 repeat (first | with_reducible refine thenQ.r ?_ | with_reducible refine blockQ.r ?_)
 obtain rfl := h
 exact retQ.gen (vs := [I ((a9).q.Base)]) rfl (.tmp rfl .nil) (.free rfl) (by simp) (.inr rfl)

noncomputable def go_cell_Load (a10 : List Int) (a11 : Int) : Option (Int × Int) :=
 if ((((go_cell_Check a10) != 0) || (decide (a11 < 0))) || (decide (a11 ≥ (a10.length : Int)))) = true then
  some (0, 1)
 else
  if 0 ≤ a11 ∧ a11 < (a10.length : Int) then
   some ((gt a10 a11), 0)
  else none

theorem go_cell_Load_sc (a10 : List Int) (a11 : Int) (r : Int × Int) (h : go_cell_Load a10 a11 = some r) : SC Try.prog gl 55 [V.sl 1 (rws (fun n => [I n]) a10), I a11] (V.tup [I r.1, I r.2]) := by
 rw [go_cell_Load] at h
 refine SC.of E_good Try.func55 rfl (fun _ _ => Try.call55 _ _) rfl ?_
 repeat first|apply sq|apply sk|with_reducible first|apply tn|apply bn
 refine Safe.region ?_
 refine Qf E_good ?_
 refine Qf E_good ?_
 refine SafeOps.nil ?_
 repeat first|apply sq|apply sk|with_reducible first|apply tn|apply bn
 refine Safe.region ?_
 refine Qf E_good ?_
 refine Qf E_good ?_
 refine SafeOps.inline E_good rfl rfl rfl rfl rfl Try.func59 rfl (fun _ _ => Try.call59 _ _) rfl ?_
 repeat first|apply sq|apply sk|with_reducible first|apply tn|apply bn
 refine Safe.region ?_
 refine Qf E_good ?_
 refine Qf E_good ?_
 refine SafeOps.nil ?_
 repeat first|apply sq|apply sk|with_reducible first|apply tn|apply bn
 refine Safe.region ?_
 refine Qf E_good ?_
 refine Q0 E_good rfl (v := I (go_cell_Check a10)) (.callP rfl rfl (go_cell_Check_sc a10 _ rfl) rfl) ?_
 refine Q0 E_good rfl (v := V.bool ((go_cell_Check a10) != 0)) (.fn rfl) ?_
 refine Qf E_good ?_
 refine SafeOps.bjoin 3 12 (b := (((go_cell_Check a10) != 0) || (decide (a11 < 0)))) (b1 := true) (b0 := decide (a11 < 0)) (fun hc113 K => ?_) (fun hc113 K => ?_) bj_or ?_
 ·skip
  refine sF hc113 ?_
  refine sF hc113 ?_
  refine Q0 E_good rfl (v := V.bool true) (.pickK rfl hc113 rfl) ?_
  exact SafeOps.drop' 3 rfl rfl rfl K
 ·skip
  refine qF E_good hc113 (.fn rfl) ?_
  refine qF E_good hc113 (v := V.bool (decide (a11 < 0))) (.fn rfl) ?_
  refine Q0 E_good rfl (v := V.bool (decide (a11 < 0))) (.pickK rfl hc113 rfl) ?_
  exact SafeOps.drop' 3 rfl rfl rfl K
 refine Qf E_good ?_
 refine SafeOps.bjoin 5 18 (b := ((((go_cell_Check a10) != 0) || (decide (a11 < 0))) || (decide (a11 ≥ (a10.length : Int))))) (b1 := true) (b0 := decide (a11 ≥ (a10.length : Int))) (fun hc114 K => ?_) (fun hc114 K => ?_) bj_or ?_
 ·skip
  refine sF hc114 ?_
  refine sF hc114 ?_
  refine sF hc114 ?_
  refine sF hc114 ?_
  refine Q0 E_good rfl (v := V.bool true) (.pickK rfl hc114 rfl) ?_
  exact SafeOps.drop' 5 rfl rfl rfl K
 ·skip
  refine qF E_good hc114 (.fn rfl) ?_
  refine qF E_good hc114 (.fn rfl) ?_
  refine qF E_good hc114 (v := I (a10.length : Int)) (.fnE rfl lenE) ?_
  refine qF E_good hc114 (v := V.bool (decide (a11 ≥ (a10.length : Int)))) (.fn rfl) ?_
  refine Q0 E_good rfl (v := V.bool (decide (a11 ≥ (a10.length : Int)))) (.pickK rfl hc114 rfl) ?_
  exact SafeOps.drop' 5 rfl rfl rfl K
 refine SafeOps.nil ?_
 repeat first|apply sq|apply sk|with_reducible first|apply tn|apply bn
 refine ifG h (fun hc115 h => ?_) (fun hc115 h => ?_)
 ·skip
  refine Safe.condK rfl hc115 ?_
  repeat first|apply sq|apply sk|with_reducible first|apply tn|apply bn
  refine Safe.region ?_
  refine Qf E_good ?_
  refine Qf E_good ?_
  refine SafeOps.nil ?_
  repeat first|apply sq|apply sk|with_reducible first|apply tn|apply bn
  refine Safe.ret ?_
  repeat (first | with_reducible refine thenQ.r ?_ | with_reducible refine blockQ.r ?_)
  refine inQ.gen (vs := [V.nilp, I 1]) (v := V.tup [V.nilp, I 1]) (.inr rfl) rfl (.tmp (v := V.nilp) rfl (.tmp (v := I 1) rfl .nil)) rfl ?_
  refine Qf E_good ?_
  refine Qf E_good ?_
  refine Qf E_good ?_
  refine Qf E_good ?_
  refine Qf E_good ?_
  refine SafeOps.nil ?_
  repeat first|apply sq|apply sk|with_reducible first|apply tn|apply bn
  refine Safe.region ?_
  refine Qf E_good ?_
  refine Q0 E_good rfl (v := V.bool true) (.fn rfl) ?_
  refine SafeOps.nil ?_
  repeat first|apply sq|apply sk|with_reducible first|apply tn|apply bn
  refine Safe.condK rfl rfl ?_
  repeat first|apply sq|apply sk|with_reducible first|apply tn|apply bn
  refine Safe.region ?_
  refine Qf E_good ?_
  refine Qf E_good ?_
  refine Qf E_good ?_
  refine SafeOps.nil ?_
  repeat first|apply sq|apply sk|with_reducible first|apply tn|apply bn
  refine Safe.ret ?_
  repeat (first | with_reducible refine thenQ.r ?_ | with_reducible refine blockQ.r ?_)
  obtain rfl := Option.some.inj h
  exact retQ.gen (vs := [I 0, I 1]) rfl (.tmp rfl (.tmp rfl .nil)) (.free rfl) (by simp) (.inr rfl)
 ·skip
  refine Safe.condN rfl hc115 ?_
  repeat first|apply sq|apply sk|with_reducible first|apply tn|apply bn
  refine Safe.region ?_
  refine Qf E_good ?_
  refine Qf E_good ?_
  refine okG h (fun hb116 h => ?_)
  refine Q0 E_good rfl (v := V.spt 1 (rws (fun n => [I n]) a10) (Int.toNat a11) 0) (.idxSlM (f := (fun n => [I n])) rfl rfl rfl rfl rfl hb116) ?_
  refine Qf E_good ?_
  refine Qf E_good ?_
  refine SafeOps.nil ?_
  repeat first|apply sq|apply sk|with_reducible first|apply tn|apply bn
  refine Safe.ret ?_
  repeat (first | with_reducible refine thenQ.r ?_ | with_reducible refine blockQ.r ?_)
  refine inQ.gen (vs := [V.spt 1 (rws (fun n => [I n]) a10) (Int.toNat a11) 0, I 0]) (v := V.tup [V.spt 1 (rws (fun n => [I n]) a10) (Int.toNat a11) 0, I 0]) (.inr rfl) rfl (.tmp (v := V.spt 1 (rws (fun n => [I n]) a10) (Int.toNat a11) 0) rfl (.tmp (v := I 0) rfl .nil)) rfl ?_
  refine Qf E_good ?_
  refine Qf E_good ?_
  refine Qf E_good ?_
  refine Qf E_good ?_
  refine Qf E_good ?_
  refine SafeOps.nil ?_
  repeat first|apply sq|apply sk|with_reducible first|apply tn|apply bn
  refine Safe.region ?_
  refine Qf E_good ?_
  refine Q0 E_good rfl (v := V.bool false) (.fn rfl) ?_
  refine SafeOps.nil ?_
  repeat first|apply sq|apply sk|with_reducible first|apply tn|apply bn
  refine Safe.condN rfl rfl ?_
  repeat first|apply sq|apply sk|with_reducible first|apply tn|apply bn
  refine Safe.region ?_
  refine Qf E_good ?_
  refine Q0 E_good rfl (v := V.spt 1 (rws (fun n => [I n]) a10) (Int.toNat a11) 0) (.fn rfl) ?_
  refine Q0 E_good rfl (v := I (gt a10 a11)) (.load rfl rfl (.sptM (f := (fun n => [I n])) hb116 rfl) rfl) ?_
  refine Qf E_good ?_
  refine Qf E_good ?_
  refine SafeOps.nil ?_
  repeat first|apply sq|apply sk|with_reducible first|apply tn|apply bn
  refine Safe.ret ?_
  repeat (first | with_reducible refine thenQ.r ?_ | with_reducible refine blockQ.r ?_)
  obtain rfl := Option.some.inj h
  exact retQ.gen (vs := [I (gt a10 a11), I 0]) rfl (.tmp rfl (.tmp rfl .nil)) (.free rfl) (by simp) (.inr rfl)

def go_pring_actor_bottom (a12 : ring_actor) : Int :=
 IntKind.i64.wrap (((a12).q.Base) + 1)

theorem go_pring_actor_bottom_sc (a12 : ring_actor) (r : Int) (h : go_pring_actor_bottom a12 = r) : SC Try.prog gl 30 [V.spt 11 (rws ring_actor.cells [a12]) (Int.toNat 0) 0] (I r) := by
 rw [go_pring_actor_bottom] at h
 refine SC.of E_good Try.func30 rfl (fun _ _ => Try.call30 _ _) rfl ?_
 repeat first|apply sq|apply sk|with_reducible first|apply tn|apply bn
 refine Safe.region ?_
 refine Qf E_good ?_
 refine SafeOps.nil ?_
 repeat first|apply sq|apply sk|with_reducible first|apply tn|apply bn
 refine Safe.region ?_
 refine Qf E_good ?_
 refine Q0 E_good rfl (v := V.spt 11 (rws ring_actor.cells [a12]) (Int.toNat 0) 0) (.fn rfl) ?_
 refine Q0 E_good rfl (v := V.spt 11 (rws ring_actor.cells [a12]) (Int.toNat 0) 8) (.fn rfl) ?_
 refine Q0 E_good rfl (v := V.spt 11 (rws ring_actor.cells [a12]) (Int.toNat 0) 8) (.fn rfl) ?_
 refine Q0 E_good rfl (v := I ((a12).q.Base)) (.load rfl rfl (.sptM (f := ring_actor.cells) (by simp) rfl) rfl) ?_
 refine Q0 E_good rfl (v := I (IntKind.i64.wrap (((a12).q.Base) + 1))) (.fn rfl) ?_
 refine Qf E_good ?_
 refine SafeOps.nil ?_
 repeat first|apply sq|apply sk|with_reducible first|apply tn|apply bn
 refine Safe.ret ?_
 repeat (first | with_reducible refine thenQ.r ?_ | with_reducible refine blockQ.r ?_)
 obtain rfl := h
 exact retQ.gen (vs := [I (IntKind.i64.wrap (((a12).q.Base) + 1))]) rfl (.tmp rfl .nil) (.free rfl) (by simp) (.inr rfl)

noncomputable def go_pring_actor_slot (a13 : ring_actor) (a14 : Int) : Option Int :=
 if ((a13).q.Cap) ≠ 0 then
  some (IntKind.i64.wrap ((IntKind.i64.wrap (((a13).q.Base) + 2)) + (Int.tmod a14 ((a13).q.Cap))))
 else none

theorem go_pring_actor_slot_sc (a13 : ring_actor) (a14 : Int) (r : Int) (h : go_pring_actor_slot a13 a14 = some r) : SC Try.prog gl 32 [V.spt 11 (rws ring_actor.cells [a13]) (Int.toNat 0) 0, I a14] (I r) := by
 rw [go_pring_actor_slot] at h
 refine SC.of E_good Try.func32 rfl (fun _ _ => Try.call32 _ _) rfl ?_
 repeat first|apply sq|apply sk|with_reducible first|apply tn|apply bn
 refine Safe.region ?_
 refine Qf E_good ?_
 refine SafeOps.nil ?_
 repeat first|apply sq|apply sk|with_reducible first|apply tn|apply bn
 refine Safe.regionD (n := 15) [] [] E_good mixed rfl ?_
 refine DT 0 [] rfl rfl (fun _ hz => (.fn rfl)) ?_
 refine DT 1 [] rfl rfl (v := V.spt 11 (rws ring_actor.cells [a13]) (Int.toNat 0) 0) (fun _ hz => (.fn rfl)) ?_
 refine DT 2 [] rfl rfl (v := V.spt 11 (rws ring_actor.cells [a13]) (Int.toNat 0) 8) (fun _ hz => (.fn rfl)) ?_
 refine DT 3 [] rfl rfl (v := V.spt 11 (rws ring_actor.cells [a13]) (Int.toNat 0) 8) (fun _ hz => (.fn rfl)) ?_
 refine DT 4 [] rfl rfl (v := I ((a13).q.Base)) (fun _ hz => (.load rfl rfl (.sptM (f := ring_actor.cells) (by simp) rfl) rfl)) ?_
 refine DT 5 [] rfl rfl (v := I (IntKind.i64.wrap (((a13).q.Base) + 2))) (fun _ hz => (.fn rfl)) ?_
 refine DT 6 [] rfl rfl (fun _ hz => (.fn rfl)) ?_
 refine DT 7 [] rfl rfl (fun _ hz => (.fn rfl)) ?_
 refine DT 8 [] rfl rfl (v := V.spt 11 (rws ring_actor.cells [a13]) (Int.toNat 0) 0) (fun _ hz => (.fn rfl)) ?_
 refine DT 9 [] rfl rfl (v := V.spt 11 (rws ring_actor.cells [a13]) (Int.toNat 0) 8) (fun _ hz => (.fn rfl)) ?_
 refine DT 10 [] rfl rfl (v := V.spt 11 (rws ring_actor.cells [a13]) (Int.toNat 0) 9) (fun _ hz => (.fn rfl)) ?_
 refine DT 11 [] rfl rfl (v := I ((a13).q.Cap)) (fun _ hz => (.load rfl rfl (.sptM (f := ring_actor.cells) (by simp) rfl) rfl)) ?_
 refine okG h (fun hb194 h => ?_)
 refine DT 12 [] rfl rfl (v := I (Int.tmod a14 ((a13).q.Cap))) (fun _ hz => (.remV rfl rfl hb194)) ?_
 refine DT 13 [] rfl rfl (v := I (IntKind.i64.wrap ((IntKind.i64.wrap (((a13).q.Base) + 2)) + (Int.tmod a14 ((a13).q.Cap))))) (fun _ hz => (.fn rfl)) ?_
 refine DT 14 [] rfl rfl (fun _ hz => (.fn rfl)) ?_
 refine DAny.nil (by kernel_rfl) ?_
 repeat first|apply sq|apply sk|with_reducible first|apply tn|apply bn
 refine Safe.ret ?_
 repeat (first | with_reducible refine thenQ.r ?_ | with_reducible refine blockQ.r ?_)
 obtain rfl := Option.some.inj h
 exact retQ.gen (vs := [I (IntKind.i64.wrap ((IntKind.i64.wrap (((a13).q.Base) + 2)) + (Int.tmod a14 ((a13).q.Cap))))]) rfl (.tmp rfl .nil) (.free rfl) (by simp) (.inr rfl)

def go_slices_Clone_api_Mem_int64 (xs : List Int) : Option (List Int) := if few xs.length then some xs else none
theorem go_slices_Clone_api_Mem_int64_sc (xs : List Int) (r : List Int) (h : go_slices_Clone_api_Mem_int64 xs = some r) : SC Try.prog gl 63 [V.sl 1 (rws (fun n => [I n]) xs)] (V.own 1 (rws (fun n => [I n]) r)) := by
 rw [go_slices_Clone_api_Mem_int64] at h
 refine okG h (fun hf h => ?_)
 obtain rfl := Option.some.inj h
 refine SC.of E_good Try.func63 rfl (fun _ _ => Try.call63 _ _) rfl ?_
 repeat first|apply sq|apply sk|with_reducible first|apply tn|apply bn
 refine Safe.region ?_
 refine Q0 E_good rfl (v := V.nils) (.fn rfl) ?_
 refine SafeOps.nil ?_
 repeat first|apply sq|apply sk|with_reducible first|apply tn|apply bn
 refine Safe.region ?_
 refine Q0 E_good rfl (v := V.sl 1 (rws (fun n => [I n]) xs)) (.fn rfl) ?_
 refine SafeOps.nilcmp E_good rfl rfl rfl rfl rfl rfl rfl (fun b hb => ?_)
 refine SafeOps.nil ?_
 repeat first|apply sq|apply sk|with_reducible first|apply tn|apply bn
 cases b with
 | true =>
  have hx : xs = [] := List.map_eq_nil_iff.1 (hb rfl)
  subst hx
  refine Safe.condK rfl rfl ?_
  repeat first|apply sq|apply sk|with_reducible first|apply tn|apply bn
  refine Safe.region ?_
  refine Q0 E_good rfl (v := V.nils) (.fn rfl) ?_
  refine SafeOps.nil ?_
  repeat first|apply sq|apply sk|with_reducible first|apply tn|apply bn
  refine Safe.ret ?_
  repeat (first | with_reducible refine thenQ.r ?_ | with_reducible refine blockQ.r ?_)
  exact retQ.gen (vs := [V.nils]) rfl (.tmp rfl .nil) (.nils _) (by simp) (.inr rfl)
 | false =>
  refine Safe.condN rfl rfl ?_
  repeat first|apply sq|apply sk|with_reducible first|apply tn|apply bn
  refine Safe.region ?_
  refine SafeOps.quiet1 E_good rfl rfl rfl (.litM (f := (fun n => [I n])) (xs := []) rfl rfl (by decide) rfl rfl rfl rfl rfl) rfl ?_
  refine Q0 E_good rfl (v := V.sl 1 (rws (fun n => [I n]) xs)) (.fn rfl) ?_
  refine SafeOps.appendM (fun n => [I n]) (xs := []) (ys := xs) E_good rfl rfl rfl rfl rfl rfl rfl rfl rfl (.own rfl) (.sl _) (fun _ => rfl) hf ?_
  refine Q0 E_good rfl (v := V.ref [7] 0 (rws (fun n => [I n]) ([] ++ xs)).length) (.fn rfl) ?_
  refine SafeOps.nil ?_
  repeat first|apply sq|apply sk|with_reducible first|apply tn|apply bn
  refine Safe.ret ?_
  repeat (first | with_reducible refine thenQ.r ?_ | with_reducible refine blockQ.r ?_)
  exact retQ.gen (vs := [V.ref [7] 0 (rws (fun n => [I n]) ([] ++ xs)).length]) rfl (.tmp rfl .nil) (by exact .own rfl rfl) (by simp) (.inr rfl)

noncomputable def go_cell_Store (a15 : List Int) (a16 : Int) (a17 : Int) : Option ((List Int) × Int) :=
 if ((((go_cell_Check a15) != 0) || (decide (a16 < 0))) || (decide (a16 ≥ (a15.length : Int)))) = true then
  some ([], 1)
 else
  if 0 ≤ a16 ∧ a16 < (a15.length : Int) then
   (go_slices_Clone_api_Mem_int64 a15).bind fun x18 =>
   if 0 ≤ a16 ∧ a16 < (x18.length : Int) then
    some (st x18 a16 a17, 0)
   else none
  else none

theorem go_cell_Store_sc (a15 : List Int) (a16 : Int) (a17 : Int) (r : (List Int) × Int) (h : go_cell_Store a15 a16 a17 = some r) : SC Try.prog gl 60 [V.sl 1 (rws (fun n => [I n]) a15), I a16, I a17] (V.tup [V.own 1 (rws (fun n => [I n]) r.1), I r.2]) := by
 rw [go_cell_Store] at h
 refine SC.of E_good Try.func60 rfl (fun _ _ => Try.call60 _ _) rfl ?_
 repeat first|apply sq|apply sk|with_reducible first|apply tn|apply bn
 refine Safe.region ?_
 refine Qf E_good ?_
 refine Qf E_good ?_
 refine SafeOps.nil ?_
 repeat first|apply sq|apply sk|with_reducible first|apply tn|apply bn
 refine Safe.region ?_
 refine Qf E_good ?_
 refine Qf E_good ?_
 refine SafeOps.inline E_good rfl rfl rfl rfl rfl Try.func62 rfl (fun _ _ => Try.call62 _ _) rfl ?_
 repeat first|apply sq|apply sk|with_reducible first|apply tn|apply bn
 refine Safe.region ?_
 refine Qf E_good ?_
 refine Qf E_good ?_
 refine Qf E_good ?_
 refine SafeOps.nil ?_
 repeat first|apply sq|apply sk|with_reducible first|apply tn|apply bn
 refine Safe.region ?_
 refine Qf E_good ?_
 refine Qf E_good ?_
 refine SafeOps.inline E_good rfl rfl rfl rfl rfl Try.func59 rfl (fun _ _ => Try.call59 _ _) rfl ?_
 repeat first|apply sq|apply sk|with_reducible first|apply tn|apply bn
 refine Safe.region ?_
 refine Qf E_good ?_
 refine Qf E_good ?_
 refine SafeOps.nil ?_
 repeat first|apply sq|apply sk|with_reducible first|apply tn|apply bn
 refine Safe.region ?_
 refine Qf E_good ?_
 refine Q0 E_good rfl (v := I (go_cell_Check a15)) (.callP rfl rfl (go_cell_Check_sc a15 _ rfl) rfl) ?_
 refine Q0 E_good rfl (v := V.bool ((go_cell_Check a15) != 0)) (.fn rfl) ?_
 refine Qf E_good ?_
 refine SafeOps.bjoin 3 12 (b := (((go_cell_Check a15) != 0) || (decide (a16 < 0)))) (b1 := true) (b0 := decide (a16 < 0)) (fun hc250 K => ?_) (fun hc250 K => ?_) bj_or ?_
 ·skip
  refine sF hc250 ?_
  refine sF hc250 ?_
  refine Q0 E_good rfl (v := V.bool true) (.pickK rfl hc250 rfl) ?_
  exact SafeOps.drop' 3 rfl rfl rfl K
 ·skip
  refine qF E_good hc250 (.fn rfl) ?_
  refine qF E_good hc250 (v := V.bool (decide (a16 < 0))) (.fn rfl) ?_
  refine Q0 E_good rfl (v := V.bool (decide (a16 < 0))) (.pickK rfl hc250 rfl) ?_
  exact SafeOps.drop' 3 rfl rfl rfl K
 refine Qf E_good ?_
 refine SafeOps.bjoin 5 18 (b := ((((go_cell_Check a15) != 0) || (decide (a16 < 0))) || (decide (a16 ≥ (a15.length : Int))))) (b1 := true) (b0 := decide (a16 ≥ (a15.length : Int))) (fun hc251 K => ?_) (fun hc251 K => ?_) bj_or ?_
 ·skip
  refine sF hc251 ?_
  refine sF hc251 ?_
  refine sF hc251 ?_
  refine sF hc251 ?_
  refine Q0 E_good rfl (v := V.bool true) (.pickK rfl hc251 rfl) ?_
  exact SafeOps.drop' 5 rfl rfl rfl K
 ·skip
  refine qF E_good hc251 (.fn rfl) ?_
  refine qF E_good hc251 (.fn rfl) ?_
  refine qF E_good hc251 (v := I (a15.length : Int)) (.fnE rfl lenE) ?_
  refine qF E_good hc251 (v := V.bool (decide (a16 ≥ (a15.length : Int)))) (.fn rfl) ?_
  refine Q0 E_good rfl (v := V.bool (decide (a16 ≥ (a15.length : Int)))) (.pickK rfl hc251 rfl) ?_
  exact SafeOps.drop' 5 rfl rfl rfl K
 refine SafeOps.nil ?_
 repeat first|apply sq|apply sk|with_reducible first|apply tn|apply bn
 refine ifG h (fun hc252 h => ?_) (fun hc252 h => ?_)
 ·skip
  refine Safe.condK rfl hc252 ?_
  repeat first|apply sq|apply sk|with_reducible first|apply tn|apply bn
  refine Safe.region ?_
  refine Qf E_good ?_
  refine Qf E_good ?_
  refine SafeOps.nil ?_
  repeat first|apply sq|apply sk|with_reducible first|apply tn|apply bn
  refine Safe.ret ?_
  repeat (first | with_reducible refine thenQ.r ?_ | with_reducible refine blockQ.r ?_)
  refine inQ.gen (vs := [V.nilp, I 1]) (v := V.tup [V.nilp, I 1]) (.inr rfl) rfl (.tmp (v := V.nilp) rfl (.tmp (v := I 1) rfl .nil)) rfl ?_
  refine Qf E_good ?_
  refine Qf E_good ?_
  refine Qf E_good ?_
  refine Qf E_good ?_
  refine Qf E_good ?_
  refine SafeOps.nil ?_
  repeat first|apply sq|apply sk|with_reducible first|apply tn|apply bn
  refine Safe.region ?_
  refine Qf E_good ?_
  refine Q0 E_good rfl (v := V.bool true) (.fn rfl) ?_
  refine SafeOps.nil ?_
  repeat first|apply sq|apply sk|with_reducible first|apply tn|apply bn
  refine Safe.condK rfl rfl ?_
  repeat first|apply sq|apply sk|with_reducible first|apply tn|apply bn
  refine Safe.region ?_
  refine Qf E_good ?_
  refine Qf E_good ?_
  refine Qf E_good ?_
  refine Qf E_good ?_
  refine SafeOps.nil ?_
  repeat first|apply sq|apply sk|with_reducible first|apply tn|apply bn
  refine Safe.ret ?_
  repeat (first | with_reducible refine thenQ.r ?_ | with_reducible refine blockQ.r ?_)
  refine inQ.gen (vs := [V.nils, V.nilp, I 1]) (v := V.tup [V.nils, V.nilp, I 1]) (.inr rfl) rfl (.tmp (v := V.nils) rfl (.tmp (v := V.nilp) rfl (.tmp (v := I 1) rfl .nil))) rfl ?_
  refine Qf E_good ?_
  refine Qf E_good ?_
  refine Qf E_good ?_
  refine Qf E_good ?_
  refine Qf E_good ?_
  refine Qf E_good ?_
  refine Qf E_good ?_
  refine SafeOps.nil ?_
  repeat first|apply sq|apply sk|with_reducible first|apply tn|apply bn
  refine Safe.region ?_
  refine Qf E_good ?_
  refine Q0 E_good rfl (v := V.bool true) (.fn rfl) ?_
  refine SafeOps.nil ?_
  repeat first|apply sq|apply sk|with_reducible first|apply tn|apply bn
  refine Safe.condK rfl rfl ?_
  repeat first|apply sq|apply sk|with_reducible first|apply tn|apply bn
  refine Safe.region ?_
  refine Qf E_good ?_
  refine Qf E_good ?_
  refine Qf E_good ?_
  refine SafeOps.nil ?_
  repeat first|apply sq|apply sk|with_reducible first|apply tn|apply bn
  refine Safe.ret ?_
  repeat (first | with_reducible refine thenQ.r ?_ | with_reducible refine blockQ.r ?_)
  obtain rfl := Option.some.inj h
  exact retQ.gen (vs := [V.nils, I 1]) rfl (.tmp rfl (.tmp rfl .nil)) (by exact (.tup (.cons (.nils _) (.cons (.free rfl) .nil)))) (by simp) (.inr rfl)
 ·skip
  refine Safe.condN rfl hc252 ?_
  repeat first|apply sq|apply sk|with_reducible first|apply tn|apply bn
  refine Safe.region ?_
  refine Qf E_good ?_
  refine Qf E_good ?_
  refine okG h (fun hb253 h => ?_)
  refine Q0 E_good rfl (v := V.spt 1 (rws (fun n => [I n]) a15) (Int.toNat a16) 0) (.idxSlM (f := (fun n => [I n])) rfl rfl rfl rfl rfl hb253) ?_
  refine Qf E_good ?_
  refine Qf E_good ?_
  refine SafeOps.nil ?_
  repeat first|apply sq|apply sk|with_reducible first|apply tn|apply bn
  refine Safe.ret ?_
  repeat (first | with_reducible refine thenQ.r ?_ | with_reducible refine blockQ.r ?_)
  refine inQ.gen (vs := [V.spt 1 (rws (fun n => [I n]) a15) (Int.toNat a16) 0, I 0]) (v := V.tup [V.spt 1 (rws (fun n => [I n]) a15) (Int.toNat a16) 0, I 0]) (.inr rfl) rfl (.tmp (v := V.spt 1 (rws (fun n => [I n]) a15) (Int.toNat a16) 0) rfl (.tmp (v := I 0) rfl .nil)) rfl ?_
  refine Qf E_good ?_
  refine Qf E_good ?_
  refine Qf E_good ?_
  refine Qf E_good ?_
  refine Qf E_good ?_
  refine SafeOps.nil ?_
  repeat first|apply sq|apply sk|with_reducible first|apply tn|apply bn
  refine Safe.region ?_
  refine Qf E_good ?_
  refine Q0 E_good rfl (v := V.bool false) (.fn rfl) ?_
  refine SafeOps.nil ?_
  repeat first|apply sq|apply sk|with_reducible first|apply tn|apply bn
  refine Safe.condN rfl rfl ?_
  repeat first|apply sq|apply sk|with_reducible first|apply tn|apply bn
  refine Safe.region ?_
  refine Qf E_good ?_
  refine bindG h ?_
  intro x18 he255 h
  refine SafeOps.quiet E_good rfl rfl rfl (v := V.ref [14, 19, 0] 0 (rws (fun n => [I n]) x18).length) (.callP rfl rfl (go_slices_Clone_api_Mem_int64_sc a15 _ he255) rfl) rfl ?_
  refine Qf E_good ?_
  refine SafeOps.nil ?_
  repeat first|apply sq|apply sk|with_reducible first|apply tn|apply bn
  refine Safe.regionD (n := 7) [] [] E_good mixed rfl ?_
  refine DT 0 [] rfl rfl (fun _ hz => (.fn rfl)) ?_
  refine DT 1 [] rfl rfl (fun _ hz => (.fn rfl)) ?_
  refine DT 2 [] rfl rfl (fun _ hz => (.fn rfl)) ?_
  refine okG h (fun hb256 h => ?_)
  refine DT 3 [] rfl rfl (v := V.ptr [14, 19, 0] (0 + Int.toNat a16) 0) (fun _ hz => (.idxRefM (f := (fun n => [I n])) (xs := x18) rfl rfl rfl (hz _ _ rfl rfl) rfl rfl hb256)) ?_
  refine DT 4 [] rfl rfl (fun _ hz => (.fn rfl)) ?_
  refine DT 5 [] rfl rfl (fun _ hz => (.fn rfl)) ?_
  refine DT 6 [] rfl rfl (fun _ hz => (.fn rfl)) ?_
  refine DAny.nil (by kernel_rfl) ?_
  repeat first|apply sq|apply sk|with_reducible first|apply tn|apply bn
  refine Safe.ret ?_
  repeat (first | with_reducible refine thenQ.r ?_ | with_reducible refine blockQ.r ?_)
  refine inQ.gen (vs := [V.ref [14, 19, 0] 0 (rws (fun n => [I n]) x18).length, V.ptr [14, 19, 0] (0 + Int.toNat a16) 0, I 0]) (v := V.tup [V.ref [14, 19, 0] 0 (rws (fun n => [I n]) x18).length, V.ptr [14, 19, 0] (0 + Int.toNat a16) 0, I 0]) (.inr rfl) rfl (.tmp (v := V.ref [14, 19, 0] 0 (rws (fun n => [I n]) x18).length) rfl (.tmp (v := V.ptr [14, 19, 0] (0 + Int.toNat a16) 0) rfl (.tmp (v := I 0) rfl .nil))) rfl ?_
  refine Qf E_good ?_
  refine Qf E_good ?_
  refine Qf E_good ?_
  refine Qf E_good ?_
  refine Qf E_good ?_
  refine Qf E_good ?_
  refine Qf E_good ?_
  refine SafeOps.nil ?_
  repeat first|apply sq|apply sk|with_reducible first|apply tn|apply bn
  refine Safe.region ?_
  refine Qf E_good ?_
  refine Q0 E_good rfl (v := V.bool false) (.fn rfl) ?_
  refine SafeOps.nil ?_
  repeat first|apply sq|apply sk|with_reducible first|apply tn|apply bn
  refine Safe.condN rfl rfl ?_
  repeat first|apply sq|apply sk|with_reducible first|apply tn|apply bn
  refine Safe.region ?_
  refine Qf E_good ?_
  refine Qf E_good ?_
  refine Q0 E_good rfl (v := V.ptr [14, 19, 0] (0 + Int.toNat a16) 0) (.fn rfl) ?_
  refine SafeOps.store (z := Obj.rows 1 (rws (fun n => [I n]) (st x18 a16 a17)) false) E_good rfl rfl rfl rfl rfl rfl rfl (.rowsM (f := (fun n => [I n])) (xs := x18) (y := a17) hb256 rfl rfl rfl rfl) ?_
  refine SafeOps.see 15 (u := V.ref [14, 19, 0] 0 (rws (fun n => [I n]) (st x18 a16 a17)).length) rfl (.len (by simp [rws, st])) ?_
  refine SafeOps.see 8 (u := V.ref [14, 19, 0] 0 (rws (fun n => [I n]) (st x18 a16 a17)).length) rfl (.len (by simp [rws, st])) ?_
  refine SafeOps.nil ?_
  repeat first|apply sq|apply sk|with_reducible first|apply tn|apply bn
  refine Safe.region ?_
  refine Qf E_good ?_
  refine Qf E_good ?_
  refine Qf E_good ?_
  refine SafeOps.nil ?_
  repeat first|apply sq|apply sk|with_reducible first|apply tn|apply bn
  refine Safe.ret ?_
  repeat (first | with_reducible refine thenQ.r ?_ | with_reducible refine blockQ.r ?_)
  obtain rfl := Option.some.inj h
  exact retQ.gen (vs := [V.ref [14, 19, 0] 0 (rws (fun n => [I n]) (st x18 a16 a17)).length, I 0]) rfl (.tmp rfl (.tmp rfl .nil)) (by exact (.tup (.cons (.own rfl rfl) (.cons (.free rfl) .nil)))) (by simp) (.inr rfl)

noncomputable def go_cell_Cas_j1 (a19 : Int) (a20 : Int) (x21 : List Int) (v22 : List Int) : Option ((List Int) × Bool × Int) :=
 some (v22, ((gt x21 a19) == a20), 0)

noncomputable def go_cell_Cas (a23 : List Int) (a19 : Int) (a20 : Int) (a24 : Int) : Option ((List Int) × Bool × Int) :=
 if ((((go_cell_Check a23) != 0) || (decide (a19 < 0))) || (decide (a19 ≥ (a23.length : Int)))) = true then
  some ([], false, 1)
 else
  if 0 ≤ a19 ∧ a19 < (a23.length : Int) then
   (go_slices_Clone_api_Mem_int64 a23).bind fun x21 =>
   if 0 ≤ a19 ∧ a19 < (x21.length : Int) then
    if ((gt x21 a19) == a20) = true then
     go_cell_Cas_j1 a19 a20 x21 (st x21 a19 a24)
    else
     go_cell_Cas_j1 a19 a20 x21 x21
   else none
  else none

theorem go_cell_Cas_sc (a23 : List Int) (a19 : Int) (a20 : Int) (a24 : Int) (r : (List Int) × Bool × Int) (h : go_cell_Cas a23 a19 a20 a24 = some r) : SC Try.prog gl 61 [V.sl 1 (rws (fun n => [I n]) a23), I a19, I a20, I a24] (V.tup [V.own 1 (rws (fun n => [I n]) r.1), V.bool r.2.1, I r.2.2]) := by
 rw [go_cell_Cas] at h
 refine SC.of E_good Try.func61 rfl (fun _ _ => Try.call61 _ _) rfl ?_
 repeat first|apply sq|apply sk|with_reducible first|apply tn|apply bn
 refine Safe.region ?_
 refine Qf E_good ?_
 refine Qf E_good ?_
 refine Qf E_good ?_
 refine SafeOps.nil ?_
 repeat first|apply sq|apply sk|with_reducible first|apply tn|apply bn
 refine Safe.region ?_
 refine Qf E_good ?_
 refine Qf E_good ?_
 refine SafeOps.inline E_good rfl rfl rfl rfl rfl Try.func62 rfl (fun _ _ => Try.call62 _ _) rfl ?_
 repeat first|apply sq|apply sk|with_reducible first|apply tn|apply bn
 refine Safe.region ?_
 refine Qf E_good ?_
 refine Qf E_good ?_
 refine Qf E_good ?_
 refine SafeOps.nil ?_
 repeat first|apply sq|apply sk|with_reducible first|apply tn|apply bn
 refine Safe.region ?_
 refine Qf E_good ?_
 refine Qf E_good ?_
 refine SafeOps.inline E_good rfl rfl rfl rfl rfl Try.func59 rfl (fun _ _ => Try.call59 _ _) rfl ?_
 repeat first|apply sq|apply sk|with_reducible first|apply tn|apply bn
 refine Safe.region ?_
 refine Qf E_good ?_
 refine Qf E_good ?_
 refine SafeOps.nil ?_
 repeat first|apply sq|apply sk|with_reducible first|apply tn|apply bn
 refine Safe.region ?_
 refine Qf E_good ?_
 refine Q0 E_good rfl (v := I (go_cell_Check a23)) (.callP rfl rfl (go_cell_Check_sc a23 _ rfl) rfl) ?_
 refine Q0 E_good rfl (v := V.bool ((go_cell_Check a23) != 0)) (.fn rfl) ?_
 refine Qf E_good ?_
 refine SafeOps.bjoin 3 12 (b := (((go_cell_Check a23) != 0) || (decide (a19 < 0)))) (b1 := true) (b0 := decide (a19 < 0)) (fun hc535 K => ?_) (fun hc535 K => ?_) bj_or ?_
 ·skip
  refine sF hc535 ?_
  refine sF hc535 ?_
  refine Q0 E_good rfl (v := V.bool true) (.pickK rfl hc535 rfl) ?_
  exact SafeOps.drop' 3 rfl rfl rfl K
 ·skip
  refine qF E_good hc535 (.fn rfl) ?_
  refine qF E_good hc535 (v := V.bool (decide (a19 < 0))) (.fn rfl) ?_
  refine Q0 E_good rfl (v := V.bool (decide (a19 < 0))) (.pickK rfl hc535 rfl) ?_
  exact SafeOps.drop' 3 rfl rfl rfl K
 refine Qf E_good ?_
 refine SafeOps.bjoin 5 18 (b := ((((go_cell_Check a23) != 0) || (decide (a19 < 0))) || (decide (a19 ≥ (a23.length : Int))))) (b1 := true) (b0 := decide (a19 ≥ (a23.length : Int))) (fun hc536 K => ?_) (fun hc536 K => ?_) bj_or ?_
 ·skip
  refine sF hc536 ?_
  refine sF hc536 ?_
  refine sF hc536 ?_
  refine sF hc536 ?_
  refine Q0 E_good rfl (v := V.bool true) (.pickK rfl hc536 rfl) ?_
  exact SafeOps.drop' 5 rfl rfl rfl K
 ·skip
  refine qF E_good hc536 (.fn rfl) ?_
  refine qF E_good hc536 (.fn rfl) ?_
  refine qF E_good hc536 (v := I (a23.length : Int)) (.fnE rfl lenE) ?_
  refine qF E_good hc536 (v := V.bool (decide (a19 ≥ (a23.length : Int)))) (.fn rfl) ?_
  refine Q0 E_good rfl (v := V.bool (decide (a19 ≥ (a23.length : Int)))) (.pickK rfl hc536 rfl) ?_
  exact SafeOps.drop' 5 rfl rfl rfl K
 refine SafeOps.nil ?_
 repeat first|apply sq|apply sk|with_reducible first|apply tn|apply bn
 refine ifG h (fun hc537 h => ?_) (fun hc537 h => ?_)
 ·skip
  refine Safe.condK rfl hc537 ?_
  repeat first|apply sq|apply sk|with_reducible first|apply tn|apply bn
  refine Safe.region ?_
  refine Qf E_good ?_
  refine Qf E_good ?_
  refine SafeOps.nil ?_
  repeat first|apply sq|apply sk|with_reducible first|apply tn|apply bn
  refine Safe.ret ?_
  repeat (first | with_reducible refine thenQ.r ?_ | with_reducible refine blockQ.r ?_)
  refine inQ.gen (vs := [V.nilp, I 1]) (v := V.tup [V.nilp, I 1]) (.inr rfl) rfl (.tmp (v := V.nilp) rfl (.tmp (v := I 1) rfl .nil)) rfl ?_
  refine Qf E_good ?_
  refine Qf E_good ?_
  refine Qf E_good ?_
  refine Qf E_good ?_
  refine Qf E_good ?_
  refine SafeOps.nil ?_
  repeat first|apply sq|apply sk|with_reducible first|apply tn|apply bn
  refine Safe.region ?_
  refine Qf E_good ?_
  refine Q0 E_good rfl (v := V.bool true) (.fn rfl) ?_
  refine SafeOps.nil ?_
  repeat first|apply sq|apply sk|with_reducible first|apply tn|apply bn
  refine Safe.condK rfl rfl ?_
  repeat first|apply sq|apply sk|with_reducible first|apply tn|apply bn
  refine Safe.region ?_
  refine Qf E_good ?_
  refine Qf E_good ?_
  refine Qf E_good ?_
  refine Qf E_good ?_
  refine SafeOps.nil ?_
  repeat first|apply sq|apply sk|with_reducible first|apply tn|apply bn
  refine Safe.ret ?_
  repeat (first | with_reducible refine thenQ.r ?_ | with_reducible refine blockQ.r ?_)
  refine inQ.gen (vs := [V.nils, V.nilp, I 1]) (v := V.tup [V.nils, V.nilp, I 1]) (.inr rfl) rfl (.tmp (v := V.nils) rfl (.tmp (v := V.nilp) rfl (.tmp (v := I 1) rfl .nil))) rfl ?_
  refine Qf E_good ?_
  refine Qf E_good ?_
  refine Qf E_good ?_
  refine Qf E_good ?_
  refine Qf E_good ?_
  refine Qf E_good ?_
  refine Qf E_good ?_
  refine SafeOps.nil ?_
  repeat first|apply sq|apply sk|with_reducible first|apply tn|apply bn
  refine Safe.region ?_
  refine Qf E_good ?_
  refine Q0 E_good rfl (v := V.bool true) (.fn rfl) ?_
  refine SafeOps.nil ?_
  repeat first|apply sq|apply sk|with_reducible first|apply tn|apply bn
  refine Safe.condK rfl rfl ?_
  repeat first|apply sq|apply sk|with_reducible first|apply tn|apply bn
  refine Safe.region ?_
  refine Qf E_good ?_
  refine Qf E_good ?_
  refine Qf E_good ?_
  refine Qf E_good ?_
  refine SafeOps.nil ?_
  repeat first|apply sq|apply sk|with_reducible first|apply tn|apply bn
  refine Safe.ret ?_
  repeat (first | with_reducible refine thenQ.r ?_ | with_reducible refine blockQ.r ?_)
  obtain rfl := Option.some.inj h
  exact retQ.gen (vs := [V.nils, V.bool false, I 1]) rfl (.tmp rfl (.tmp rfl (.tmp rfl .nil))) (by exact (.tup (.cons (.nils _) (.cons (.free rfl) (.cons (.free rfl) .nil))))) (by simp) (.inr rfl)
 ·skip
  refine Safe.condN rfl hc537 ?_
  repeat first|apply sq|apply sk|with_reducible first|apply tn|apply bn
  refine Safe.region ?_
  refine Qf E_good ?_
  refine Qf E_good ?_
  refine okG h (fun hb538 h => ?_)
  refine Q0 E_good rfl (v := V.spt 1 (rws (fun n => [I n]) a23) (Int.toNat a19) 0) (.idxSlM (f := (fun n => [I n])) rfl rfl rfl rfl rfl hb538) ?_
  refine Qf E_good ?_
  refine Qf E_good ?_
  refine SafeOps.nil ?_
  repeat first|apply sq|apply sk|with_reducible first|apply tn|apply bn
  refine Safe.ret ?_
  repeat (first | with_reducible refine thenQ.r ?_ | with_reducible refine blockQ.r ?_)
  refine inQ.gen (vs := [V.spt 1 (rws (fun n => [I n]) a23) (Int.toNat a19) 0, I 0]) (v := V.tup [V.spt 1 (rws (fun n => [I n]) a23) (Int.toNat a19) 0, I 0]) (.inr rfl) rfl (.tmp (v := V.spt 1 (rws (fun n => [I n]) a23) (Int.toNat a19) 0) rfl (.tmp (v := I 0) rfl .nil)) rfl ?_
  refine Qf E_good ?_
  refine Qf E_good ?_
  refine Qf E_good ?_
  refine Qf E_good ?_
  refine Qf E_good ?_
  refine SafeOps.nil ?_
  repeat first|apply sq|apply sk|with_reducible first|apply tn|apply bn
  refine Safe.region ?_
  refine Qf E_good ?_
  refine Q0 E_good rfl (v := V.bool false) (.fn rfl) ?_
  refine SafeOps.nil ?_
  repeat first|apply sq|apply sk|with_reducible first|apply tn|apply bn
  refine Safe.condN rfl rfl ?_
  repeat first|apply sq|apply sk|with_reducible first|apply tn|apply bn
  refine Safe.region ?_
  refine Qf E_good ?_
  refine bindG h ?_
  intro x21 he540 h
  refine SafeOps.quiet E_good rfl rfl rfl (v := V.ref [18, 19, 0] 0 (rws (fun n => [I n]) x21).length) (.callP rfl rfl (go_slices_Clone_api_Mem_int64_sc a23 _ he540) rfl) rfl ?_
  refine Qf E_good ?_
  refine SafeOps.nil ?_
  repeat first|apply sq|apply sk|with_reducible first|apply tn|apply bn
  refine Safe.regionD (n := 7) [] [] E_good mixed rfl ?_
  refine DT 0 [] rfl rfl (fun _ hz => (.fn rfl)) ?_
  refine DT 1 [] rfl rfl (fun _ hz => (.fn rfl)) ?_
  refine DT 2 [] rfl rfl (fun _ hz => (.fn rfl)) ?_
  refine okG h (fun hb541 h => ?_)
  refine DT 3 [] rfl rfl (v := V.ptr [18, 19, 0] (0 + Int.toNat a19) 0) (fun _ hz => (.idxRefM (f := (fun n => [I n])) (xs := x21) rfl rfl rfl (hz _ _ rfl rfl) rfl rfl hb541)) ?_
  refine DT 4 [] rfl rfl (fun _ hz => (.fn rfl)) ?_
  refine DT 5 [] rfl rfl (fun _ hz => (.fn rfl)) ?_
  refine DT 6 [] rfl rfl (fun _ hz => (.fn rfl)) ?_
  refine DAny.nil (by kernel_rfl) ?_
  repeat first|apply sq|apply sk|with_reducible first|apply tn|apply bn
  refine Safe.ret ?_
  repeat (first | with_reducible refine thenQ.r ?_ | with_reducible refine blockQ.r ?_)
  refine inQ.gen (vs := [V.ref [18, 19, 0] 0 (rws (fun n => [I n]) x21).length, V.ptr [18, 19, 0] (0 + Int.toNat a19) 0, I 0]) (v := V.tup [V.ref [18, 19, 0] 0 (rws (fun n => [I n]) x21).length, V.ptr [18, 19, 0] (0 + Int.toNat a19) 0, I 0]) (.inr rfl) rfl (.tmp (v := V.ref [18, 19, 0] 0 (rws (fun n => [I n]) x21).length) rfl (.tmp (v := V.ptr [18, 19, 0] (0 + Int.toNat a19) 0) rfl (.tmp (v := I 0) rfl .nil))) rfl ?_
  refine Qf E_good ?_
  refine Qf E_good ?_
  refine Qf E_good ?_
  refine Qf E_good ?_
  refine Qf E_good ?_
  refine Qf E_good ?_
  refine Qf E_good ?_
  refine SafeOps.nil ?_
  repeat first|apply sq|apply sk|with_reducible first|apply tn|apply bn
  refine Safe.region ?_
  refine Qf E_good ?_
  refine Q0 E_good rfl (v := V.bool false) (.fn rfl) ?_
  refine SafeOps.nil ?_
  repeat first|apply sq|apply sk|with_reducible first|apply tn|apply bn
  refine Safe.condN rfl rfl ?_
  repeat first|apply sq|apply sk|with_reducible first|apply tn|apply bn
  refine Safe.region ?_
  refine Qf E_good ?_
  refine Q0 E_good rfl (v := V.ptr [18, 19, 0] (0 + Int.toNat a19) 0) (.fn rfl) ?_
  refine Q0 E_good rfl (v := I (gt x21 a19)) (.load rfl rfl (.rowsM (f := (fun n => [I n])) (xs := x21) hb541 rfl rfl) rfl) ?_
  refine Qf E_good ?_
  refine Q0 E_good rfl (v := V.bool ((gt x21 a19) == a20)) (.fn rfl) ?_
  refine Qf E_good ?_
  refine SafeOps.nil ?_
  repeat first|apply sq|apply sk|with_reducible first|apply tn|apply bn
  refine Safe.region ?_
  refine Qf E_good ?_
  refine SafeOps.nil ?_
  repeat first|apply sq|apply sk|with_reducible first|apply tn|apply bn
  refine Safe.joinT (fun (v22 : List Int) => go_cell_Cas_j1 a19 a20 x21 v22 = some r) (fun (v22 : List Int) => ⟨Try.f61.ntmps, [(11, V.ref [18, 19, 0] 0 (rws (fun n => [I n]) v22).length), (14, V.bool ((gt x21 a19) == a20))], [([18, 19, 0], Obj.rows 1 (rws (fun n => [I n]) v22) false)], [], []⟩) ?_ (fun HJ543 => ?_)
  ·intro v22 h
   replace h : go_cell_Cas_j1 a19 a20 x21 v22 = some r := h
   rw [go_cell_Cas_j1] at h
   repeat first|apply sq|apply sk|with_reducible first|apply tn|apply bn
   refine Safe.region ?_
   refine Qf E_good ?_
   refine Qf E_good ?_
   refine Qf E_good ?_
   refine Qf E_good ?_
   refine Qf E_good ?_
   refine SafeOps.nil ?_
   repeat first|apply sq|apply sk|with_reducible first|apply tn|apply bn
   refine Safe.ret ?_
   repeat (first | with_reducible refine thenQ.r ?_ | with_reducible refine blockQ.r ?_)
   obtain rfl := Option.some.inj h
   exact retQ.gen (vs := [V.ref [18, 19, 0] 0 (rws (fun n => [I n]) v22).length, V.bool ((gt x21 a19) == a20), I 0]) rfl (.tmp rfl (.tmp rfl (.tmp rfl .nil))) (by exact (.tup (.cons (.own rfl rfl) (.cons (.free rfl) (.cons (.free rfl) .nil))))) (by simp) (.inr rfl)
  ·skip
   refine ifG h (fun hc544 h => ?_) (fun hc544 h => ?_)
   ·skip
    refine Safe.condK rfl hc544 ?_
    repeat first|apply sq|apply sk|with_reducible first|apply tn|apply bn
    refine Safe.region ?_
    refine Qf E_good ?_
    refine Qf E_good ?_
    refine Q0 E_good rfl (v := V.ptr [18, 19, 0] (0 + Int.toNat a19) 0) (.fn rfl) ?_
    refine SafeOps.store (z := Obj.rows 1 (rws (fun n => [I n]) (st x21 a19 a24)) false) E_good rfl rfl rfl rfl rfl rfl rfl (.rowsM (f := (fun n => [I n])) (xs := x21) (y := a24) hb541 rfl rfl rfl rfl) ?_
    refine SafeOps.see 19 (u := V.ref [18, 19, 0] 0 (rws (fun n => [I n]) (st x21 a19 a24)).length) rfl (.len (by simp [rws, st])) ?_
    refine SafeOps.see 11 (u := V.ref [18, 19, 0] 0 (rws (fun n => [I n]) (st x21 a19 a24)).length) rfl (.len (by simp [rws, st])) ?_
    refine SafeOps.nil ?_
    repeat (first | refine Safe.skip ?_ | with_reducible refine thenQ.n ?_ | with_reducible refine blockQ.n ?_)
    exact Safe.got (HJ543 (st x21 a19 a24) h) (.cov ⟨rfl, rfl, (ut (ut upT_nil)), (uo upOb_nil), upOut_nil, rfl⟩)
   ·skip
    refine Safe.condN rfl hc544 ?_
    repeat (first | refine Safe.skip ?_ | with_reducible refine thenQ.n ?_ | with_reducible refine blockQ.n ?_)
    exact Safe.got (HJ543 (x21) h) (.cov ⟨rfl, rfl, (ut (ut upT_nil)), (uo upOb_nil), upOut_nil, rfl⟩)

noncomputable def go_ring_Step_j81 (a25 : api_Hand) (v26 : Int) (v27 : Int) (v28 : Int) (v29 : Int) (v30 : Bool) (v31 : Int) (v32 : List Int) (v33 : Int) : Option ((List Int) × api_Hand × Int) :=
 if (v33 != 0) = true then
  some ([], api_Hand.zero, v33)
 else
  some (v32, (api_Hand.mk a25.Kind v26 v27 v28 v29 v30 v31), 0)

noncomputable def go_ring_Step_j87 (a34 : List Int) (a25 : api_Hand) (x35 : Int) (v36 : Int) : Option ((List Int) × api_Hand × Int) :=
 go_ring_Step_j81 a25 (IntKind.i64.wrap (a25.Pc + 1)) a25.V x35 a25.B a25.Won a25.State ([] ++ a34) v36

noncomputable def go_ring_Step_j86 (a34 : List Int) (a25 : api_Hand) (x35 : Int) (v37 : Int) : Option ((List Int) × api_Hand × Int) :=
 if (!((decide (x35 ≥ 0)) && (decide (x35 ≤ 1099511627776)))) = true then
  go_ring_Step_j87 a34 a25 x35 9
 else
  go_ring_Step_j87 a34 a25 x35 v37

noncomputable def go_ring_Step_j94 (a34 : List Int) (a25 : api_Hand) (x38 : Int) (v39 : Int) (v40 : Int) (v41 : Int) : Option ((List Int) × api_Hand × Int) :=
 go_ring_Step_j81 a25 v40 a25.V a25.T x38 a25.Won v41 ([] ++ a34) v39

noncomputable def go_ring_Step_j93 (a34 : List Int) (a42 : api_Deque) (a25 : api_Hand) (x38 : Int) (v39 : Int) : Option ((List Int) × api_Hand × Int) :=
 if (decide ((IntKind.i64.wrap (x38 - a25.T)) ≥ a42.Cap)) = true then
  go_ring_Step_j94 a34 a25 x38 v39 a25.Pc 3
 else
  go_ring_Step_j94 a34 a25 x38 v39 2 a25.State

noncomputable def go_ring_Step_j92 (a34 : List Int) (a42 : api_Deque) (a25 : api_Hand) (x38 : Int) (v43 : Int) : Option ((List Int) × api_Hand × Int) :=
 if (!((decide (x38 ≥ 0)) && (decide (x38 ≤ 1099511627776)))) = true then
  go_ring_Step_j93 a34 a42 a25 x38 9
 else
  go_ring_Step_j93 a34 a42 a25 x38 v43

noncomputable def go_ring_Step_j98 (a25 : api_Hand) (v44 : List Int) (v45 : Int) : Option ((List Int) × api_Hand × Int) :=
 go_ring_Step_j81 a25 (IntKind.i64.wrap (a25.Pc + 1)) a25.V a25.T a25.B a25.Won a25.State v44 v45

noncomputable def go_ring_Step_j100 (a25 : api_Hand) (v46 : List Int) (v47 : Int) : Option ((List Int) × api_Hand × Int) :=
 go_ring_Step_j98 a25 v46 v47

noncomputable def go_ring_Step_j101 (a34 : List Int) (a25 : api_Hand) (x48 : List Int) (x49 : Int) (v50 : Int) : Option ((List Int) × api_Hand × Int) :=
 if (x49 == 0) = true then
  go_ring_Step_j100 a25 x48 v50
 else
  go_ring_Step_j100 a25 ([] ++ a34) v50

noncomputable def go_ring_Step_j95 (a34 : List Int) (a42 : api_Deque) (a25 : api_Hand) (v51 : Int) : Option ((List Int) × api_Hand × Int) :=
 if (decide (a25.B ≥ 0)) = true then
  (go_pring_actor_slot (ring_actor.mk a25 ([] ++ a34) a42 v51) a25.B).bind fun x52 =>
  (go_cell_Store ([] ++ a34) x52 a25.V).bind fun (x48, x49) =>
  if (!(x49 == 0)) = true then
   go_ring_Step_j101 a34 a25 x48 x49 9
  else
   go_ring_Step_j101 a34 a25 x48 x49 v51
 else
  go_ring_Step_j98 a25 ([] ++ a34) v51

noncomputable def go_ring_Step_j105 (a25 : api_Hand) (v53 : List Int) (v54 : Int) : Option ((List Int) × api_Hand × Int) :=
 go_ring_Step_j81 a25 a25.Pc a25.V a25.T a25.B a25.Won 1 v53 v54

noncomputable def go_ring_Step_j107 (a25 : api_Hand) (v55 : List Int) (v56 : Int) : Option ((List Int) × api_Hand × Int) :=
 go_ring_Step_j105 a25 v55 v56

noncomputable def go_ring_Step_j108 (a34 : List Int) (a25 : api_Hand) (x57 : List Int) (x58 : Int) (v59 : Int) : Option ((List Int) × api_Hand × Int) :=
 if (x58 == 0) = true then
  go_ring_Step_j107 a25 x57 v59
 else
  go_ring_Step_j107 a25 ([] ++ a34) v59

noncomputable def go_ring_Step_j102 (a34 : List Int) (a42 : api_Deque) (a25 : api_Hand) (v60 : Int) : Option ((List Int) × api_Hand × Int) :=
 if (decide (a25.B ≥ 0)) = true then
  (go_cell_Store ([] ++ a34) (go_pring_actor_bottom (ring_actor.mk a25 ([] ++ a34) a42 v60)) (IntKind.i64.wrap (a25.B + 1))).bind fun (x57, x58) =>
  if (!(x58 == 0)) = true then
   go_ring_Step_j108 a34 a25 x57 x58 9
  else
   go_ring_Step_j108 a34 a25 x57 x58 v60
 else
  go_ring_Step_j105 a25 ([] ++ a34) v60

noncomputable def go_ring_Step_j114 (a34 : List Int) (a25 : api_Hand) (x61 : Int) (v62 : Int) : Option ((List Int) × api_Hand × Int) :=
 go_ring_Step_j81 a25 (IntKind.i64.wrap (a25.Pc + 1)) a25.V a25.T x61 a25.Won a25.State ([] ++ a34) v62

noncomputable def go_ring_Step_j113 (a34 : List Int) (a25 : api_Hand) (x61 : Int) (v63 : Int) : Option ((List Int) × api_Hand × Int) :=
 if (!((decide (x61 ≥ 0)) && (decide (x61 ≤ 1099511627776)))) = true then
  go_ring_Step_j114 a34 a25 x61 9
 else
  go_ring_Step_j114 a34 a25 x61 v63

noncomputable def go_ring_Step_j118 (a25 : api_Hand) (v64 : Int) (v65 : List Int) (v66 : Int) : Option ((List Int) × api_Hand × Int) :=
 go_ring_Step_j81 a25 (IntKind.i64.wrap (a25.Pc + 1)) a25.V a25.T v64 a25.Won a25.State v65 v66

noncomputable def go_ring_Step_j120 (a25 : api_Hand) (v67 : List Int) (v68 : Int) : Option ((List Int) × api_Hand × Int) :=
 go_ring_Step_j118 a25 (IntKind.i64.wrap (a25.B - 1)) v67 v68

noncomputable def go_ring_Step_j121 (a34 : List Int) (a25 : api_Hand) (x69 : List Int) (x70 : Int) (v71 : Int) : Option ((List Int) × api_Hand × Int) :=
 if (x70 == 0) = true then
  go_ring_Step_j120 a25 x69 v71
 else
  go_ring_Step_j120 a25 ([] ++ a34) v71

noncomputable def go_ring_Step_j115 (a34 : List Int) (a42 : api_Deque) (a25 : api_Hand) (v72 : Int) : Option ((List Int) × api_Hand × Int) :=
 if (decide (a25.B ≥ 0)) = true then
  (go_cell_Store ([] ++ a34) (go_pring_actor_bottom (ring_actor.mk (api_Hand.mk a25.Kind a25.Pc a25.V a25.T (IntKind.i64.wrap (a25.B - 1)) a25.Won a25.State) ([] ++ a34) a42 v72)) (IntKind.i64.wrap (a25.B - 1))).bind fun (x69, x70) =>
  if (!(x70 == 0)) = true then
   go_ring_Step_j121 a34 a25 x69 x70 9
  else
   go_ring_Step_j121 a34 a25 x69 x70 v72
 else
  go_ring_Step_j118 a25 a25.B ([] ++ a34) v72

noncomputable def go_ring_Step_j127 (a34 : List Int) (a25 : api_Hand) (x73 : Int) (v74 : Int) : Option ((List Int) × api_Hand × Int) :=
 if (decide (x73 > a25.B)) = true then
  go_ring_Step_j81 a25 3 a25.V x73 a25.B a25.Won a25.State ([] ++ a34) v74
 else
  go_ring_Step_j81 a25 4 a25.V x73 a25.B a25.Won a25.State ([] ++ a34) v74

noncomputable def go_ring_Step_j126 (a34 : List Int) (a25 : api_Hand) (x73 : Int) (v75 : Int) : Option ((List Int) × api_Hand × Int) :=
 if (!((decide (x73 ≥ 0)) && (decide (x73 ≤ 1099511627776)))) = true then
  go_ring_Step_j127 a34 a25 x73 9
 else
  go_ring_Step_j127 a34 a25 x73 v75

noncomputable def go_ring_Step_j131 (a25 : api_Hand) (v76 : List Int) (v77 : Int) : Option ((List Int) × api_Hand × Int) :=
 go_ring_Step_j81 a25 a25.Pc a25.V a25.T a25.B a25.Won 2 v76 v77

noncomputable def go_ring_Step_j133 (a25 : api_Hand) (v78 : List Int) (v79 : Int) : Option ((List Int) × api_Hand × Int) :=
 go_ring_Step_j131 a25 v78 v79

noncomputable def go_ring_Step_j134 (a34 : List Int) (a25 : api_Hand) (x80 : List Int) (x81 : Int) (v82 : Int) : Option ((List Int) × api_Hand × Int) :=
 if (x81 == 0) = true then
  go_ring_Step_j133 a25 x80 v82
 else
  go_ring_Step_j133 a25 ([] ++ a34) v82

noncomputable def go_ring_Step_j128 (a34 : List Int) (a42 : api_Deque) (a25 : api_Hand) (v83 : Int) : Option ((List Int) × api_Hand × Int) :=
 if (decide (a25.T ≥ 0)) = true then
  (go_cell_Store ([] ++ a34) (go_pring_actor_bottom (ring_actor.mk a25 ([] ++ a34) a42 v83)) a25.T).bind fun (x80, x81) =>
  if (!(x81 == 0)) = true then
   go_ring_Step_j134 a34 a25 x80 x81 9
  else
   go_ring_Step_j134 a34 a25 x80 x81 v83
 else
  go_ring_Step_j131 a25 ([] ++ a34) v83

noncomputable def go_ring_Step_j139 (a34 : List Int) (a25 : api_Hand) (v84 : Int) (v85 : Int) (v86 : Int) (v87 : Int) : Option ((List Int) × api_Hand × Int) :=
 go_ring_Step_j81 a25 v86 v84 a25.T a25.B a25.Won v87 ([] ++ a34) v85

noncomputable def go_ring_Step_j138 (a34 : List Int) (a25 : api_Hand) (v84 : Int) (v85 : Int) : Option ((List Int) × api_Hand × Int) :=
 if (decide (a25.B > a25.T)) = true then
  go_ring_Step_j139 a34 a25 v84 v85 a25.Pc 1
 else
  go_ring_Step_j139 a34 a25 v84 v85 5 a25.State

noncomputable def go_ring_Step_j141 (a34 : List Int) (a25 : api_Hand) (x88 : Int) (v89 : Int) : Option ((List Int) × api_Hand × Int) :=
 go_ring_Step_j138 a34 a25 x88 v89

noncomputable def go_ring_Step_j135 (a34 : List Int) (a42 : api_Deque) (a25 : api_Hand) (v90 : Int) : Option ((List Int) × api_Hand × Int) :=
 if (decide (a25.B ≥ 0)) = true then
  (go_pring_actor_slot (ring_actor.mk a25 ([] ++ a34) a42 v90) a25.B).bind fun x91 =>
  (go_cell_Load ([] ++ a34) x91).bind fun (x88, x92) =>
  if (!(x92 == 0)) = true then
   go_ring_Step_j141 a34 a25 x88 9
  else
   go_ring_Step_j141 a34 a25 x88 v90
 else
  go_ring_Step_j138 a34 a25 a25.V v90

noncomputable def go_ring_Step_j144 (a25 : api_Hand) (v93 : Bool) (v94 : List Int) (v95 : Int) : Option ((List Int) × api_Hand × Int) :=
 go_ring_Step_j81 a25 (IntKind.i64.wrap (a25.Pc + 1)) a25.V a25.T a25.B v93 a25.State v94 v95

noncomputable def go_ring_Step_j145 (a34 : List Int) (a25 : api_Hand) (x96 : List Int) (x97 : Bool) (x98 : Int) (v99 : Int) : Option ((List Int) × api_Hand × Int) :=
 if (x98 == 0) = true then
  go_ring_Step_j144 a25 x97 x96 v99
 else
  go_ring_Step_j144 a25 x97 ([] ++ a34) v99

noncomputable def go_ring_Step_j142 (a34 : List Int) (a42 : api_Deque) (a25 : api_Hand) (v100 : Int) : Option ((List Int) × api_Hand × Int) :=
 if (decide (a25.T ≥ 0)) = true then
  (go_cell_Cas ([] ++ a34) (go_pring_actor_top (ring_actor.mk a25 ([] ++ a34) a42 v100)) a25.T (IntKind.i64.wrap (a25.T + 1))).bind fun (x96, x97, x98) =>
  if (!(x98 == 0)) = true then
   go_ring_Step_j145 a34 a25 x96 x97 x98 9
  else
   go_ring_Step_j145 a34 a25 x96 x97 x98 v100
 else
  go_ring_Step_j81 a25 (IntKind.i64.wrap (a25.Pc + 1)) a25.V a25.T a25.B false a25.State ([] ++ a34) v100

noncomputable def go_ring_Step_j149 (a25 : api_Hand) (v101 : List Int) (v102 : Int) : Option ((List Int) × api_Hand × Int) :=
 if a25.Won = true then
  go_ring_Step_j81 a25 a25.Pc a25.V a25.T a25.B a25.Won 1 v101 v102
 else
  go_ring_Step_j81 a25 a25.Pc a25.V a25.T a25.B a25.Won 2 v101 v102

noncomputable def go_ring_Step_j151 (a25 : api_Hand) (v103 : List Int) (v104 : Int) : Option ((List Int) × api_Hand × Int) :=
 go_ring_Step_j149 a25 v103 v104

noncomputable def go_ring_Step_j152 (a34 : List Int) (a25 : api_Hand) (x105 : List Int) (x106 : Int) (v107 : Int) : Option ((List Int) × api_Hand × Int) :=
 if (x106 == 0) = true then
  go_ring_Step_j151 a25 x105 v107
 else
  go_ring_Step_j151 a25 ([] ++ a34) v107

noncomputable def go_ring_Step_j146 (a34 : List Int) (a42 : api_Deque) (a25 : api_Hand) (v108 : Int) : Option ((List Int) × api_Hand × Int) :=
 if (decide (a25.T ≥ 0)) = true then
  (go_cell_Store ([] ++ a34) (go_pring_actor_bottom (ring_actor.mk a25 ([] ++ a34) a42 v108)) (IntKind.i64.wrap (a25.T + 1))).bind fun (x105, x106) =>
  if (!(x106 == 0)) = true then
   go_ring_Step_j152 a34 a25 x105 x106 9
  else
   go_ring_Step_j152 a34 a25 x105 x106 v108
 else
  go_ring_Step_j149 a25 ([] ++ a34) v108

noncomputable def go_ring_Step_j159 (a34 : List Int) (a25 : api_Hand) (x109 : Int) (v110 : Int) (v111 : Int) (v112 : Int) : Option ((List Int) × api_Hand × Int) :=
 go_ring_Step_j81 a25 v111 a25.V a25.T x109 a25.Won v112 ([] ++ a34) v110

noncomputable def go_ring_Step_j158 (a34 : List Int) (a25 : api_Hand) (x109 : Int) (v110 : Int) : Option ((List Int) × api_Hand × Int) :=
 if (decide ((IntKind.i64.wrap (x109 - a25.T)) < 1)) = true then
  go_ring_Step_j159 a34 a25 x109 v110 a25.Pc 2
 else
  go_ring_Step_j159 a34 a25 x109 v110 2 a25.State

noncomputable def go_ring_Step_j157 (a34 : List Int) (a25 : api_Hand) (x109 : Int) (v113 : Int) : Option ((List Int) × api_Hand × Int) :=
 if (!((decide (x109 ≥ (-1))) && (decide (x109 ≤ 1099511627776)))) = true then
  go_ring_Step_j158 a34 a25 x109 9
 else
  go_ring_Step_j158 a34 a25 x109 v113

noncomputable def go_ring_Step_j163 (a34 : List Int) (a25 : api_Hand) (v114 : Int) (v115 : Int) : Option ((List Int) × api_Hand × Int) :=
 go_ring_Step_j81 a25 (IntKind.i64.wrap (a25.Pc + 1)) v114 a25.T a25.B a25.Won a25.State ([] ++ a34) v115

noncomputable def go_ring_Step_j165 (a34 : List Int) (a25 : api_Hand) (x116 : Int) (v117 : Int) : Option ((List Int) × api_Hand × Int) :=
 go_ring_Step_j163 a34 a25 x116 v117

noncomputable def go_ring_Step_j160 (a34 : List Int) (a42 : api_Deque) (a25 : api_Hand) (v118 : Int) : Option ((List Int) × api_Hand × Int) :=
 if (decide (a25.T ≥ 0)) = true then
  (go_pring_actor_slot (ring_actor.mk a25 ([] ++ a34) a42 v118) a25.T).bind fun x119 =>
  (go_cell_Load ([] ++ a34) x119).bind fun (x116, x120) =>
  if (!(x120 == 0)) = true then
   go_ring_Step_j165 a34 a25 x116 9
  else
   go_ring_Step_j165 a34 a25 x116 v118
 else
  go_ring_Step_j163 a34 a25 a25.V v118

noncomputable def go_ring_Step_j168 (a25 : api_Hand) (v121 : Bool) (v122 : List Int) (v123 : Int) : Option ((List Int) × api_Hand × Int) :=
 if v121 = true then
  go_ring_Step_j81 a25 a25.Pc a25.V a25.T a25.B a25.Won 1 v122 v123
 else
  go_ring_Step_j81 a25 a25.Pc a25.V a25.T a25.B a25.Won 4 v122 v123

noncomputable def go_ring_Step_j169 (a34 : List Int) (a25 : api_Hand) (x124 : List Int) (x125 : Bool) (x126 : Int) (v127 : Int) : Option ((List Int) × api_Hand × Int) :=
 if (x126 == 0) = true then
  go_ring_Step_j168 a25 x125 x124 v127
 else
  go_ring_Step_j168 a25 x125 ([] ++ a34) v127

noncomputable def go_ring_Step_j166 (a34 : List Int) (a42 : api_Deque) (a25 : api_Hand) (v128 : Int) : Option ((List Int) × api_Hand × Int) :=
 if (decide (a25.T ≥ 0)) = true then
  (go_cell_Cas ([] ++ a34) (go_pring_actor_top (ring_actor.mk (api_Hand.mk a25.Kind a25.Pc a25.V a25.T a25.B a25.Won 4) ([] ++ a34) a42 v128)) a25.T (IntKind.i64.wrap (a25.T + 1))).bind fun (x124, x125, x126) =>
  if (!(x126 == 0)) = true then
   go_ring_Step_j169 a34 a25 x124 x125 x126 9
  else
   go_ring_Step_j169 a34 a25 x124 x125 x126 v128
 else
  go_ring_Step_j81 a25 a25.Pc a25.V a25.T a25.B a25.Won 4 ([] ++ a34) v128

noncomputable def go_ring_Step (a34 : List Int) (a42 : api_Deque) (a25 : api_Hand) : Option ((List Int) × api_Hand × Int) :=
 if (((go_ring_Check a34 a42) != 0) || (!(go_ring_may a25))) = true then
  some ([], api_Hand.zero, 1)
 else
  if (a25.State != 0) = true then
   some ([], api_Hand.zero, 9)
  else
   if few ([] ++ a34).length then
    letO (go_ring_accesses a25.Kind) fun x129 =>
    if 0 ≤ a25.Pc ∧ a25.Pc < (x129.length : Int) then
     if (gt x129 a25.Pc) = 37 then
      (go_cell_Load ([] ++ a34) (go_pring_actor_top (ring_actor.mk a25 ([] ++ a34) a42 0))).bind fun (x35, x130) =>
      if (!(x130 == 0)) = true then
       go_ring_Step_j86 a34 a25 x35 9
      else
       go_ring_Step_j86 a34 a25 x35 0
     else
      if (gt x129 a25.Pc) = 38 then
       (go_cell_Load ([] ++ a34) (go_pring_actor_bottom (ring_actor.mk a25 ([] ++ a34) a42 0))).bind fun (x38, x131) =>
       if (!(x131 == 0)) = true then
        go_ring_Step_j92 a34 a42 a25 x38 9
       else
        go_ring_Step_j92 a34 a42 a25 x38 0
      else
       if (gt x129 a25.Pc) = 39 then
        if (!(decide (a25.B ≥ 0))) = true then
         go_ring_Step_j95 a34 a42 a25 9
        else
         go_ring_Step_j95 a34 a42 a25 0
       else
        if (gt x129 a25.Pc) = 40 then
         if (!(decide (a25.B ≥ 0))) = true then
          go_ring_Step_j102 a34 a42 a25 9
         else
          go_ring_Step_j102 a34 a42 a25 0
        else
         if (gt x129 a25.Pc) = 41 then
          (go_cell_Load ([] ++ a34) (go_pring_actor_bottom (ring_actor.mk a25 ([] ++ a34) a42 0))).bind fun (x61, x132) =>
          if (!(x132 == 0)) = true then
           go_ring_Step_j113 a34 a25 x61 9
          else
           go_ring_Step_j113 a34 a25 x61 0
         else
          if (gt x129 a25.Pc) = 42 then
           if (!(decide (a25.B ≥ 0))) = true then
            go_ring_Step_j115 a34 a42 a25 9
           else
            go_ring_Step_j115 a34 a42 a25 0
          else
           if (gt x129 a25.Pc) = 43 then
            (go_cell_Load ([] ++ a34) (go_pring_actor_top (ring_actor.mk a25 ([] ++ a34) a42 0))).bind fun (x73, x133) =>
            if (!(x133 == 0)) = true then
             go_ring_Step_j126 a34 a25 x73 9
            else
             go_ring_Step_j126 a34 a25 x73 0
           else
            if (gt x129 a25.Pc) = 44 then
             if (!(decide (a25.T ≥ 0))) = true then
              go_ring_Step_j128 a34 a42 a25 9
             else
              go_ring_Step_j128 a34 a42 a25 0
            else
             if (gt x129 a25.Pc) = 45 then
              if (!(decide (a25.B ≥ 0))) = true then
               go_ring_Step_j135 a34 a42 a25 9
              else
               go_ring_Step_j135 a34 a42 a25 0
             else
              if (gt x129 a25.Pc) = 46 then
               if (!(decide (a25.T ≥ 0))) = true then
                go_ring_Step_j142 a34 a42 a25 9
               else
                go_ring_Step_j142 a34 a42 a25 0
              else
               if (gt x129 a25.Pc) = 47 then
                if (!(decide (a25.T ≥ 0))) = true then
                 go_ring_Step_j146 a34 a42 a25 9
                else
                 go_ring_Step_j146 a34 a42 a25 0
               else
                if (gt x129 a25.Pc) = 48 then
                 (go_cell_Load ([] ++ a34) (go_pring_actor_bottom (ring_actor.mk a25 ([] ++ a34) a42 0))).bind fun (x109, x134) =>
                 if (!(x134 == 0)) = true then
                  go_ring_Step_j157 a34 a25 x109 9
                 else
                  go_ring_Step_j157 a34 a25 x109 0
                else
                 if (gt x129 a25.Pc) = 49 then
                  if (!(decide (a25.T ≥ 0))) = true then
                   go_ring_Step_j160 a34 a42 a25 9
                  else
                   go_ring_Step_j160 a34 a42 a25 0
                 else
                  if (gt x129 a25.Pc) = 50 then
                   if (!(decide (a25.T ≥ 0))) = true then
                    go_ring_Step_j166 a34 a42 a25 9
                   else
                    go_ring_Step_j166 a34 a42 a25 0
                  else
                   none
    else none
   else none
end Go.Proofs.Ytoapmmcoaggekaa
