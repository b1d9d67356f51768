/- Helper lemmas for the claim's theorem: an abstract machine over the model, proved sound; no condition beyond each lemma's own. -/
import Derived.Test.YtoapmmcoaggekaaSEnv
import Derived.Test.YtoapmmcoaggekaaAmI
import Derived.Test.YtoapmmcoaggekaaAmJ
set_option linter.unusedVariables false
set_option linter.unusedSimpArgs false
set_option linter.unnecessarySimpa false
set_option linter.unusedSectionVars false
namespace Go.Proofs.Ytoapmmcoaggekaa
open Go Go.AM
set_option maxRecDepth 100000
set_option maxHeartbeats 1000000
set_option linter.unusedVariables false
set_option linter.unusedSimpArgs false
variable {gl : List (Nat × List V)}
@[ext] structure api_Deque where
 Base : Int
 Cap : Int
 deriving Inhabited
def api_Deque.cells (x : api_Deque) : List V := [V.int .i64 x.Base, V.int .i64 x.Cap]
def api_Deque.zero : api_Deque := ⟨0, 0⟩
def api_Deque.beq (x y : api_Deque) : Bool := ((x.Base == y.Base) && ((x.Cap == y.Cap) && true))

@[ext] structure api_Hand where
 Kind : Int
 Pc : Int
 V : Int
 T : Int
 B : Int
 Won : Bool
 State : Int
 deriving Inhabited
def api_Hand.cells (x : api_Hand) : List Go.AM.V := [Go.AM.V.int .i64 x.Kind, Go.AM.V.int .i64 x.Pc, Go.AM.V.int .i64 x.V, Go.AM.V.int .i64 x.T, Go.AM.V.int .i64 x.B, Go.AM.V.bool x.Won, Go.AM.V.int .i64 x.State]
def api_Hand.zero : api_Hand := ⟨0, 0, 0, 0, 0, false, 0⟩
def api_Hand.beq (x y : api_Hand) : Bool := ((x.Kind == y.Kind) && ((x.Pc == y.Pc) && ((x.V == y.V) && ((x.T == y.T) && ((x.B == y.B) && ((x.Won == y.Won) && ((x.State == y.State) && true)))))))

def go_ring_accesses (a0_10 : Int) : List Nat :=
 ((mget (mput (mput (mput [] 1 [37, 38, 39, 40]) 2 [41, 42, 43, 44, 45, 46, 47]) 3 [37, 48, 49, 50]) a0_10).getD [])

theorem go_ring_accesses_sc (a0_10 : Int) (r : List Nat) (h : go_ring_accesses a0_10 = r) : SC Try.prog gl 22 [V.int .i64 a0_10] (V.sl 1 (rws (fun f : Nat => [V.fn f []]) r)) := by
 rw [go_ring_accesses] at h
 refine SC.of E_good Try.func22 rfl (fun _ _ => Try.call22 _ _) rfl ?_
 repeat (first | refine sq ?_ | refine sk ?_ | with_reducible first | refine tn ?_ | refine bn ?_)
 refine Safe.region ?_
 refine Qf E_good ?_
 refine SafeOps.nil ?_
 repeat (first | refine sq ?_ | refine sk ?_ | with_reducible first | refine tn ?_ | refine bn ?_)
 refine Safe.region ?_
 refine SafeOps.quiet1 E_good rfl rfl rfl (.mkMapM (fun n : Int => V.int .i64 n) (fun l : List Nat => V.sl 1 (rws (fun f : Nat => [V.fn f []]) l))) rfl ?_
 refine SafeOps.quiet1 E_good rfl rfl rfl (.litM (f := (fun f : Nat => [V.fn f []])) (xs := [37, 38, 39, 40]) rfl rfl (by decide) rfl rfl rfl rfl rfl) rfl ?_
 refine SafeOps.freeze [4] rfl ?_
 refine SafeOps.see 4 (u := V.sl 1 (rws (fun f : Nat => [V.fn f []]) [37, 38, 39, 40])) rfl (.full rfl rfl) ?_
 refine SafeOps.mputM (fun n : Int => V.int .i64 n) (fun l : List Nat => V.sl 1 (rws (fun f : Nat => [V.fn f []]) l)) [] 1 [37, 38, 39, 40] E_good (keyI .i64) rfl (.inr rfl) rfl rfl rfl rfl rfl rfl rfl rfl rfl ?_
 refine SafeOps.quiet1 E_good rfl rfl rfl (.litM (f := (fun f : Nat => [V.fn f []])) (xs := [41, 42, 43, 44, 45, 46, 47]) rfl rfl (by decide) rfl rfl rfl rfl rfl) rfl ?_
 refine SafeOps.freeze [5] rfl ?_
 refine SafeOps.see 5 (u := V.sl 1 (rws (fun f : Nat => [V.fn f []]) [41, 42, 43, 44, 45, 46, 47])) rfl (.full rfl rfl) ?_
 refine SafeOps.mputM (fun n : Int => V.int .i64 n) (fun l : List Nat => V.sl 1 (rws (fun f : Nat => [V.fn f []]) l)) (mput [] 1 [37, 38, 39, 40]) 2 [41, 42, 43, 44, 45, 46, 47] E_good (keyI .i64) rfl (.inr rfl) rfl rfl rfl rfl rfl rfl rfl rfl rfl ?_
 refine SafeOps.quiet1 E_good rfl rfl rfl (.litM (f := (fun f : Nat => [V.fn f []])) (xs := [37, 48, 49, 50]) rfl rfl (by decide) rfl rfl rfl rfl rfl) rfl ?_
 refine SafeOps.freeze [6] rfl ?_
 refine SafeOps.see 6 (u := V.sl 1 (rws (fun f : Nat => [V.fn f []]) [37, 48, 49, 50])) rfl (.full rfl rfl) ?_
 refine SafeOps.mputM (fun n : Int => V.int .i64 n) (fun l : List Nat => V.sl 1 (rws (fun f : Nat => [V.fn f []]) l)) (mput (mput [] 1 [37, 38, 39, 40]) 2 [41, 42, 43, 44, 45, 46, 47]) 3 [37, 48, 49, 50] E_good (keyI .i64) rfl (.inr rfl) rfl rfl rfl rfl rfl rfl rfl rfl rfl ?_
 refine Qf E_good ?_
 refine Qf E_good ?_
 refine SafeOps.lookSl (fun n : Int => V.int .i64 n) (fun f : Nat => [V.fn f []]) 1 (m := mput (mput (mput [] 1 [37, 38, 39, 40]) 2 [41, 42, 43, 44, 45, 46, 47]) 3 [37, 48, 49, 50]) (kk := a0_10) (keyI .i64) E_good rfl rfl rfl rfl rfl rfl rfl rfl rfl rfl rfl rfl rfl ?_
 refine Qf E_good ?_
 refine SafeOps.nil ?_
 repeat (first | refine sq ?_ | refine sk ?_ | with_reducible first | refine tn ?_ | refine bn ?_)
 refine Safe.ret ?_
 repeat (first | with_reducible refine thenQ.r ?_ | with_reducible refine blockQ.r ?_)
 obtain rfl := h
 exact retQ.gen (vs := [V.sl 1 (rws (fun f : Nat => [V.fn f []]) ((mget (mput (mput (mput [] 1 [37, 38, 39, 40]) 2 [41, 42, 43, 44, 45, 46, 47]) 3 [37, 48, 49, 50]) a0_10).getD []))]) rfl (.tmp (v := V.sl 1 (rws (fun f : Nat => [V.fn f []]) ((mget (mput (mput (mput [] 1 [37, 38, 39, 40]) 2 [41, 42, 43, 44, 45, 46, 47]) 3 [37, 48, 49, 50]) a0_10).getD []))) rfl .nil) (.free rfl) (by simp) (.inr rfl)

def go_ring_Start (a0_8 : Int) (a1_9 : Int) : api_Hand × Int :=
 letO (go_ring_accesses a0_8) fun x_14 =>
 if ((x_14.length : Int) == 0) = true then
  (api_Hand.zero, 1)
 else
  ((api_Hand.mk a0_8 0 a1_9 0 0 false 0), 0)

theorem go_ring_Start_sc (a0_8 : Int) (a1_9 : Int) (r : api_Hand × Int) (h : go_ring_Start a0_8 a1_9 = r) : SC Try.prog gl 12 [V.int .i64 a0_8, V.int .i64 a1_9] (V.tup [V.agg [V.int .i64 r.1.Kind, V.int .i64 r.1.Pc, V.int .i64 r.1.V, V.int .i64 r.1.T, V.int .i64 r.1.B, V.bool r.1.Won, V.int .i64 r.1.State], V.int .i64 r.2]) := by
 rw [go_ring_Start] at h
 refine SC.of E_good Try.func12 rfl (fun _ _ => Try.call12 _ _) rfl ?_
 repeat (first | refine sq ?_ | refine sk ?_ | with_reducible first | refine tn ?_ | refine bn ?_)
 refine Safe.region ?_
 refine SafeOps.quiet1 E_good rfl rfl rfl (.alloc rfl rfl) rfl ?_
 refine Qf E_good ?_
 refine SafeOps.nil ?_
 repeat (first | refine sq ?_ | refine sk ?_ | with_reducible first | refine tn ?_ | refine bn ?_)
 refine Safe.region ?_
 refine Qf E_good ?_
 refine letG h ?_
 intro x_14 he15 h
 refine Q0 E_good rfl (v := V.sl 1 (rws (fun f : Nat => [V.fn f []]) x_14)) (.callP rfl rfl (go_ring_accesses_sc a0_8 _ he15) rfl) ?_
 refine Q0 E_good rfl (v := V.int .i64 (x_14.length : Int)) (.fnE rfl lenE) ?_
 refine Q0 E_good rfl (v := V.bool ((x_14.length : Int) == 0)) (.fn rfl) ?_
 refine SafeOps.nil ?_
 repeat (first | refine sq ?_ | refine sk ?_ | with_reducible first | refine tn ?_ | refine bn ?_)
 refine ifG h (fun hc16 h => ?_) (fun hc16 h => ?_)
 ·skip
  refine Safe.condK rfl hc16 ?_
  repeat (first | refine sq ?_ | refine sk ?_ | with_reducible first | refine tn ?_ | refine bn ?_)
  refine Safe.region ?_
  refine Q0 E_good rfl (v := V.agg [V.int .i64 0, V.int .i64 0, V.int .i64 0, V.int .i64 0, V.int .i64 0, V.bool false, V.int .i64 0]) (.fn rfl) ?_
  refine SafeOps.store (z := Obj.box [V.int .i64 0, V.int .i64 0, V.int .i64 0, V.int .i64 0, V.int .i64 0, V.bool false, V.int .i64 0]) E_good rfl rfl rfl rfl rfl rfl rfl (.boxM (c := 7) rfl rfl (Nat.le_of_ble_eq_true rfl) rfl) ?_
  refine Qf E_good ?_
  refine SafeOps.nil ?_
  repeat (first | refine sq ?_ | refine sk ?_ | with_reducible first | refine tn ?_ | refine bn ?_)
  refine Safe.ret ?_
  repeat (first | with_reducible refine thenQ.r ?_ | with_reducible refine blockQ.r ?_)
  obtain rfl := h
  exact retQ.gen (vs := [V.agg [V.int .i64 0, V.int .i64 0, V.int .i64 0, V.int .i64 0, V.int .i64 0, V.bool false, V.int .i64 0], V.int .i64 1]) rfl (.cell (v := V.agg [V.int .i64 0, V.int .i64 0, V.int .i64 0, V.int .i64 0, V.int .i64 0, V.bool false, V.int .i64 0]) rfl rfl (.box rfl rfl) rfl (.tmp (v := V.int .i64 1) rfl .nil)) (.free rfl) (by simp) (.inr rfl)
 ·skip
  refine Safe.condN rfl hc16 ?_
  repeat (first | refine sq ?_ | refine sk ?_ | with_reducible first | refine tn ?_ | refine bn ?_)
  refine Safe.region ?_
  refine Qf E_good ?_
  refine Qf E_good ?_
  refine Q0 E_good rfl (v := V.agg [V.int .i64 a0_8, V.int .i64 0, V.int .i64 a1_9, V.int .i64 0, V.int .i64 0, V.bool false, V.int .i64 0]) (.fn rfl) ?_
  refine SafeOps.store (z := Obj.box [V.int .i64 a0_8, V.int .i64 0, V.int .i64 a1_9, V.int .i64 0, V.int .i64 0, V.bool false, V.int .i64 0]) E_good rfl rfl rfl rfl rfl rfl rfl (.boxM (c := 7) rfl rfl (Nat.le_of_ble_eq_true rfl) rfl) ?_
  refine Qf E_good ?_
  refine SafeOps.nil ?_
  repeat (first | refine sq ?_ | refine sk ?_ | with_reducible first | refine tn ?_ | refine bn ?_)
  refine Safe.ret ?_
  repeat (first | with_reducible refine thenQ.r ?_ | with_reducible refine blockQ.r ?_)
  obtain rfl := h
  exact retQ.gen (vs := [V.agg [V.int .i64 a0_8, V.int .i64 0, V.int .i64 a1_9, V.int .i64 0, V.int .i64 0, V.bool false, V.int .i64 0], V.int .i64 0]) rfl (.cell (v := V.agg [V.int .i64 a0_8, V.int .i64 0, V.int .i64 a1_9, V.int .i64 0, V.int .i64 0, V.bool false, V.int .i64 0]) rfl rfl (.box rfl rfl) rfl (.tmp (v := V.int .i64 0) rfl .nil)) (.free rfl) (by simp) (.inr rfl)

def go_cell_Check (a0_25 : List Int) : Int :=
 if (decide ((a0_25.length : Int) > 65536)) = true then
  1
 else
  0

theorem go_cell_Check_sc (a0_25 : List Int) (r : Int) (h : go_cell_Check a0_25 = r) : SC Try.prog gl 35 [V.sl 1 (rws (fun n => [V.int .i64 n]) a0_25)] (V.int .i64 r) := by
 rw [go_cell_Check] at h
 refine SC.of E_good Try.func35 rfl (fun _ _ => Try.call35 _ _) rfl ?_
 repeat (first | refine sq ?_ | refine sk ?_ | with_reducible first | refine tn ?_ | refine bn ?_)
 refine Safe.region ?_
 refine Qf E_good ?_
 refine SafeOps.nil ?_
 repeat (first | refine sq ?_ | refine sk ?_ | with_reducible first | refine tn ?_ | refine bn ?_)
 refine Safe.region ?_
 refine Qf E_good ?_
 refine Q0 E_good rfl (v := V.int .i64 (a0_25.length : Int)) (.fnE rfl lenE) ?_
 refine Q0 E_good rfl (v := V.bool (decide ((a0_25.length : Int) > 65536))) (.fn rfl) ?_
 refine SafeOps.nil ?_
 repeat (first | refine sq ?_ | refine sk ?_ | with_reducible first | refine tn ?_ | refine bn ?_)
 refine ifG h (fun hc27 h => ?_) (fun hc27 h => ?_)
 ·skip
  refine Safe.condK rfl hc27 ?_
  repeat (first | refine sq ?_ | refine sk ?_ | with_reducible first | refine tn ?_ | refine bn ?_)
  refine Safe.region ?_
  refine Qf E_good ?_
  refine SafeOps.nil ?_
  repeat (first | refine sq ?_ | refine sk ?_ | with_reducible first | refine tn ?_ | refine bn ?_)
  refine Safe.ret ?_
  repeat (first | with_reducible refine thenQ.r ?_ | with_reducible refine blockQ.r ?_)
  obtain rfl := h
  exact retQ.gen (vs := [V.int .i64 1]) rfl (.tmp (v := V.int .i64 1) rfl .nil) (.free rfl) (by simp) (.inr rfl)
 ·skip
  refine Safe.condN rfl hc27 ?_
  repeat (first | refine sq ?_ | refine sk ?_ | with_reducible first | refine tn ?_ | refine bn ?_)
  refine Safe.region ?_
  refine Qf E_good ?_
  refine SafeOps.nil ?_
  repeat (first | refine sq ?_ | refine sk ?_ | with_reducible first | refine tn ?_ | refine bn ?_)
  refine Safe.ret ?_
  repeat (first | with_reducible refine thenQ.r ?_ | with_reducible refine blockQ.r ?_)
  obtain rfl := h
  exact retQ.gen (vs := [V.int .i64 0]) rfl (.tmp (v := V.int .i64 0) rfl .nil) (.free rfl) (by simp) (.inr rfl)

def go_ring_Check (a0_23 : List Int) (a1_24 : api_Deque) : Int :=
 if ((((((go_cell_Check a0_23) != 0) || (decide (a1_24.Cap < 1))) || (decide (a1_24.Cap > 1024))) || (decide (a1_24.Base < 0))) || (decide (a1_24.Base > (IntKind.i64.wrap ((IntKind.i64.wrap ((a0_23.length : Int) - a1_24.Cap)) - 2))))) = true then
  1
 else
  0

theorem go_ring_Check_sc (a0_23 : List Int) (a1_24 : api_Deque) (r : Int) (h : go_ring_Check a0_23 a1_24 = r) : SC Try.prog gl 17 [V.sl 1 (rws (fun n => [V.int .i64 n]) a0_23), V.agg [V.int .i64 a1_24.Base, V.int .i64 a1_24.Cap]] (V.int .i64 r) := by
 rw [go_ring_Check] at h
 refine SC.of E_good Try.func17 rfl (fun _ _ => Try.call17 _ _) rfl ?_
 repeat (first | refine sq ?_ | refine sk ?_ | with_reducible first | refine tn ?_ | refine bn ?_)
 refine Safe.region ?_
 refine SafeOps.quiet1 E_good rfl rfl rfl (.box rfl rfl) rfl ?_
 refine Qf E_good ?_
 refine SafeOps.nil ?_
 repeat (first | refine sq ?_ | refine sk ?_ | with_reducible first | refine tn ?_ | refine bn ?_)
 refine Safe.region ?_
 refine Qf E_good ?_
 refine Q0 E_good rfl (v := V.int .i64 (go_cell_Check a0_23)) (.callP rfl rfl (go_cell_Check_sc a0_23 _ rfl) rfl) ?_
 refine Q0 E_good rfl (v := V.bool ((go_cell_Check a0_23) != 0)) (.fn rfl) ?_
 refine Qf E_good ?_
 refine SafeOps.bjoin 4 12 (b := (((go_cell_Check a0_23) != 0) || (decide (a1_24.Cap < 1)))) (b1 := true) (b0 := decide (a1_24.Cap < 1)) (fun hc33 K => ?_) (fun hc33 K => ?_) bj_or ?_
 ·skip
  refine SafeOps.skip (congrArg (fun b => some (!b)) hc33) rfl rfl ?_
  refine SafeOps.skip (congrArg (fun b => some (!b)) hc33) rfl rfl ?_
  refine SafeOps.skip (congrArg (fun b => some (!b)) hc33) rfl rfl ?_
  refine Q0 E_good rfl (v := V.bool true) (.pickK rfl hc33 rfl) ?_
  exact SafeOps.drop' 4 rfl rfl rfl K
 ·skip
  refine SafeOps.quiet0 E_good (congrArg (fun b => some (!b)) hc33) rfl rfl (v := V.ptr [3] 0 1) (.fn rfl) ?_
  refine SafeOps.quiet0 E_good (congrArg (fun b => some (!b)) hc33) rfl rfl (v := V.int .i64 a1_24.Cap) (.load rfl rfl (.box rfl rfl) rfl) ?_
  refine SafeOps.quiet0 E_good (congrArg (fun b => some (!b)) hc33) rfl rfl (v := V.bool (decide (a1_24.Cap < 1))) (.fn rfl) ?_
  refine Q0 E_good rfl (v := V.bool (decide (a1_24.Cap < 1))) (.pickK rfl hc33 rfl) ?_
  exact SafeOps.drop' 4 rfl rfl rfl K
 refine Qf E_good ?_
 refine SafeOps.bjoin 4 17 (b := ((((go_cell_Check a0_23) != 0) || (decide (a1_24.Cap < 1))) || (decide (a1_24.Cap > 1024)))) (b1 := true) (b0 := decide (a1_24.Cap > 1024)) (fun hc34 K => ?_) (fun hc34 K => ?_) bj_or ?_
 ·skip
  refine SafeOps.skip (congrArg (fun b => some (!b)) hc34) rfl rfl ?_
  refine SafeOps.skip (congrArg (fun b => some (!b)) hc34) rfl rfl ?_
  refine SafeOps.skip (congrArg (fun b => some (!b)) hc34) rfl rfl ?_
  refine Q0 E_good rfl (v := V.bool true) (.pickK rfl hc34 rfl) ?_
  exact SafeOps.drop' 4 rfl rfl rfl K
 ·skip
  refine SafeOps.quiet0 E_good (congrArg (fun b => some (!b)) hc34) rfl rfl (v := V.ptr [3] 0 1) (.fn rfl) ?_
  refine SafeOps.quiet0 E_good (congrArg (fun b => some (!b)) hc34) rfl rfl (v := V.int .i64 a1_24.Cap) (.load rfl rfl (.box rfl rfl) rfl) ?_
  refine SafeOps.quiet0 E_good (congrArg (fun b => some (!b)) hc34) rfl rfl (v := V.bool (decide (a1_24.Cap > 1024))) (.fn rfl) ?_
  refine Q0 E_good rfl (v := V.bool (decide (a1_24.Cap > 1024))) (.pickK rfl hc34 rfl) ?_
  exact SafeOps.drop' 4 rfl rfl rfl K
 refine Qf E_good ?_
 refine SafeOps.bjoin 4 22 (b := (((((go_cell_Check a0_23) != 0) || (decide (a1_24.Cap < 1))) || (decide (a1_24.Cap > 1024))) || (decide (a1_24.Base < 0)))) (b1 := true) (b0 := decide (a1_24.Base < 0)) (fun hc35 K => ?_) (fun hc35 K => ?_) bj_or ?_
 ·skip
  refine SafeOps.skip (congrArg (fun b => some (!b)) hc35) rfl rfl ?_
  refine SafeOps.skip (congrArg (fun b => some (!b)) hc35) rfl rfl ?_
  refine SafeOps.skip (congrArg (fun b => some (!b)) hc35) rfl rfl ?_
  refine Q0 E_good rfl (v := V.bool true) (.pickK rfl hc35 rfl) ?_
  exact SafeOps.drop' 4 rfl rfl rfl K
 ·skip
  refine SafeOps.quiet0 E_good (congrArg (fun b => some (!b)) hc35) rfl rfl (v := V.ptr [3] 0 0) (.fn rfl) ?_
  refine SafeOps.quiet0 E_good (congrArg (fun b => some (!b)) hc35) rfl rfl (v := V.int .i64 a1_24.Base) (.load rfl rfl (.box rfl rfl) rfl) ?_
  refine SafeOps.quiet0 E_good (congrArg (fun b => some (!b)) hc35) rfl rfl (v := V.bool (decide (a1_24.Base < 0))) (.fn rfl) ?_
  refine Q0 E_good rfl (v := V.bool (decide (a1_24.Base < 0))) (.pickK rfl hc35 rfl) ?_
  exact SafeOps.drop' 4 rfl rfl rfl K
 refine Qf E_good ?_
 refine SafeOps.bjoin 10 33 (b := ((((((go_cell_Check a0_23) != 0) || (decide (a1_24.Cap < 1))) || (decide (a1_24.Cap > 1024))) || (decide (a1_24.Base < 0))) || (decide (a1_24.Base > (IntKind.i64.wrap ((IntKind.i64.wrap ((a0_23.length : Int) - a1_24.Cap)) - 2)))))) (b1 := true) (b0 := decide (a1_24.Base > (IntKind.i64.wrap ((IntKind.i64.wrap ((a0_23.length : Int) - a1_24.Cap)) - 2)))) (fun hc36 K => ?_) (fun hc36 K => ?_) bj_or ?_
 ·skip
  refine SafeOps.skip (congrArg (fun b => some (!b)) hc36) rfl rfl ?_
  refine SafeOps.skip (congrArg (fun b => some (!b)) hc36) rfl rfl ?_
  refine SafeOps.skip (congrArg (fun b => some (!b)) hc36) rfl rfl ?_
  refine SafeOps.skip (congrArg (fun b => some (!b)) hc36) rfl rfl ?_
  refine SafeOps.skip (congrArg (fun b => some (!b)) hc36) rfl rfl ?_
  refine SafeOps.skip (congrArg (fun b => some (!b)) hc36) rfl rfl ?_
  refine SafeOps.skip (congrArg (fun b => some (!b)) hc36) rfl rfl ?_
  refine SafeOps.skip (congrArg (fun b => some (!b)) hc36) rfl rfl ?_
  refine SafeOps.skip (congrArg (fun b => some (!b)) hc36) rfl rfl ?_
  refine Q0 E_good rfl (v := V.bool true) (.pickK rfl hc36 rfl) ?_
  exact SafeOps.drop' 10 rfl rfl rfl K
 ·skip
  refine SafeOps.quiet0 E_good (congrArg (fun b => some (!b)) hc36) rfl rfl (v := V.ptr [3] 0 0) (.fn rfl) ?_
  refine SafeOps.quiet0 E_good (congrArg (fun b => some (!b)) hc36) rfl rfl (v := V.int .i64 a1_24.Base) (.load rfl rfl (.box rfl rfl) rfl) ?_
  refine SafeOps.quiet0 E_good (congrArg (fun b => some (!b)) hc36) rfl rfl (.fn rfl) ?_
  refine SafeOps.quiet0 E_good (congrArg (fun b => some (!b)) hc36) rfl rfl (v := V.int .i64 (a0_23.length : Int)) (.fnE rfl lenE) ?_
  refine SafeOps.quiet0 E_good (congrArg (fun b => some (!b)) hc36) rfl rfl (v := V.ptr [3] 0 1) (.fn rfl) ?_
  refine SafeOps.quiet0 E_good (congrArg (fun b => some (!b)) hc36) rfl rfl (v := V.int .i64 a1_24.Cap) (.load rfl rfl (.box rfl rfl) rfl) ?_
  refine SafeOps.quiet0 E_good (congrArg (fun b => some (!b)) hc36) rfl rfl (v := V.int .i64 (IntKind.i64.wrap ((a0_23.length : Int) - a1_24.Cap))) (.fn rfl) ?_
  refine SafeOps.quiet0 E_good (congrArg (fun b => some (!b)) hc36) rfl rfl (v := V.int .i64 (IntKind.i64.wrap ((IntKind.i64.wrap ((a0_23.length : Int) - a1_24.Cap)) - 2))) (.fn rfl) ?_
  refine SafeOps.quiet0 E_good (congrArg (fun b => some (!b)) hc36) rfl rfl (v := V.bool (decide (a1_24.Base > (IntKind.i64.wrap ((IntKind.i64.wrap ((a0_23.length : Int) - a1_24.Cap)) - 2))))) (.fn rfl) ?_
  refine Q0 E_good rfl (v := V.bool (decide (a1_24.Base > (IntKind.i64.wrap ((IntKind.i64.wrap ((a0_23.length : Int) - a1_24.Cap)) - 2))))) (.pickK rfl hc36 rfl) ?_
  exact SafeOps.drop' 10 rfl rfl rfl K
 refine SafeOps.nil ?_
 repeat (first | refine sq ?_ | refine sk ?_ | with_reducible first | refine tn ?_ | refine bn ?_)
 refine ifG h (fun hc37 h => ?_) (fun hc37 h => ?_)
 ·skip
  refine Safe.condK rfl hc37 ?_
  repeat (first | refine sq ?_ | refine sk ?_ | with_reducible first | refine tn ?_ | refine bn ?_)
  refine Safe.region ?_
  refine Qf E_good ?_
  refine SafeOps.nil ?_
  repeat (first | refine sq ?_ | refine sk ?_ | with_reducible first | refine tn ?_ | refine bn ?_)
  refine Safe.ret ?_
  repeat (first | with_reducible refine thenQ.r ?_ | with_reducible refine blockQ.r ?_)
  obtain rfl := h
  exact retQ.gen (vs := [V.int .i64 1]) rfl (.tmp (v := V.int .i64 1) rfl .nil) (.free rfl) (by simp) (.inr rfl)
 ·skip
  refine Safe.condN rfl hc37 ?_
  repeat (first | refine sq ?_ | refine sk ?_ | with_reducible first | refine tn ?_ | refine bn ?_)
  refine Safe.region ?_
  refine Qf E_good ?_
  refine SafeOps.nil ?_
  repeat (first | refine sq ?_ | refine sk ?_ | with_reducible first | refine tn ?_ | refine bn ?_)
  refine Safe.ret ?_
  repeat (first | with_reducible refine thenQ.r ?_ | with_reducible refine blockQ.r ?_)
  obtain rfl := h
  exact retQ.gen (vs := [V.int .i64 0]) rfl (.tmp (v := V.int .i64 0) rfl .nil) (.free rfl) (by simp) (.inr rfl)

def go_ring_may (a0_39 : api_Hand) : Bool :=
 if (decide (a0_39.Pc ≥ 0)) = true then
  letO (go_ring_accesses a0_39.Kind) fun x_48 =>
  if (decide (a0_39.Pc < (x_48.length : Int))) = true then
   if (decide ((if a0_39.B < a0_39.T then a0_39.B else a0_39.T) ≥ (-1))) = true then
    if (decide ((if a0_39.B > a0_39.T then a0_39.B else a0_39.T) ≤ 1099511627776)) = true then
     if (decide (a0_39.State ≥ 0)) = true then
      decide (a0_39.State ≤ 4)
     else
      false
    else
     false
   else
    false
  else
   false
 else
  false

theorem go_ring_may_sc (a0_39 : api_Hand) (r : Bool) (h : go_ring_may a0_39 = r) : SC Try.prog gl 21 [V.agg [V.int .i64 a0_39.Kind, V.int .i64 a0_39.Pc, V.int .i64 a0_39.V, V.int .i64 a0_39.T, V.int .i64 a0_39.B, V.bool a0_39.Won, V.int .i64 a0_39.State]] (V.bool r) := by
 rw [go_ring_may] at h
 refine SC.of E_good Try.func21 rfl (fun _ _ => Try.call21 _ _) rfl ?_
 repeat (first | refine sq ?_ | refine sk ?_ | with_reducible first | refine tn ?_ | refine bn ?_)
 refine Safe.region ?_
 refine SafeOps.quiet1 E_good rfl rfl rfl (.box rfl rfl) rfl ?_
 refine Qf E_good ?_
 refine SafeOps.nil ?_
 repeat (first | refine sq ?_ | refine sk ?_ | with_reducible first | refine tn ?_ | refine bn ?_)
 refine Safe.regionD (n := 39) [] [] E_good mixed rfl ?_
 refine DT 0 [] rfl rfl (v := V.ptr [1] 0 1) (fun _ hz => (.fn rfl)) ?_
 refine DT 1 [] rfl rfl (v := V.int .i64 a0_39.Pc) (fun _ hz => (.load rfl rfl (.box (hz _ _ rfl rfl) rfl) rfl)) ?_
 refine DT 2 [] rfl rfl (v := V.bool (decide (a0_39.Pc ≥ 0))) (fun _ hz => (.fn rfl)) ?_
 refine DT 3 [] rfl rfl (fun _ hz => (.fn rfl)) ?_
 refine ifG h (fun hc47 h => ?_) (fun hc47 h => ?_)
 ·skip
  refine DAny.take (i := 4) rfl (by kernel_rfl) [] (by kernel_rfl) (by kernel_rfl) (by kernel_rfl) (congrArg some hc47) rfl rfl (v := V.ptr [1] 0 1) (fun _ hz => (.fn rfl)) ?_
  refine DAny.take (i := 5) rfl (by kernel_rfl) [] (by kernel_rfl) (by kernel_rfl) (by kernel_rfl) (congrArg some hc47) rfl rfl (v := V.int .i64 a0_39.Pc) (fun _ hz => (.load rfl rfl (.box (hz _ _ rfl rfl) rfl) rfl)) ?_
  refine DAny.take (i := 6) rfl (by kernel_rfl) [] (by kernel_rfl) (by kernel_rfl) (by kernel_rfl) (congrArg some hc47) rfl rfl (v := V.ptr [1] 0 0) (fun _ hz => (.fn rfl)) ?_
  refine DAny.take (i := 7) rfl (by kernel_rfl) [] (by kernel_rfl) (by kernel_rfl) (by kernel_rfl) (congrArg some hc47) rfl rfl (v := V.int .i64 a0_39.Kind) (fun _ hz => (.load rfl rfl (.box (hz _ _ rfl rfl) rfl) rfl)) ?_
  refine letG h ?_
  intro x_48 he49 h
  refine DAny.take (i := 8) rfl (by kernel_rfl) [] (by kernel_rfl) (by kernel_rfl) (by kernel_rfl) (congrArg some hc47) rfl rfl (v := V.sl 1 (rws (fun f : Nat => [V.fn f []]) x_48)) (fun _ hz => (.callP rfl rfl (go_ring_accesses_sc a0_39.Kind _ he49) rfl)) ?_
  refine DAny.take (i := 9) rfl (by kernel_rfl) [] (by kernel_rfl) (by kernel_rfl) (by kernel_rfl) (congrArg some hc47) rfl rfl (v := V.int .i64 (x_48.length : Int)) (fun _ hz => (.fnE rfl lenE)) ?_
  refine DAny.take (i := 10) rfl (by kernel_rfl) [] (by kernel_rfl) (by kernel_rfl) (by kernel_rfl) (congrArg some hc47) rfl rfl (v := V.bool (decide (a0_39.Pc < (x_48.length : Int)))) (fun _ hz => (.fn rfl)) ?_
  refine DT 11 [] rfl rfl (v := V.bool (decide (a0_39.Pc < (x_48.length : Int)))) (fun _ hz => (.pickK rfl hc47 rfl)) ?_
  refine DT 12 [] rfl rfl (fun _ hz => (.fn rfl)) ?_
  refine ifG h (fun hc50 h => ?_) (fun hc50 h => ?_)
  ·skip
   refine DAny.take (i := 13) rfl (by kernel_rfl) [] (by kernel_rfl) (by kernel_rfl) (by kernel_rfl) (congrArg some hc50) rfl rfl (v := V.ptr [1] 0 3) (fun _ hz => (.fn rfl)) ?_
   refine DAny.take (i := 14) rfl (by kernel_rfl) [] (by kernel_rfl) (by kernel_rfl) (by kernel_rfl) (congrArg some hc50) rfl rfl (v := V.int .i64 a0_39.T) (fun _ hz => (.load rfl rfl (.box (hz _ _ rfl rfl) rfl) rfl)) ?_
   refine DAny.take (i := 15) rfl (by kernel_rfl) [] (by kernel_rfl) (by kernel_rfl) (by kernel_rfl) (congrArg some hc50) rfl rfl (v := V.ptr [1] 0 4) (fun _ hz => (.fn rfl)) ?_
   refine DAny.take (i := 16) rfl (by kernel_rfl) [] (by kernel_rfl) (by kernel_rfl) (by kernel_rfl) (congrArg some hc50) rfl rfl (v := V.int .i64 a0_39.B) (fun _ hz => (.load rfl rfl (.box (hz _ _ rfl rfl) rfl) rfl)) ?_
   refine DAny.take (i := 17) rfl (by kernel_rfl) [] (by kernel_rfl) (by kernel_rfl) (by kernel_rfl) (congrArg some hc50) rfl rfl (v := V.int .i64 (if a0_39.B < a0_39.T then a0_39.B else a0_39.T)) (fun _ hz => (.fn rfl)) ?_
   refine DAny.take (i := 18) rfl (by kernel_rfl) [] (by kernel_rfl) (by kernel_rfl) (by kernel_rfl) (congrArg some hc50) rfl rfl (v := V.bool (decide ((if a0_39.B < a0_39.T then a0_39.B else a0_39.T) ≥ (-1)))) (fun _ hz => (.fn rfl)) ?_
   refine DT 19 [] rfl rfl (v := V.bool (decide ((if a0_39.B < a0_39.T then a0_39.B else a0_39.T) ≥ (-1)))) (fun _ hz => (.pickK rfl hc50 rfl)) ?_
   refine DT 20 [] rfl rfl (fun _ hz => (.fn rfl)) ?_
   refine ifG h (fun hc51 h => ?_) (fun hc51 h => ?_)
   ·skip
    refine DAny.take (i := 21) rfl (by kernel_rfl) [] (by kernel_rfl) (by kernel_rfl) (by kernel_rfl) (congrArg some hc51) rfl rfl (v := V.ptr [1] 0 3) (fun _ hz => (.fn rfl)) ?_
    refine DAny.take (i := 22) rfl (by kernel_rfl) [] (by kernel_rfl) (by kernel_rfl) (by kernel_rfl) (congrArg some hc51) rfl rfl (v := V.int .i64 a0_39.T) (fun _ hz => (.load rfl rfl (.box (hz _ _ rfl rfl) rfl) rfl)) ?_
    refine DAny.take (i := 23) rfl (by kernel_rfl) [] (by kernel_rfl) (by kernel_rfl) (by kernel_rfl) (congrArg some hc51) rfl rfl (v := V.ptr [1] 0 4) (fun _ hz => (.fn rfl)) ?_
    refine DAny.take (i := 24) rfl (by kernel_rfl) [] (by kernel_rfl) (by kernel_rfl) (by kernel_rfl) (congrArg some hc51) rfl rfl (v := V.int .i64 a0_39.B) (fun _ hz => (.load rfl rfl (.box (hz _ _ rfl rfl) rfl) rfl)) ?_
    refine DAny.take (i := 25) rfl (by kernel_rfl) [] (by kernel_rfl) (by kernel_rfl) (by kernel_rfl) (congrArg some hc51) rfl rfl (v := V.int .i64 (if a0_39.B > a0_39.T then a0_39.B else a0_39.T)) (fun _ hz => (.fn rfl)) ?_
    refine DAny.take (i := 26) rfl (by kernel_rfl) [] (by kernel_rfl) (by kernel_rfl) (by kernel_rfl) (congrArg some hc51) rfl rfl (v := V.bool (decide ((if a0_39.B > a0_39.T then a0_39.B else a0_39.T) ≤ 1099511627776))) (fun _ hz => (.fn rfl)) ?_
    refine DT 27 [] rfl rfl (v := V.bool (decide ((if a0_39.B > a0_39.T then a0_39.B else a0_39.T) ≤ 1099511627776))) (fun _ hz => (.pickK rfl hc51 rfl)) ?_
    refine DT 28 [] rfl rfl (fun _ hz => (.fn rfl)) ?_
    refine ifG h (fun hc52 h => ?_) (fun hc52 h => ?_)
    ·skip
     refine DAny.take (i := 29) rfl (by kernel_rfl) [] (by kernel_rfl) (by kernel_rfl) (by kernel_rfl) (congrArg some hc52) rfl rfl (v := V.ptr [1] 0 6) (fun _ hz => (.fn rfl)) ?_
     refine DAny.take (i := 30) rfl (by kernel_rfl) [] (by kernel_rfl) (by kernel_rfl) (by kernel_rfl) (congrArg some hc52) rfl rfl (v := V.int .i64 a0_39.State) (fun _ hz => (.load rfl rfl (.box (hz _ _ rfl rfl) rfl) rfl)) ?_
     refine DAny.take (i := 31) rfl (by kernel_rfl) [] (by kernel_rfl) (by kernel_rfl) (by kernel_rfl) (congrArg some hc52) rfl rfl (v := V.bool (decide (a0_39.State ≥ 0))) (fun _ hz => (.fn rfl)) ?_
     refine DT 32 [] rfl rfl (v := V.bool (decide (a0_39.State ≥ 0))) (fun _ hz => (.pickK rfl hc52 rfl)) ?_
     refine DT 33 [] rfl rfl (fun _ hz => (.fn rfl)) ?_
     refine ifG h (fun hc53 h => ?_) (fun hc53 h => ?_)
     ·skip
      refine DAny.take (i := 34) rfl (by kernel_rfl) [] (by kernel_rfl) (by kernel_rfl) (by kernel_rfl) (congrArg some hc53) rfl rfl (v := V.ptr [1] 0 6) (fun _ hz => (.fn rfl)) ?_
      refine DAny.take (i := 35) rfl (by kernel_rfl) [] (by kernel_rfl) (by kernel_rfl) (by kernel_rfl) (congrArg some hc53) rfl rfl (v := V.int .i64 a0_39.State) (fun _ hz => (.load rfl rfl (.box (hz _ _ rfl rfl) rfl) rfl)) ?_
      refine DAny.take (i := 36) rfl (by kernel_rfl) [] (by kernel_rfl) (by kernel_rfl) (by kernel_rfl) (congrArg some hc53) rfl rfl (v := V.bool (decide (a0_39.State ≤ 4))) (fun _ hz => (.fn rfl)) ?_
      refine DT 37 [] rfl rfl (v := V.bool (decide (a0_39.State ≤ 4))) (fun _ hz => (.pickK rfl hc53 rfl)) ?_
      refine DT 38 [] rfl rfl (fun _ hz => (.fn rfl)) ?_
      refine DAny.nil (by kernel_rfl) ?_
      repeat (first | refine sq ?_ | refine sk ?_ | with_reducible first | refine tn ?_ | refine bn ?_)
      refine Safe.ret ?_
      repeat (first | with_reducible refine thenQ.r ?_ | with_reducible refine blockQ.r ?_)
      obtain rfl := h
      exact retQ.gen (vs := [V.bool (decide (a0_39.State ≤ 4))]) rfl (.tmp (v := V.bool (decide (a0_39.State ≤ 4))) rfl .nil) (.free rfl) (by simp) (.inr rfl)
     ·skip
      refine DAny.takeSkip (i := 34) rfl (by kernel_rfl) [] (by kernel_rfl) (by kernel_rfl) (by kernel_rfl) (congrArg some hc53) rfl rfl ?_
      refine DAny.takeSkip (i := 35) rfl (by kernel_rfl) [] (by kernel_rfl) (by kernel_rfl) (by kernel_rfl) (congrArg some hc53) rfl rfl ?_
      refine DAny.takeSkip (i := 36) rfl (by kernel_rfl) [] (by kernel_rfl) (by kernel_rfl) (by kernel_rfl) (congrArg some hc53) rfl rfl ?_
      refine DT 37 [] rfl rfl (v := V.bool false) (fun _ hz => (.pickK rfl hc53 rfl)) ?_
      refine DT 38 [] rfl rfl (fun _ hz => (.fn rfl)) ?_
      refine DAny.nil (by kernel_rfl) ?_
      repeat (first | refine sq ?_ | refine sk ?_ | with_reducible first | refine tn ?_ | refine bn ?_)
      refine Safe.ret ?_
      repeat (first | with_reducible refine thenQ.r ?_ | with_reducible refine blockQ.r ?_)
      obtain rfl := h
      exact retQ.gen (vs := [V.bool false]) rfl (.tmp (v := V.bool false) rfl .nil) (.free rfl) (by simp) (.inr rfl)
    ·skip
     refine DAny.takeSkip (i := 29) rfl (by kernel_rfl) [] (by kernel_rfl) (by kernel_rfl) (by kernel_rfl) (congrArg some hc52) rfl rfl ?_
     refine DAny.takeSkip (i := 30) rfl (by kernel_rfl) [] (by kernel_rfl) (by kernel_rfl) (by kernel_rfl) (congrArg some hc52) rfl rfl ?_
     refine DAny.takeSkip (i := 31) rfl (by kernel_rfl) [] (by kernel_rfl) (by kernel_rfl) (by kernel_rfl) (congrArg some hc52) rfl rfl ?_
     refine DT 32 [] rfl rfl (v := V.bool false) (fun _ hz => (.pickK rfl hc52 rfl)) ?_
     refine DT 33 [] rfl rfl (fun _ hz => (.fn rfl)) ?_
     refine DAny.takeSkip (i := 34) rfl (by kernel_rfl) [] (by kernel_rfl) (by kernel_rfl) (by kernel_rfl) rfl rfl rfl ?_
     refine DAny.takeSkip (i := 35) rfl (by kernel_rfl) [] (by kernel_rfl) (by kernel_rfl) (by kernel_rfl) rfl rfl rfl ?_
     refine DAny.takeSkip (i := 36) rfl (by kernel_rfl) [] (by kernel_rfl) (by kernel_rfl) (by kernel_rfl) rfl rfl rfl ?_
     refine DT 37 [] rfl rfl (v := V.bool false) (fun _ hz => (.pickK rfl rfl rfl)) ?_
     refine DT 38 [] rfl rfl (fun _ hz => (.fn rfl)) ?_
     refine DAny.nil (by kernel_rfl) ?_
     repeat (first | refine sq ?_ | refine sk ?_ | with_reducible first | refine tn ?_ | refine bn ?_)
     refine Safe.ret ?_
     repeat (first | with_reducible refine thenQ.r ?_ | with_reducible refine blockQ.r ?_)
     obtain rfl := h
     exact retQ.gen (vs := [V.bool false]) rfl (.tmp (v := V.bool false) rfl .nil) (.free rfl) (by simp) (.inr rfl)
   ·skip
    refine DAny.takeSkip (i := 21) rfl (by kernel_rfl) [] (by kernel_rfl) (by kernel_rfl) (by kernel_rfl) (congrArg some hc51) rfl rfl ?_
    refine DAny.takeSkip (i := 22) rfl (by kernel_rfl) [] (by kernel_rfl) (by kernel_rfl) (by kernel_rfl) (congrArg some hc51) rfl rfl ?_
    refine DAny.takeSkip (i := 23) rfl (by kernel_rfl) [] (by kernel_rfl) (by kernel_rfl) (by kernel_rfl) (congrArg some hc51) rfl rfl ?_
    refine DAny.takeSkip (i := 24) rfl (by kernel_rfl) [] (by kernel_rfl) (by kernel_rfl) (by kernel_rfl) (congrArg some hc51) rfl rfl ?_
    refine DAny.takeSkip (i := 25) rfl (by kernel_rfl) [] (by kernel_rfl) (by kernel_rfl) (by kernel_rfl) (congrArg some hc51) rfl rfl ?_
    refine DAny.takeSkip (i := 26) rfl (by kernel_rfl) [] (by kernel_rfl) (by kernel_rfl) (by kernel_rfl) (congrArg some hc51) rfl rfl ?_
    refine DT 27 [] rfl rfl (v := V.bool false) (fun _ hz => (.pickK rfl hc51 rfl)) ?_
    refine DT 28 [] rfl rfl (fun _ hz => (.fn rfl)) ?_
    refine DAny.takeSkip (i := 29) rfl (by kernel_rfl) [] (by kernel_rfl) (by kernel_rfl) (by kernel_rfl) rfl rfl rfl ?_
    refine DAny.takeSkip (i := 30) rfl (by kernel_rfl) [] (by kernel_rfl) (by kernel_rfl) (by kernel_rfl) rfl rfl rfl ?_
    refine DAny.takeSkip (i := 31) rfl (by kernel_rfl) [] (by kernel_rfl) (by kernel_rfl) (by kernel_rfl) rfl rfl rfl ?_
    refine DT 32 [] rfl rfl (v := V.bool false) (fun _ hz => (.pickK rfl rfl rfl)) ?_
    refine DT 33 [] rfl rfl (fun _ hz => (.fn rfl)) ?_
    refine DAny.takeSkip (i := 34) rfl (by kernel_rfl) [] (by kernel_rfl) (by kernel_rfl) (by kernel_rfl) rfl rfl rfl ?_
    refine DAny.takeSkip (i := 35) rfl (by kernel_rfl) [] (by kernel_rfl) (by kernel_rfl) (by kernel_rfl) rfl rfl rfl ?_
    refine DAny.takeSkip (i := 36) rfl (by kernel_rfl) [] (by kernel_rfl) (by kernel_rfl) (by kernel_rfl) rfl rfl rfl ?_
    refine DT 37 [] rfl rfl (v := V.bool false) (fun _ hz => (.pickK rfl rfl rfl)) ?_
    refine DT 38 [] rfl rfl (fun _ hz => (.fn rfl)) ?_
    refine DAny.nil (by kernel_rfl) ?_
    repeat (first | refine sq ?_ | refine sk ?_ | with_reducible first | refine tn ?_ | refine bn ?_)
    refine Safe.ret ?_
    repeat (first | with_reducible refine thenQ.r ?_ | with_reducible refine blockQ.r ?_)
    obtain rfl := h
    exact retQ.gen (vs := [V.bool false]) rfl (.tmp (v := V.bool false) rfl .nil) (.free rfl) (by simp) (.inr rfl)
  ·skip
   refine DAny.takeSkip (i := 13) rfl (by kernel_rfl) [] (by kernel_rfl) (by kernel_rfl) (by kernel_rfl) (congrArg some hc50) rfl rfl ?_
   refine DAny.takeSkip (i := 14) rfl (by kernel_rfl) [] (by kernel_rfl) (by kernel_rfl) (by kernel_rfl) (congrArg some hc50) rfl rfl ?_
   refine DAny.takeSkip (i := 15) rfl (by kernel_rfl) [] (by kernel_rfl) (by kernel_rfl) (by kernel_rfl) (congrArg some hc50) rfl rfl ?_
   refine DAny.takeSkip (i := 16) rfl (by kernel_rfl) [] (by kernel_rfl) (by kernel_rfl) (by kernel_rfl) (congrArg some hc50) rfl rfl ?_
   refine DAny.takeSkip (i := 17) rfl (by kernel_rfl) [] (by kernel_rfl) (by kernel_rfl) (by kernel_rfl) (congrArg some hc50) rfl rfl ?_
   refine DAny.takeSkip (i := 18) rfl (by kernel_rfl) [] (by kernel_rfl) (by kernel_rfl) (by kernel_rfl) (congrArg some hc50) rfl rfl ?_
   refine DT 19 [] rfl rfl (v := V.bool false) (fun _ hz => (.pickK rfl hc50 rfl)) ?_
   refine DT 20 [] rfl rfl (fun _ hz => (.fn rfl)) ?_
   refine DAny.takeSkip (i := 21) rfl (by kernel_rfl) [] (by kernel_rfl) (by kernel_rfl) (by kernel_rfl) rfl rfl rfl ?_
   refine DAny.takeSkip (i := 22) rfl (by kernel_rfl) [] (by kernel_rfl) (by kernel_rfl) (by kernel_rfl) rfl rfl rfl ?_
   refine DAny.takeSkip (i := 23) rfl (by kernel_rfl) [] (by kernel_rfl) (by kernel_rfl) (by kernel_rfl) rfl rfl rfl ?_
   refine DAny.takeSkip (i := 24) rfl (by kernel_rfl) [] (by kernel_rfl) (by kernel_rfl) (by kernel_rfl) rfl rfl rfl ?_
   refine DAny.takeSkip (i := 25) rfl (by kernel_rfl) [] (by kernel_rfl) (by kernel_rfl) (by kernel_rfl) rfl rfl rfl ?_
   refine DAny.takeSkip (i := 26) rfl (by kernel_rfl) [] (by kernel_rfl) (by kernel_rfl) (by kernel_rfl) rfl rfl rfl ?_
   refine DT 27 [] rfl rfl (v := V.bool false) (fun _ hz => (.pickK rfl rfl rfl)) ?_
   refine DT 28 [] rfl rfl (fun _ hz => (.fn rfl)) ?_
   refine DAny.takeSkip (i := 29) rfl (by kernel_rfl) [] (by kernel_rfl) (by kernel_rfl) (by kernel_rfl) rfl rfl rfl ?_
   refine DAny.takeSkip (i := 30) rfl (by kernel_rfl) [] (by kernel_rfl) (by kernel_rfl) (by kernel_rfl) rfl rfl rfl ?_
   refine DAny.takeSkip (i := 31) rfl (by kernel_rfl) [] (by kernel_rfl) (by kernel_rfl) (by kernel_rfl) rfl rfl rfl ?_
   refine DT 32 [] rfl rfl (v := V.bool false) (fun _ hz => (.pickK rfl rfl rfl)) ?_
   refine DT 33 [] rfl rfl (fun _ hz => (.fn rfl)) ?_
   refine DAny.takeSkip (i := 34) rfl (by kernel_rfl) [] (by kernel_rfl) (by kernel_rfl) (by kernel_rfl) rfl rfl rfl ?_
   refine DAny.takeSkip (i := 35) rfl (by kernel_rfl) [] (by kernel_rfl) (by kernel_rfl) (by kernel_rfl) rfl rfl rfl ?_
   refine DAny.takeSkip (i := 36) rfl (by kernel_rfl) [] (by kernel_rfl) (by kernel_rfl) (by kernel_rfl) rfl rfl rfl ?_
   refine DT 37 [] rfl rfl (v := V.bool false) (fun _ hz => (.pickK rfl rfl rfl)) ?_
   refine DT 38 [] rfl rfl (fun _ hz => (.fn rfl)) ?_
   refine DAny.nil (by kernel_rfl) ?_
   repeat (first | refine sq ?_ | refine sk ?_ | with_reducible first | refine tn ?_ | refine bn ?_)
   refine Safe.ret ?_
   repeat (first | with_reducible refine thenQ.r ?_ | with_reducible refine blockQ.r ?_)
   obtain rfl := h
   exact retQ.gen (vs := [V.bool false]) rfl (.tmp (v := V.bool false) rfl .nil) (.free rfl) (by simp) (.inr rfl)
 ·skip
  refine DAny.takeSkip (i := 4) rfl (by kernel_rfl) [] (by kernel_rfl) (by kernel_rfl) (by kernel_rfl) (congrArg some hc47) rfl rfl ?_
  refine DAny.takeSkip (i := 5) rfl (by kernel_rfl) [] (by kernel_rfl) (by kernel_rfl) (by kernel_rfl) (congrArg some hc47) rfl rfl ?_
  refine DAny.takeSkip (i := 6) rfl (by kernel_rfl) [] (by kernel_rfl) (by kernel_rfl) (by kernel_rfl) (congrArg some hc47) rfl rfl ?_
  refine DAny.takeSkip (i := 7) rfl (by kernel_rfl) [] (by kernel_rfl) (by kernel_rfl) (by kernel_rfl) (congrArg some hc47) rfl rfl ?_
  refine DAny.takeSkip (i := 8) rfl (by kernel_rfl) [] (by kernel_rfl) (by kernel_rfl) (by kernel_rfl) (congrArg some hc47) rfl rfl ?_
  refine DAny.takeSkip (i := 9) rfl (by kernel_rfl) [] (by kernel_rfl) (by kernel_rfl) (by kernel_rfl) (congrArg some hc47) rfl rfl ?_
  refine DAny.takeSkip (i := 10) rfl (by kernel_rfl) [] (by kernel_rfl) (by kernel_rfl) (by kernel_rfl) (congrArg some hc47) rfl rfl ?_
  refine DT 11 [] rfl rfl (v := V.bool false) (fun _ hz => (.pickK rfl hc47 rfl)) ?_
  refine DT 12 [] rfl rfl (fun _ hz => (.fn rfl)) ?_
  refine DAny.takeSkip (i := 13) rfl (by kernel_rfl) [] (by kernel_rfl) (by kernel_rfl) (by kernel_rfl) rfl rfl rfl ?_
  refine DAny.takeSkip (i := 14) rfl (by kernel_rfl) [] (by kernel_rfl) (by kernel_rfl) (by kernel_rfl) rfl rfl rfl ?_
  refine DAny.takeSkip (i := 15) rfl (by kernel_rfl) [] (by kernel_rfl) (by kernel_rfl) (by kernel_rfl) rfl rfl rfl ?_
  refine DAny.takeSkip (i := 16) rfl (by kernel_rfl) [] (by kernel_rfl) (by kernel_rfl) (by kernel_rfl) rfl rfl rfl ?_
  refine DAny.takeSkip (i := 17) rfl (by kernel_rfl) [] (by kernel_rfl) (by kernel_rfl) (by kernel_rfl) rfl rfl rfl ?_
  refine DAny.takeSkip (i := 18) rfl (by kernel_rfl) [] (by kernel_rfl) (by kernel_rfl) (by kernel_rfl) rfl rfl rfl ?_
  refine DT 19 [] rfl rfl (v := V.bool false) (fun _ hz => (.pickK rfl rfl rfl)) ?_
  refine DT 20 [] rfl rfl (fun _ hz => (.fn rfl)) ?_
  refine DAny.takeSkip (i := 21) rfl (by kernel_rfl) [] (by kernel_rfl) (by kernel_rfl) (by kernel_rfl) rfl rfl rfl ?_
  refine DAny.takeSkip (i := 22) rfl (by kernel_rfl) [] (by kernel_rfl) (by kernel_rfl) (by kernel_rfl) rfl rfl rfl ?_
  refine DAny.takeSkip (i := 23) rfl (by kernel_rfl) [] (by kernel_rfl) (by kernel_rfl) (by kernel_rfl) rfl rfl rfl ?_
  refine DAny.takeSkip (i := 24) rfl (by kernel_rfl) [] (by kernel_rfl) (by kernel_rfl) (by kernel_rfl) rfl rfl rfl ?_
  refine DAny.takeSkip (i := 25) rfl (by kernel_rfl) [] (by kernel_rfl) (by kernel_rfl) (by kernel_rfl) rfl rfl rfl ?_
  refine DAny.takeSkip (i := 26) rfl (by kernel_rfl) [] (by kernel_rfl) (by kernel_rfl) (by kernel_rfl) rfl rfl rfl ?_
  refine DT 27 [] rfl rfl (v := V.bool false) (fun _ hz => (.pickK rfl rfl rfl)) ?_
  refine DT 28 [] rfl rfl (fun _ hz => (.fn rfl)) ?_
  refine DAny.takeSkip (i := 29) rfl (by kernel_rfl) [] (by kernel_rfl) (by kernel_rfl) (by kernel_rfl) rfl rfl rfl ?_
  refine DAny.takeSkip (i := 30) rfl (by kernel_rfl) [] (by kernel_rfl) (by kernel_rfl) (by kernel_rfl) rfl rfl rfl ?_
  refine DAny.takeSkip (i := 31) rfl (by kernel_rfl) [] (by kernel_rfl) (by kernel_rfl) (by kernel_rfl) rfl rfl rfl ?_
  refine DT 32 [] rfl rfl (v := V.bool false) (fun _ hz => (.pickK rfl rfl rfl)) ?_
  refine DT 33 [] rfl rfl (fun _ hz => (.fn rfl)) ?_
  refine DAny.takeSkip (i := 34) rfl (by kernel_rfl) [] (by kernel_rfl) (by kernel_rfl) (by kernel_rfl) rfl rfl rfl ?_
  refine DAny.takeSkip (i := 35) rfl (by kernel_rfl) [] (by kernel_rfl) (by kernel_rfl) (by kernel_rfl) rfl rfl rfl ?_
  refine DAny.takeSkip (i := 36) rfl (by kernel_rfl) [] (by kernel_rfl) (by kernel_rfl) (by kernel_rfl) rfl rfl rfl ?_
  refine DT 37 [] rfl rfl (v := V.bool false) (fun _ hz => (.pickK rfl rfl rfl)) ?_
  refine DT 38 [] rfl rfl (fun _ hz => (.fn rfl)) ?_
  refine DAny.nil (by kernel_rfl) ?_
  repeat (first | refine sq ?_ | refine sk ?_ | with_reducible first | refine tn ?_ | refine bn ?_)
  refine Safe.ret ?_
  repeat (first | with_reducible refine thenQ.r ?_ | with_reducible refine blockQ.r ?_)
  obtain rfl := h
  exact retQ.gen (vs := [V.bool false]) rfl (.tmp (v := V.bool false) rfl .nil) (.free rfl) (by simp) (.inr rfl)

@[ext] structure ring_actor where
 Hand : api_Hand
 m : List Int
 q : api_Deque
 e : Int
 deriving Inhabited
def ring_actor.cells (x : ring_actor) : List V := [V.int .i64 x.Hand.Kind, V.int .i64 x.Hand.Pc, V.int .i64 x.Hand.V, V.int .i64 x.Hand.T, V.int .i64 x.Hand.B, V.bool x.Hand.Won, V.int .i64 x.Hand.State, V.sl 1 (rws (fun n => [V.int .i64 n]) x.m), V.int .i64 x.q.Base, V.int .i64 x.q.Cap, V.int .i64 x.e]
def ring_actor.zero : ring_actor := ⟨⟨0, 0, 0, 0, 0, false, 0⟩, [], ⟨0, 0⟩, 0⟩

def go_pring_actor_top (a0_89 : ring_actor) : Int :=
 (a0_89).q.Base

theorem go_pring_actor_top_sc (a0_89 : ring_actor) (r : Int) (h : go_pring_actor_top a0_89 = r) : SC Try.prog gl 29 [V.spt 11 (rws ring_actor.cells [a0_89]) (Int.toNat 0) 0] (V.int .i64 r) := by
 rw [go_pring_actor_top] at h
 refine SC.of E_good Try.func29 rfl (fun _ _ => Try.call29 _ _) rfl ?_
 repeat (first | refine sq ?_ | refine sk ?_ | with_reducible first | refine tn ?_ | refine bn ?_)
 refine Safe.region ?_
 refine Qf E_good ?_
 refine SafeOps.nil ?_
 repeat (first | refine sq ?_ | refine sk ?_ | with_reducible first | refine tn ?_ | refine bn ?_)
 refine Safe.region ?_
 refine Qf E_good ?_
 refine Q0 E_good rfl (v := V.spt 11 (rws ring_actor.cells [a0_89]) (Int.toNat 0) 0) (.fn rfl) ?_
 refine Q0 E_good rfl (v := V.spt 11 (rws ring_actor.cells [a0_89]) (Int.toNat 0) 8) (.fn rfl) ?_
 refine Q0 E_good rfl (v := V.spt 11 (rws ring_actor.cells [a0_89]) (Int.toNat 0) 8) (.fn rfl) ?_
 refine Q0 E_good rfl (v := V.int .i64 ((a0_89).q.Base)) (.load rfl rfl (.sptM (f := ring_actor.cells) (by simp) rfl) rfl) ?_
 refine Qf E_good ?_
 refine SafeOps.nil ?_
 repeat (first | refine sq ?_ | refine sk ?_ | with_reducible first | refine tn ?_ | refine bn ?_)
 refine Safe.ret ?_
 repeat (first | with_reducible refine thenQ.r ?_ | with_reducible refine blockQ.r ?_)
 obtain rfl := h
 exact retQ.gen (vs := [V.int .i64 ((a0_89).q.Base)]) rfl (.tmp (v := V.int .i64 ((a0_89).q.Base)) rfl .nil) (.free rfl) (by simp) (.inr rfl)

noncomputable def go_cell_Load (a0_90 : List Int) (a1_91 : Int) : Option (Int × Int) :=
 if ((((go_cell_Check a0_90) != 0) || (decide (a1_91 < 0))) || (decide (a1_91 ≥ (a0_90.length : Int)))) = true then
  some (0, 1)
 else
  if 0 ≤ a1_91 ∧ a1_91 < (a0_90.length : Int) then
   some ((gt a0_90 a1_91), 0)
  else none

theorem go_cell_Load_sc (a0_90 : List Int) (a1_91 : Int) (r : Int × Int) (h : go_cell_Load a0_90 a1_91 = some r) : SC Try.prog gl 55 [V.sl 1 (rws (fun n => [V.int .i64 n]) a0_90), V.int .i64 a1_91] (V.tup [V.int .i64 r.1, V.int .i64 r.2]) := by
 rw [go_cell_Load] at h
 refine SC.of E_good Try.func55 rfl (fun _ _ => Try.call55 _ _) rfl ?_
 repeat (first | refine sq ?_ | refine sk ?_ | with_reducible first | refine tn ?_ | refine bn ?_)
 refine Safe.region ?_
 refine Qf E_good ?_
 refine Qf E_good ?_
 refine SafeOps.nil ?_
 repeat (first | refine sq ?_ | refine sk ?_ | with_reducible first | refine tn ?_ | refine bn ?_)
 refine Safe.region ?_
 refine Qf E_good ?_
 refine Qf E_good ?_
 refine SafeOps.inline E_good rfl rfl rfl rfl rfl Try.func59 rfl (fun _ _ => Try.call59 _ _) rfl ?_
 repeat (first | refine sq ?_ | refine sk ?_ | with_reducible first | refine tn ?_ | refine bn ?_)
 refine Safe.region ?_
 refine Qf E_good ?_
 refine Qf E_good ?_
 refine SafeOps.nil ?_
 repeat (first | refine sq ?_ | refine sk ?_ | with_reducible first | refine tn ?_ | refine bn ?_)
 refine Safe.region ?_
 refine Qf E_good ?_
 refine Q0 E_good rfl (v := V.int .i64 (go_cell_Check a0_90)) (.callP rfl rfl (go_cell_Check_sc a0_90 _ rfl) rfl) ?_
 refine Q0 E_good rfl (v := V.bool ((go_cell_Check a0_90) != 0)) (.fn rfl) ?_
 refine Qf E_good ?_
 refine SafeOps.bjoin 3 12 (b := (((go_cell_Check a0_90) != 0) || (decide (a1_91 < 0)))) (b1 := true) (b0 := decide (a1_91 < 0)) (fun hc113 K => ?_) (fun hc113 K => ?_) bj_or ?_
 ·skip
  refine SafeOps.skip (congrArg (fun b => some (!b)) hc113) rfl rfl ?_
  refine SafeOps.skip (congrArg (fun b => some (!b)) hc113) rfl rfl ?_
  refine Q0 E_good rfl (v := V.bool true) (.pickK rfl hc113 rfl) ?_
  exact SafeOps.drop' 3 rfl rfl rfl K
 ·skip
  refine SafeOps.quiet0 E_good (congrArg (fun b => some (!b)) hc113) rfl rfl (.fn rfl) ?_
  refine SafeOps.quiet0 E_good (congrArg (fun b => some (!b)) hc113) rfl rfl (v := V.bool (decide (a1_91 < 0))) (.fn rfl) ?_
  refine Q0 E_good rfl (v := V.bool (decide (a1_91 < 0))) (.pickK rfl hc113 rfl) ?_
  exact SafeOps.drop' 3 rfl rfl rfl K
 refine Qf E_good ?_
 refine SafeOps.bjoin 5 18 (b := ((((go_cell_Check a0_90) != 0) || (decide (a1_91 < 0))) || (decide (a1_91 ≥ (a0_90.length : Int))))) (b1 := true) (b0 := decide (a1_91 ≥ (a0_90.length : Int))) (fun hc114 K => ?_) (fun hc114 K => ?_) bj_or ?_
 ·skip
  refine SafeOps.skip (congrArg (fun b => some (!b)) hc114) rfl rfl ?_
  refine SafeOps.skip (congrArg (fun b => some (!b)) hc114) rfl rfl ?_
  refine SafeOps.skip (congrArg (fun b => some (!b)) hc114) rfl rfl ?_
  refine SafeOps.skip (congrArg (fun b => some (!b)) hc114) rfl rfl ?_
  refine Q0 E_good rfl (v := V.bool true) (.pickK rfl hc114 rfl) ?_
  exact SafeOps.drop' 5 rfl rfl rfl K
 ·skip
  refine SafeOps.quiet0 E_good (congrArg (fun b => some (!b)) hc114) rfl rfl (.fn rfl) ?_
  refine SafeOps.quiet0 E_good (congrArg (fun b => some (!b)) hc114) rfl rfl (.fn rfl) ?_
  refine SafeOps.quiet0 E_good (congrArg (fun b => some (!b)) hc114) rfl rfl (v := V.int .i64 (a0_90.length : Int)) (.fnE rfl lenE) ?_
  refine SafeOps.quiet0 E_good (congrArg (fun b => some (!b)) hc114) rfl rfl (v := V.bool (decide (a1_91 ≥ (a0_90.length : Int)))) (.fn rfl) ?_
  refine Q0 E_good rfl (v := V.bool (decide (a1_91 ≥ (a0_90.length : Int)))) (.pickK rfl hc114 rfl) ?_
  exact SafeOps.drop' 5 rfl rfl rfl K
 refine SafeOps.nil ?_
 repeat (first | refine sq ?_ | refine sk ?_ | with_reducible first | refine tn ?_ | refine bn ?_)
 refine ifG h (fun hc115 h => ?_) (fun hc115 h => ?_)
 ·skip
  refine Safe.condK rfl hc115 ?_
  repeat (first | refine sq ?_ | refine sk ?_ | with_reducible first | refine tn ?_ | refine bn ?_)
  refine Safe.region ?_
  refine Qf E_good ?_
  refine Qf E_good ?_
  refine SafeOps.nil ?_
  repeat (first | refine sq ?_ | refine sk ?_ | with_reducible first | refine tn ?_ | refine bn ?_)
  refine Safe.ret ?_
  repeat (first | with_reducible refine thenQ.r ?_ | with_reducible refine blockQ.r ?_)
  refine inQ.gen (vs := [V.nilp, V.int .i64 1]) (v := V.tup [V.nilp, V.int .i64 1]) (.inr rfl) rfl (.tmp (v := V.nilp) rfl (.tmp (v := V.int .i64 1) rfl .nil)) rfl ?_
  refine Qf E_good ?_
  refine Qf E_good ?_
  refine Qf E_good ?_
  refine Qf E_good ?_
  refine Qf E_good ?_
  refine SafeOps.nil ?_
  repeat (first | refine sq ?_ | refine sk ?_ | with_reducible first | refine tn ?_ | refine bn ?_)
  refine Safe.region ?_
  refine Qf E_good ?_
  refine Q0 E_good rfl (v := V.bool true) (.fn rfl) ?_
  refine SafeOps.nil ?_
  repeat (first | refine sq ?_ | refine sk ?_ | with_reducible first | refine tn ?_ | refine bn ?_)
  refine Safe.condK rfl rfl ?_
  repeat (first | refine sq ?_ | refine sk ?_ | with_reducible first | refine tn ?_ | refine bn ?_)
  refine Safe.region ?_
  refine Qf E_good ?_
  refine Qf E_good ?_
  refine Qf E_good ?_
  refine SafeOps.nil ?_
  repeat (first | refine sq ?_ | refine sk ?_ | with_reducible first | refine tn ?_ | refine bn ?_)
  refine Safe.ret ?_
  repeat (first | with_reducible refine thenQ.r ?_ | with_reducible refine blockQ.r ?_)
  obtain rfl := Option.some.inj h
  exact retQ.gen (vs := [V.int .i64 0, V.int .i64 1]) rfl (.tmp (v := V.int .i64 0) rfl (.tmp (v := V.int .i64 1) rfl .nil)) (.free rfl) (by simp) (.inr rfl)
 ·skip
  refine Safe.condN rfl hc115 ?_
  repeat (first | refine sq ?_ | refine sk ?_ | with_reducible first | refine tn ?_ | refine bn ?_)
  refine Safe.region ?_
  refine Qf E_good ?_
  refine Qf E_good ?_
  refine okG h (fun hb116 h => ?_)
  refine Q0 E_good rfl (v := V.spt 1 (rws (fun n => [V.int .i64 n]) a0_90) (Int.toNat a1_91) 0) (.idxSlM (f := (fun n => [V.int .i64 n])) rfl rfl rfl rfl rfl hb116) ?_
  refine Qf E_good ?_
  refine Qf E_good ?_
  refine SafeOps.nil ?_
  repeat (first | refine sq ?_ | refine sk ?_ | with_reducible first | refine tn ?_ | refine bn ?_)
  refine Safe.ret ?_
  repeat (first | with_reducible refine thenQ.r ?_ | with_reducible refine blockQ.r ?_)
  refine inQ.gen (vs := [V.spt 1 (rws (fun n => [V.int .i64 n]) a0_90) (Int.toNat a1_91) 0, V.int .i64 0]) (v := V.tup [V.spt 1 (rws (fun n => [V.int .i64 n]) a0_90) (Int.toNat a1_91) 0, V.int .i64 0]) (.inr rfl) rfl (.tmp (v := V.spt 1 (rws (fun n => [V.int .i64 n]) a0_90) (Int.toNat a1_91) 0) rfl (.tmp (v := V.int .i64 0) rfl .nil)) rfl ?_
  refine Qf E_good ?_
  refine Qf E_good ?_
  refine Qf E_good ?_
  refine Qf E_good ?_
  refine Qf E_good ?_
  refine SafeOps.nil ?_
  repeat (first | refine sq ?_ | refine sk ?_ | with_reducible first | refine tn ?_ | refine bn ?_)
  refine Safe.region ?_
  refine Qf E_good ?_
  refine Q0 E_good rfl (v := V.bool false) (.fn rfl) ?_
  refine SafeOps.nil ?_
  repeat (first | refine sq ?_ | refine sk ?_ | with_reducible first | refine tn ?_ | refine bn ?_)
  refine Safe.condN rfl rfl ?_
  repeat (first | refine sq ?_ | refine sk ?_ | with_reducible first | refine tn ?_ | refine bn ?_)
  refine Safe.region ?_
  refine Qf E_good ?_
  refine Q0 E_good rfl (v := V.spt 1 (rws (fun n => [V.int .i64 n]) a0_90) (Int.toNat a1_91) 0) (.fn rfl) ?_
  refine Q0 E_good rfl (v := V.int .i64 (gt a0_90 a1_91)) (.load rfl rfl (.sptM (f := (fun n => [V.int .i64 n])) hb116 rfl) rfl) ?_
  refine Qf E_good ?_
  refine Qf E_good ?_
  refine SafeOps.nil ?_
  repeat (first | refine sq ?_ | refine sk ?_ | with_reducible first | refine tn ?_ | refine bn ?_)
  refine Safe.ret ?_
  repeat (first | with_reducible refine thenQ.r ?_ | with_reducible refine blockQ.r ?_)
  obtain rfl := Option.some.inj h
  exact retQ.gen (vs := [V.int .i64 (gt a0_90 a1_91), V.int .i64 0]) rfl (.tmp (v := V.int .i64 (gt a0_90 a1_91)) rfl (.tmp (v := V.int .i64 0) rfl .nil)) (.free rfl) (by simp) (.inr rfl)

def go_pring_actor_bottom (a0_150 : ring_actor) : Int :=
 IntKind.i64.wrap (((a0_150).q.Base) + 1)

theorem go_pring_actor_bottom_sc (a0_150 : ring_actor) (r : Int) (h : go_pring_actor_bottom a0_150 = r) : SC Try.prog gl 30 [V.spt 11 (rws ring_actor.cells [a0_150]) (Int.toNat 0) 0] (V.int .i64 r) := by
 rw [go_pring_actor_bottom] at h
 refine SC.of E_good Try.func30 rfl (fun _ _ => Try.call30 _ _) rfl ?_
 repeat (first | refine sq ?_ | refine sk ?_ | with_reducible first | refine tn ?_ | refine bn ?_)
 refine Safe.region ?_
 refine Qf E_good ?_
 refine SafeOps.nil ?_
 repeat (first | refine sq ?_ | refine sk ?_ | with_reducible first | refine tn ?_ | refine bn ?_)
 refine Safe.region ?_
 refine Qf E_good ?_
 refine Q0 E_good rfl (v := V.spt 11 (rws ring_actor.cells [a0_150]) (Int.toNat 0) 0) (.fn rfl) ?_
 refine Q0 E_good rfl (v := V.spt 11 (rws ring_actor.cells [a0_150]) (Int.toNat 0) 8) (.fn rfl) ?_
 refine Q0 E_good rfl (v := V.spt 11 (rws ring_actor.cells [a0_150]) (Int.toNat 0) 8) (.fn rfl) ?_
 refine Q0 E_good rfl (v := V.int .i64 ((a0_150).q.Base)) (.load rfl rfl (.sptM (f := ring_actor.cells) (by simp) rfl) rfl) ?_
 refine Q0 E_good rfl (v := V.int .i64 (IntKind.i64.wrap (((a0_150).q.Base) + 1))) (.fn rfl) ?_
 refine Qf E_good ?_
 refine SafeOps.nil ?_
 repeat (first | refine sq ?_ | refine sk ?_ | with_reducible first | refine tn ?_ | refine bn ?_)
 refine Safe.ret ?_
 repeat (first | with_reducible refine thenQ.r ?_ | with_reducible refine blockQ.r ?_)
 obtain rfl := h
 exact retQ.gen (vs := [V.int .i64 (IntKind.i64.wrap (((a0_150).q.Base) + 1))]) rfl (.tmp (v := V.int .i64 (IntKind.i64.wrap (((a0_150).q.Base) + 1))) rfl .nil) (.free rfl) (by simp) (.inr rfl)

noncomputable def go_pring_actor_slot (a0_191 : ring_actor) (a1_192 : Int) : Option Int :=
 if ((a0_191).q.Cap) ≠ 0 then
  some (IntKind.i64.wrap ((IntKind.i64.wrap (((a0_191).q.Base) + 2)) + (Int.tmod a1_192 ((a0_191).q.Cap))))
 else none

theorem go_pring_actor_slot_sc (a0_191 : ring_actor) (a1_192 : Int) (r : Int) (h : go_pring_actor_slot a0_191 a1_192 = some r) : SC Try.prog gl 32 [V.spt 11 (rws ring_actor.cells [a0_191]) (Int.toNat 0) 0, V.int .i64 a1_192] (V.int .i64 r) := by
 rw [go_pring_actor_slot] at h
 refine SC.of E_good Try.func32 rfl (fun _ _ => Try.call32 _ _) rfl ?_
 repeat (first | refine sq ?_ | refine sk ?_ | with_reducible first | refine tn ?_ | refine bn ?_)
 refine Safe.region ?_
 refine Qf E_good ?_
 refine SafeOps.nil ?_
 repeat (first | refine sq ?_ | refine sk ?_ | with_reducible first | refine tn ?_ | refine bn ?_)
 refine Safe.regionD (n := 15) [] [] E_good mixed rfl ?_
 refine DT 0 [] rfl rfl (fun _ hz => (.fn rfl)) ?_
 refine DT 1 [] rfl rfl (v := V.spt 11 (rws ring_actor.cells [a0_191]) (Int.toNat 0) 0) (fun _ hz => (.fn rfl)) ?_
 refine DT 2 [] rfl rfl (v := V.spt 11 (rws ring_actor.cells [a0_191]) (Int.toNat 0) 8) (fun _ hz => (.fn rfl)) ?_
 refine DT 3 [] rfl rfl (v := V.spt 11 (rws ring_actor.cells [a0_191]) (Int.toNat 0) 8) (fun _ hz => (.fn rfl)) ?_
 refine DT 4 [] rfl rfl (v := V.int .i64 ((a0_191).q.Base)) (fun _ hz => (.load rfl rfl (.sptM (f := ring_actor.cells) (by simp) rfl) rfl)) ?_
 refine DT 5 [] rfl rfl (v := V.int .i64 (IntKind.i64.wrap (((a0_191).q.Base) + 2))) (fun _ hz => (.fn rfl)) ?_
 refine DT 6 [] rfl rfl (fun _ hz => (.fn rfl)) ?_
 refine DT 7 [] rfl rfl (fun _ hz => (.fn rfl)) ?_
 refine DT 8 [] rfl rfl (v := V.spt 11 (rws ring_actor.cells [a0_191]) (Int.toNat 0) 0) (fun _ hz => (.fn rfl)) ?_
 refine DT 9 [] rfl rfl (v := V.spt 11 (rws ring_actor.cells [a0_191]) (Int.toNat 0) 8) (fun _ hz => (.fn rfl)) ?_
 refine DT 10 [] rfl rfl (v := V.spt 11 (rws ring_actor.cells [a0_191]) (Int.toNat 0) 9) (fun _ hz => (.fn rfl)) ?_
 refine DT 11 [] rfl rfl (v := V.int .i64 ((a0_191).q.Cap)) (fun _ hz => (.load rfl rfl (.sptM (f := ring_actor.cells) (by simp) rfl) rfl)) ?_
 refine okG h (fun hb194 h => ?_)
 refine DT 12 [] rfl rfl (v := V.int .i64 (Int.tmod a1_192 ((a0_191).q.Cap))) (fun _ hz => (.remV rfl rfl hb194)) ?_
 refine DT 13 [] rfl rfl (v := V.int .i64 (IntKind.i64.wrap ((IntKind.i64.wrap (((a0_191).q.Base) + 2)) + (Int.tmod a1_192 ((a0_191).q.Cap))))) (fun _ hz => (.fn rfl)) ?_
 refine DT 14 [] rfl rfl (fun _ hz => (.fn rfl)) ?_
 refine DAny.nil (by kernel_rfl) ?_
 repeat (first | refine sq ?_ | refine sk ?_ | with_reducible first | refine tn ?_ | refine bn ?_)
 refine Safe.ret ?_
 repeat (first | with_reducible refine thenQ.r ?_ | with_reducible refine blockQ.r ?_)
 obtain rfl := Option.some.inj h
 exact retQ.gen (vs := [V.int .i64 (IntKind.i64.wrap ((IntKind.i64.wrap (((a0_191).q.Base) + 2)) + (Int.tmod a1_192 ((a0_191).q.Cap))))]) rfl (.tmp (v := V.int .i64 (IntKind.i64.wrap ((IntKind.i64.wrap (((a0_191).q.Base) + 2)) + (Int.tmod a1_192 ((a0_191).q.Cap))))) rfl .nil) (.free rfl) (by simp) (.inr rfl)

def go_slices_Clone_api_Mem_int64 (xs : List Int) : Option (List Int) := if few xs.length then some xs else none
theorem go_slices_Clone_api_Mem_int64_sc (xs : List Int) (r : List Int) (h : go_slices_Clone_api_Mem_int64 xs = some r) : SC Try.prog gl 63 [V.sl 1 (rws (fun n => [V.int .i64 n]) xs)] (V.own 1 (rws (fun n => [V.int .i64 n]) r)) := by
 rw [go_slices_Clone_api_Mem_int64] at h
 refine okG h (fun hf h => ?_)
 obtain rfl := Option.some.inj h
 refine SC.of E_good Try.func63 rfl (fun _ _ => Try.call63 _ _) rfl ?_
 repeat (first | refine sq ?_ | refine sk ?_ | with_reducible first | refine tn ?_ | refine bn ?_)
 refine Safe.region ?_
 refine Q0 E_good rfl (v := V.nils) (.fn rfl) ?_
 refine SafeOps.nil ?_
 repeat (first | refine sq ?_ | refine sk ?_ | with_reducible first | refine tn ?_ | refine bn ?_)
 refine Safe.region ?_
 refine Q0 E_good rfl (v := V.sl 1 (rws (fun n => [V.int .i64 n]) xs)) (.fn rfl) ?_
 refine SafeOps.nilcmp E_good rfl rfl rfl rfl rfl rfl rfl (fun b hb => ?_)
 refine SafeOps.nil ?_
 repeat (first | refine sq ?_ | refine sk ?_ | with_reducible first | refine tn ?_ | refine bn ?_)
 cases b with
 | true =>
  have hx : xs = [] := List.map_eq_nil_iff.1 (hb rfl)
  subst hx
  refine Safe.condK rfl rfl ?_
  repeat (first | refine sq ?_ | refine sk ?_ | with_reducible first | refine tn ?_ | refine bn ?_)
  refine Safe.region ?_
  refine Q0 E_good rfl (v := V.nils) (.fn rfl) ?_
  refine SafeOps.nil ?_
  repeat (first | refine sq ?_ | refine sk ?_ | with_reducible first | refine tn ?_ | refine bn ?_)
  refine Safe.ret ?_
  repeat (first | with_reducible refine thenQ.r ?_ | with_reducible refine blockQ.r ?_)
  exact retQ.gen (vs := [V.nils]) rfl (.tmp rfl .nil) (.nils _) (by simp) (.inr rfl)
 | false =>
  refine Safe.condN rfl rfl ?_
  repeat (first | refine sq ?_ | refine sk ?_ | with_reducible first | refine tn ?_ | refine bn ?_)
  refine Safe.region ?_
  refine SafeOps.quiet1 E_good rfl rfl rfl (.litM (f := (fun n => [V.int .i64 n])) (xs := []) rfl rfl (by decide) rfl rfl rfl rfl rfl) rfl ?_
  refine Q0 E_good rfl (v := V.sl 1 (rws (fun n => [V.int .i64 n]) xs)) (.fn rfl) ?_
  refine SafeOps.appendM (fun n => [V.int .i64 n]) (xs := []) (ys := xs) E_good rfl rfl rfl rfl rfl rfl rfl rfl rfl (.own rfl) (.sl _) (fun _ => rfl) hf ?_
  refine Q0 E_good rfl (v := V.ref [7] 0 (rws (fun n => [V.int .i64 n]) ([] ++ xs)).length) (.fn rfl) ?_
  refine SafeOps.nil ?_
  repeat (first | refine sq ?_ | refine sk ?_ | with_reducible first | refine tn ?_ | refine bn ?_)
  refine Safe.ret ?_
  repeat (first | with_reducible refine thenQ.r ?_ | with_reducible refine blockQ.r ?_)
  exact retQ.gen (vs := [V.ref [7] 0 (rws (fun n => [V.int .i64 n]) ([] ++ xs)).length]) rfl (.tmp rfl .nil) (by exact .own rfl rfl) (by simp) (.inr rfl)

noncomputable def go_cell_Store (a0_199 : List Int) (a1_200 : Int) (a2_201 : Int) : Option ((List Int) × Int) :=
 if ((((go_cell_Check a0_199) != 0) || (decide (a1_200 < 0))) || (decide (a1_200 ≥ (a0_199.length : Int)))) = true then
  some ([], 1)
 else
  if 0 ≤ a1_200 ∧ a1_200 < (a0_199.length : Int) then
   (go_slices_Clone_api_Mem_int64 a0_199).bind fun x_254 =>
   if 0 ≤ a1_200 ∧ a1_200 < (x_254.length : Int) then
    some (st x_254 a1_200 a2_201, 0)
   else none
  else none

theorem go_cell_Store_sc (a0_199 : List Int) (a1_200 : Int) (a2_201 : Int) (r : (List Int) × Int) (h : go_cell_Store a0_199 a1_200 a2_201 = some r) : SC Try.prog gl 60 [V.sl 1 (rws (fun n => [V.int .i64 n]) a0_199), V.int .i64 a1_200, V.int .i64 a2_201] (V.tup [V.own 1 (rws (fun n => [V.int .i64 n]) r.1), V.int .i64 r.2]) := by
 rw [go_cell_Store] at h
 refine SC.of E_good Try.func60 rfl (fun _ _ => Try.call60 _ _) rfl ?_
 repeat (first | refine sq ?_ | refine sk ?_ | with_reducible first | refine tn ?_ | refine bn ?_)
 refine Safe.region ?_
 refine Qf E_good ?_
 refine Qf E_good ?_
 refine SafeOps.nil ?_
 repeat (first | refine sq ?_ | refine sk ?_ | with_reducible first | refine tn ?_ | refine bn ?_)
 refine Safe.region ?_
 refine Qf E_good ?_
 refine Qf E_good ?_
 refine SafeOps.inline E_good rfl rfl rfl rfl rfl Try.func62 rfl (fun _ _ => Try.call62 _ _) rfl ?_
 repeat (first | refine sq ?_ | refine sk ?_ | with_reducible first | refine tn ?_ | refine bn ?_)
 refine Safe.region ?_
 refine Qf E_good ?_
 refine Qf E_good ?_
 refine Qf E_good ?_
 refine SafeOps.nil ?_
 repeat (first | refine sq ?_ | refine sk ?_ | with_reducible first | refine tn ?_ | refine bn ?_)
 refine Safe.region ?_
 refine Qf E_good ?_
 refine Qf E_good ?_
 refine SafeOps.inline E_good rfl rfl rfl rfl rfl Try.func59 rfl (fun _ _ => Try.call59 _ _) rfl ?_
 repeat (first | refine sq ?_ | refine sk ?_ | with_reducible first | refine tn ?_ | refine bn ?_)
 refine Safe.region ?_
 refine Qf E_good ?_
 refine Qf E_good ?_
 refine SafeOps.nil ?_
 repeat (first | refine sq ?_ | refine sk ?_ | with_reducible first | refine tn ?_ | refine bn ?_)
 refine Safe.region ?_
 refine Qf E_good ?_
 refine Q0 E_good rfl (v := V.int .i64 (go_cell_Check a0_199)) (.callP rfl rfl (go_cell_Check_sc a0_199 _ rfl) rfl) ?_
 refine Q0 E_good rfl (v := V.bool ((go_cell_Check a0_199) != 0)) (.fn rfl) ?_
 refine Qf E_good ?_
 refine SafeOps.bjoin 3 12 (b := (((go_cell_Check a0_199) != 0) || (decide (a1_200 < 0)))) (b1 := true) (b0 := decide (a1_200 < 0)) (fun hc250 K => ?_) (fun hc250 K => ?_) bj_or ?_
 ·skip
  refine SafeOps.skip (congrArg (fun b => some (!b)) hc250) rfl rfl ?_
  refine SafeOps.skip (congrArg (fun b => some (!b)) hc250) rfl rfl ?_
  refine Q0 E_good rfl (v := V.bool true) (.pickK rfl hc250 rfl) ?_
  exact SafeOps.drop' 3 rfl rfl rfl K
 ·skip
  refine SafeOps.quiet0 E_good (congrArg (fun b => some (!b)) hc250) rfl rfl (.fn rfl) ?_
  refine SafeOps.quiet0 E_good (congrArg (fun b => some (!b)) hc250) rfl rfl (v := V.bool (decide (a1_200 < 0))) (.fn rfl) ?_
  refine Q0 E_good rfl (v := V.bool (decide (a1_200 < 0))) (.pickK rfl hc250 rfl) ?_
  exact SafeOps.drop' 3 rfl rfl rfl K
 refine Qf E_good ?_
 refine SafeOps.bjoin 5 18 (b := ((((go_cell_Check a0_199) != 0) || (decide (a1_200 < 0))) || (decide (a1_200 ≥ (a0_199.length : Int))))) (b1 := true) (b0 := decide (a1_200 ≥ (a0_199.length : Int))) (fun hc251 K => ?_) (fun hc251 K => ?_) bj_or ?_
 ·skip
  refine SafeOps.skip (congrArg (fun b => some (!b)) hc251) rfl rfl ?_
  refine SafeOps.skip (congrArg (fun b => some (!b)) hc251) rfl rfl ?_
  refine SafeOps.skip (congrArg (fun b => some (!b)) hc251) rfl rfl ?_
  refine SafeOps.skip (congrArg (fun b => some (!b)) hc251) rfl rfl ?_
  refine Q0 E_good rfl (v := V.bool true) (.pickK rfl hc251 rfl) ?_
  exact SafeOps.drop' 5 rfl rfl rfl K
 ·skip
  refine SafeOps.quiet0 E_good (congrArg (fun b => some (!b)) hc251) rfl rfl (.fn rfl) ?_
  refine SafeOps.quiet0 E_good (congrArg (fun b => some (!b)) hc251) rfl rfl (.fn rfl) ?_
  refine SafeOps.quiet0 E_good (congrArg (fun b => some (!b)) hc251) rfl rfl (v := V.int .i64 (a0_199.length : Int)) (.fnE rfl lenE) ?_
  refine SafeOps.quiet0 E_good (congrArg (fun b => some (!b)) hc251) rfl rfl (v := V.bool (decide (a1_200 ≥ (a0_199.length : Int)))) (.fn rfl) ?_
  refine Q0 E_good rfl (v := V.bool (decide (a1_200 ≥ (a0_199.length : Int)))) (.pickK rfl hc251 rfl) ?_
  exact SafeOps.drop' 5 rfl rfl rfl K
 refine SafeOps.nil ?_
 repeat (first | refine sq ?_ | refine sk ?_ | with_reducible first | refine tn ?_ | refine bn ?_)
 refine ifG h (fun hc252 h => ?_) (fun hc252 h => ?_)
 ·skip
  refine Safe.condK rfl hc252 ?_
  repeat (first | refine sq ?_ | refine sk ?_ | with_reducible first | refine tn ?_ | refine bn ?_)
  refine Safe.region ?_
  refine Qf E_good ?_
  refine Qf E_good ?_
  refine SafeOps.nil ?_
  repeat (first | refine sq ?_ | refine sk ?_ | with_reducible first | refine tn ?_ | refine bn ?_)
  refine Safe.ret ?_
  repeat (first | with_reducible refine thenQ.r ?_ | with_reducible refine blockQ.r ?_)
  refine inQ.gen (vs := [V.nilp, V.int .i64 1]) (v := V.tup [V.nilp, V.int .i64 1]) (.inr rfl) rfl (.tmp (v := V.nilp) rfl (.tmp (v := V.int .i64 1) rfl .nil)) rfl ?_
  refine Qf E_good ?_
  refine Qf E_good ?_
  refine Qf E_good ?_
  refine Qf E_good ?_
  refine Qf E_good ?_
  refine SafeOps.nil ?_
  repeat (first | refine sq ?_ | refine sk ?_ | with_reducible first | refine tn ?_ | refine bn ?_)
  refine Safe.region ?_
  refine Qf E_good ?_
  refine Q0 E_good rfl (v := V.bool true) (.fn rfl) ?_
  refine SafeOps.nil ?_
  repeat (first | refine sq ?_ | refine sk ?_ | with_reducible first | refine tn ?_ | refine bn ?_)
  refine Safe.condK rfl rfl ?_
  repeat (first | refine sq ?_ | refine sk ?_ | with_reducible first | refine tn ?_ | refine bn ?_)
  refine Safe.region ?_
  refine Qf E_good ?_
  refine Qf E_good ?_
  refine Qf E_good ?_
  refine Qf E_good ?_
  refine SafeOps.nil ?_
  repeat (first | refine sq ?_ | refine sk ?_ | with_reducible first | refine tn ?_ | refine bn ?_)
  refine Safe.ret ?_
  repeat (first | with_reducible refine thenQ.r ?_ | with_reducible refine blockQ.r ?_)
  refine inQ.gen (vs := [V.nils, V.nilp, V.int .i64 1]) (v := V.tup [V.nils, V.nilp, V.int .i64 1]) (.inr rfl) rfl (.tmp (v := V.nils) rfl (.tmp (v := V.nilp) rfl (.tmp (v := V.int .i64 1) rfl .nil))) rfl ?_
  refine Qf E_good ?_
  refine Qf E_good ?_
  refine Qf E_good ?_
  refine Qf E_good ?_
  refine Qf E_good ?_
  refine Qf E_good ?_
  refine Qf E_good ?_
  refine SafeOps.nil ?_
  repeat (first | refine sq ?_ | refine sk ?_ | with_reducible first | refine tn ?_ | refine bn ?_)
  refine Safe.region ?_
  refine Qf E_good ?_
  refine Q0 E_good rfl (v := V.bool true) (.fn rfl) ?_
  refine SafeOps.nil ?_
  repeat (first | refine sq ?_ | refine sk ?_ | with_reducible first | refine tn ?_ | refine bn ?_)
  refine Safe.condK rfl rfl ?_
  repeat (first | refine sq ?_ | refine sk ?_ | with_reducible first | refine tn ?_ | refine bn ?_)
  refine Safe.region ?_
  refine Qf E_good ?_
  refine Qf E_good ?_
  refine Qf E_good ?_
  refine SafeOps.nil ?_
  repeat (first | refine sq ?_ | refine sk ?_ | with_reducible first | refine tn ?_ | refine bn ?_)
  refine Safe.ret ?_
  repeat (first | with_reducible refine thenQ.r ?_ | with_reducible refine blockQ.r ?_)
  obtain rfl := Option.some.inj h
  exact retQ.gen (vs := [V.nils, V.int .i64 1]) rfl (.tmp (v := V.nils) rfl (.tmp (v := V.int .i64 1) rfl .nil)) (by exact (.tup (.cons (.nils _) (.cons (.free rfl) .nil)))) (by simp) (.inr rfl)
 ·skip
  refine Safe.condN rfl hc252 ?_
  repeat (first | refine sq ?_ | refine sk ?_ | with_reducible first | refine tn ?_ | refine bn ?_)
  refine Safe.region ?_
  refine Qf E_good ?_
  refine Qf E_good ?_
  refine okG h (fun hb253 h => ?_)
  refine Q0 E_good rfl (v := V.spt 1 (rws (fun n => [V.int .i64 n]) a0_199) (Int.toNat a1_200) 0) (.idxSlM (f := (fun n => [V.int .i64 n])) rfl rfl rfl rfl rfl hb253) ?_
  refine Qf E_good ?_
  refine Qf E_good ?_
  refine SafeOps.nil ?_
  repeat (first | refine sq ?_ | refine sk ?_ | with_reducible first | refine tn ?_ | refine bn ?_)
  refine Safe.ret ?_
  repeat (first | with_reducible refine thenQ.r ?_ | with_reducible refine blockQ.r ?_)
  refine inQ.gen (vs := [V.spt 1 (rws (fun n => [V.int .i64 n]) a0_199) (Int.toNat a1_200) 0, V.int .i64 0]) (v := V.tup [V.spt 1 (rws (fun n => [V.int .i64 n]) a0_199) (Int.toNat a1_200) 0, V.int .i64 0]) (.inr rfl) rfl (.tmp (v := V.spt 1 (rws (fun n => [V.int .i64 n]) a0_199) (Int.toNat a1_200) 0) rfl (.tmp (v := V.int .i64 0) rfl .nil)) rfl ?_
  refine Qf E_good ?_
  refine Qf E_good ?_
  refine Qf E_good ?_
  refine Qf E_good ?_
  refine Qf E_good ?_
  refine SafeOps.nil ?_
  repeat (first | refine sq ?_ | refine sk ?_ | with_reducible first | refine tn ?_ | refine bn ?_)
  refine Safe.region ?_
  refine Qf E_good ?_
  refine Q0 E_good rfl (v := V.bool false) (.fn rfl) ?_
  refine SafeOps.nil ?_
  repeat (first | refine sq ?_ | refine sk ?_ | with_reducible first | refine tn ?_ | refine bn ?_)
  refine Safe.condN rfl rfl ?_
  repeat (first | refine sq ?_ | refine sk ?_ | with_reducible first | refine tn ?_ | refine bn ?_)
  refine Safe.region ?_
  refine Qf E_good ?_
  refine bindG h ?_
  intro x_254 he255 h
  refine SafeOps.quiet E_good rfl rfl rfl (v := V.ref [14, 19, 0] 0 (rws (fun n => [V.int .i64 n]) x_254).length) (.callP rfl rfl (go_slices_Clone_api_Mem_int64_sc a0_199 _ he255) rfl) rfl ?_
  refine Qf E_good ?_
  refine SafeOps.nil ?_
  repeat (first | refine sq ?_ | refine sk ?_ | with_reducible first | refine tn ?_ | refine bn ?_)
  refine Safe.regionD (n := 7) [] [] E_good mixed rfl ?_
  refine DT 0 [] rfl rfl (fun _ hz => (.fn rfl)) ?_
  refine DT 1 [] rfl rfl (fun _ hz => (.fn rfl)) ?_
  refine DT 2 [] rfl rfl (fun _ hz => (.fn rfl)) ?_
  refine okG h (fun hb256 h => ?_)
  refine DT 3 [] rfl rfl (v := V.ptr [14, 19, 0] (0 + Int.toNat a1_200) 0) (fun _ hz => (.idxRefM (f := (fun n => [V.int .i64 n])) (xs := x_254) rfl rfl rfl (hz _ _ rfl rfl) rfl rfl hb256)) ?_
  refine DT 4 [] rfl rfl (fun _ hz => (.fn rfl)) ?_
  refine DT 5 [] rfl rfl (fun _ hz => (.fn rfl)) ?_
  refine DT 6 [] rfl rfl (fun _ hz => (.fn rfl)) ?_
  refine DAny.nil (by kernel_rfl) ?_
  repeat (first | refine sq ?_ | refine sk ?_ | with_reducible first | refine tn ?_ | refine bn ?_)
  refine Safe.ret ?_
  repeat (first | with_reducible refine thenQ.r ?_ | with_reducible refine blockQ.r ?_)
  refine inQ.gen (vs := [V.ref [14, 19, 0] 0 (rws (fun n => [V.int .i64 n]) x_254).length, V.ptr [14, 19, 0] (0 + Int.toNat a1_200) 0, V.int .i64 0]) (v := V.tup [V.ref [14, 19, 0] 0 (rws (fun n => [V.int .i64 n]) x_254).length, V.ptr [14, 19, 0] (0 + Int.toNat a1_200) 0, V.int .i64 0]) (.inr rfl) rfl (.tmp (v := V.ref [14, 19, 0] 0 (rws (fun n => [V.int .i64 n]) x_254).length) rfl (.tmp (v := V.ptr [14, 19, 0] (0 + Int.toNat a1_200) 0) rfl (.tmp (v := V.int .i64 0) rfl .nil))) rfl ?_
  refine Qf E_good ?_
  refine Qf E_good ?_
  refine Qf E_good ?_
  refine Qf E_good ?_
  refine Qf E_good ?_
  refine Qf E_good ?_
  refine Qf E_good ?_
  refine SafeOps.nil ?_
  repeat (first | refine sq ?_ | refine sk ?_ | with_reducible first | refine tn ?_ | refine bn ?_)
  refine Safe.region ?_
  refine Qf E_good ?_
  refine Q0 E_good rfl (v := V.bool false) (.fn rfl) ?_
  refine SafeOps.nil ?_
  repeat (first | refine sq ?_ | refine sk ?_ | with_reducible first | refine tn ?_ | refine bn ?_)
  refine Safe.condN rfl rfl ?_
  repeat (first | refine sq ?_ | refine sk ?_ | with_reducible first | refine tn ?_ | refine bn ?_)
  refine Safe.region ?_
  refine Qf E_good ?_
  refine Qf E_good ?_
  refine Q0 E_good rfl (v := V.ptr [14, 19, 0] (0 + Int.toNat a1_200) 0) (.fn rfl) ?_
  refine SafeOps.store (z := Obj.rows 1 (rws (fun n => [V.int .i64 n]) (st x_254 a1_200 a2_201)) false) E_good rfl rfl rfl rfl rfl rfl rfl (.rowsM (f := (fun n => [V.int .i64 n])) (xs := x_254) (y := a2_201) hb256 rfl rfl rfl rfl) ?_
  refine SafeOps.see 15 (u := V.ref [14, 19, 0] 0 (rws (fun n => [V.int .i64 n]) (st x_254 a1_200 a2_201)).length) rfl (.len (by simp [rws, st])) ?_
  refine SafeOps.see 8 (u := V.ref [14, 19, 0] 0 (rws (fun n => [V.int .i64 n]) (st x_254 a1_200 a2_201)).length) rfl (.len (by simp [rws, st])) ?_
  refine SafeOps.nil ?_
  repeat (first | refine sq ?_ | refine sk ?_ | with_reducible first | refine tn ?_ | refine bn ?_)
  refine Safe.region ?_
  refine Qf E_good ?_
  refine Qf E_good ?_
  refine Qf E_good ?_
  refine SafeOps.nil ?_
  repeat (first | refine sq ?_ | refine sk ?_ | with_reducible first | refine tn ?_ | refine bn ?_)
  refine Safe.ret ?_
  repeat (first | with_reducible refine thenQ.r ?_ | with_reducible refine blockQ.r ?_)
  obtain rfl := Option.some.inj h
  exact retQ.gen (vs := [V.ref [14, 19, 0] 0 (rws (fun n => [V.int .i64 n]) (st x_254 a1_200 a2_201)).length, V.int .i64 0]) rfl (.tmp (v := V.ref [14, 19, 0] 0 (rws (fun n => [V.int .i64 n]) (st x_254 a1_200 a2_201)).length) rfl (.tmp (v := V.int .i64 0) rfl .nil)) (by exact (.tup (.cons (.own rfl rfl) (.cons (.free rfl) .nil)))) (by simp) (.inr rfl)

noncomputable def go_cell_Cas_j1 (a1_481 : Int) (a2_482 : Int) (x_539 : List Int) (v11_542 : List Int) : Option ((List Int) × Bool × Int) :=
 some (v11_542, ((gt x_539 a1_481) == a2_482), 0)

noncomputable def go_cell_Cas (a0_480 : List Int) (a1_481 : Int) (a2_482 : Int) (a3_483 : Int) : Option ((List Int) × Bool × Int) :=
 if ((((go_cell_Check a0_480) != 0) || (decide (a1_481 < 0))) || (decide (a1_481 ≥ (a0_480.length : Int)))) = true then
  some ([], false, 1)
 else
  if 0 ≤ a1_481 ∧ a1_481 < (a0_480.length : Int) then
   (go_slices_Clone_api_Mem_int64 a0_480).bind fun x_539 =>
   if 0 ≤ a1_481 ∧ a1_481 < (x_539.length : Int) then
    if ((gt x_539 a1_481) == a2_482) = true then
     go_cell_Cas_j1 a1_481 a2_482 x_539 (st x_539 a1_481 a3_483)
    else
     go_cell_Cas_j1 a1_481 a2_482 x_539 x_539
   else none
  else none

theorem go_cell_Cas_sc (a0_480 : List Int) (a1_481 : Int) (a2_482 : Int) (a3_483 : Int) (r : (List Int) × Bool × Int) (h : go_cell_Cas a0_480 a1_481 a2_482 a3_483 = some r) : SC Try.prog gl 61 [V.sl 1 (rws (fun n => [V.int .i64 n]) a0_480), V.int .i64 a1_481, V.int .i64 a2_482, V.int .i64 a3_483] (V.tup [V.own 1 (rws (fun n => [V.int .i64 n]) r.1), V.bool r.2.1, V.int .i64 r.2.2]) := by
 rw [go_cell_Cas] at h
 refine SC.of E_good Try.func61 rfl (fun _ _ => Try.call61 _ _) rfl ?_
 repeat (first | refine sq ?_ | refine sk ?_ | with_reducible first | refine tn ?_ | refine bn ?_)
 refine Safe.region ?_
 refine Qf E_good ?_
 refine Qf E_good ?_
 refine Qf E_good ?_
 refine SafeOps.nil ?_
 repeat (first | refine sq ?_ | refine sk ?_ | with_reducible first | refine tn ?_ | refine bn ?_)
 refine Safe.region ?_
 refine Qf E_good ?_
 refine Qf E_good ?_
 refine SafeOps.inline E_good rfl rfl rfl rfl rfl Try.func62 rfl (fun _ _ => Try.call62 _ _) rfl ?_
 repeat (first | refine sq ?_ | refine sk ?_ | with_reducible first | refine tn ?_ | refine bn ?_)
 refine Safe.region ?_
 refine Qf E_good ?_
 refine Qf E_good ?_
 refine Qf E_good ?_
 refine SafeOps.nil ?_
 repeat (first | refine sq ?_ | refine sk ?_ | with_reducible first | refine tn ?_ | refine bn ?_)
 refine Safe.region ?_
 refine Qf E_good ?_
 refine Qf E_good ?_
 refine SafeOps.inline E_good rfl rfl rfl rfl rfl Try.func59 rfl (fun _ _ => Try.call59 _ _) rfl ?_
 repeat (first | refine sq ?_ | refine sk ?_ | with_reducible first | refine tn ?_ | refine bn ?_)
 refine Safe.region ?_
 refine Qf E_good ?_
 refine Qf E_good ?_
 refine SafeOps.nil ?_
 repeat (first | refine sq ?_ | refine sk ?_ | with_reducible first | refine tn ?_ | refine bn ?_)
 refine Safe.region ?_
 refine Qf E_good ?_
 refine Q0 E_good rfl (v := V.int .i64 (go_cell_Check a0_480)) (.callP rfl rfl (go_cell_Check_sc a0_480 _ rfl) rfl) ?_
 refine Q0 E_good rfl (v := V.bool ((go_cell_Check a0_480) != 0)) (.fn rfl) ?_
 refine Qf E_good ?_
 refine SafeOps.bjoin 3 12 (b := (((go_cell_Check a0_480) != 0) || (decide (a1_481 < 0)))) (b1 := true) (b0 := decide (a1_481 < 0)) (fun hc535 K => ?_) (fun hc535 K => ?_) bj_or ?_
 ·skip
  refine SafeOps.skip (congrArg (fun b => some (!b)) hc535) rfl rfl ?_
  refine SafeOps.skip (congrArg (fun b => some (!b)) hc535) rfl rfl ?_
  refine Q0 E_good rfl (v := V.bool true) (.pickK rfl hc535 rfl) ?_
  exact SafeOps.drop' 3 rfl rfl rfl K
 ·skip
  refine SafeOps.quiet0 E_good (congrArg (fun b => some (!b)) hc535) rfl rfl (.fn rfl) ?_
  refine SafeOps.quiet0 E_good (congrArg (fun b => some (!b)) hc535) rfl rfl (v := V.bool (decide (a1_481 < 0))) (.fn rfl) ?_
  refine Q0 E_good rfl (v := V.bool (decide (a1_481 < 0))) (.pickK rfl hc535 rfl) ?_
  exact SafeOps.drop' 3 rfl rfl rfl K
 refine Qf E_good ?_
 refine SafeOps.bjoin 5 18 (b := ((((go_cell_Check a0_480) != 0) || (decide (a1_481 < 0))) || (decide (a1_481 ≥ (a0_480.length : Int))))) (b1 := true) (b0 := decide (a1_481 ≥ (a0_480.length : Int))) (fun hc536 K => ?_) (fun hc536 K => ?_) bj_or ?_
 ·skip
  refine SafeOps.skip (congrArg (fun b => some (!b)) hc536) rfl rfl ?_
  refine SafeOps.skip (congrArg (fun b => some (!b)) hc536) rfl rfl ?_
  refine SafeOps.skip (congrArg (fun b => some (!b)) hc536) rfl rfl ?_
  refine SafeOps.skip (congrArg (fun b => some (!b)) hc536) rfl rfl ?_
  refine Q0 E_good rfl (v := V.bool true) (.pickK rfl hc536 rfl) ?_
  exact SafeOps.drop' 5 rfl rfl rfl K
 ·skip
  refine SafeOps.quiet0 E_good (congrArg (fun b => some (!b)) hc536) rfl rfl (.fn rfl) ?_
  refine SafeOps.quiet0 E_good (congrArg (fun b => some (!b)) hc536) rfl rfl (.fn rfl) ?_
  refine SafeOps.quiet0 E_good (congrArg (fun b => some (!b)) hc536) rfl rfl (v := V.int .i64 (a0_480.length : Int)) (.fnE rfl lenE) ?_
  refine SafeOps.quiet0 E_good (congrArg (fun b => some (!b)) hc536) rfl rfl (v := V.bool (decide (a1_481 ≥ (a0_480.length : Int)))) (.fn rfl) ?_
  refine Q0 E_good rfl (v := V.bool (decide (a1_481 ≥ (a0_480.length : Int)))) (.pickK rfl hc536 rfl) ?_
  exact SafeOps.drop' 5 rfl rfl rfl K
 refine SafeOps.nil ?_
 repeat (first | refine sq ?_ | refine sk ?_ | with_reducible first | refine tn ?_ | refine bn ?_)
 refine ifG h (fun hc537 h => ?_) (fun hc537 h => ?_)
 ·skip
  refine Safe.condK rfl hc537 ?_
  repeat (first | refine sq ?_ | refine sk ?_ | with_reducible first | refine tn ?_ | refine bn ?_)
  refine Safe.region ?_
  refine Qf E_good ?_
  refine Qf E_good ?_
  refine SafeOps.nil ?_
  repeat (first | refine sq ?_ | refine sk ?_ | with_reducible first | refine tn ?_ | refine bn ?_)
  refine Safe.ret ?_
  repeat (first | with_reducible refine thenQ.r ?_ | with_reducible refine blockQ.r ?_)
  refine inQ.gen (vs := [V.nilp, V.int .i64 1]) (v := V.tup [V.nilp, V.int .i64 1]) (.inr rfl) rfl (.tmp (v := V.nilp) rfl (.tmp (v := V.int .i64 1) rfl .nil)) rfl ?_
  refine Qf E_good ?_
  refine Qf E_good ?_
  refine Qf E_good ?_
  refine Qf E_good ?_
  refine Qf E_good ?_
  refine SafeOps.nil ?_
  repeat (first | refine sq ?_ | refine sk ?_ | with_reducible first | refine tn ?_ | refine bn ?_)
  refine Safe.region ?_
  refine Qf E_good ?_
  refine Q0 E_good rfl (v := V.bool true) (.fn rfl) ?_
  refine SafeOps.nil ?_
  repeat (first | refine sq ?_ | refine sk ?_ | with_reducible first | refine tn ?_ | refine bn ?_)
  refine Safe.condK rfl rfl ?_
  repeat (first | refine sq ?_ | refine sk ?_ | with_reducible first | refine tn ?_ | refine bn ?_)
  refine Safe.region ?_
  refine Qf E_good ?_
  refine Qf E_good ?_
  refine Qf E_good ?_
  refine Qf E_good ?_
  refine SafeOps.nil ?_
  repeat (first | refine sq ?_ | refine sk ?_ | with_reducible first | refine tn ?_ | refine bn ?_)
  refine Safe.ret ?_
  repeat (first | with_reducible refine thenQ.r ?_ | with_reducible refine blockQ.r ?_)
  refine inQ.gen (vs := [V.nils, V.nilp, V.int .i64 1]) (v := V.tup [V.nils, V.nilp, V.int .i64 1]) (.inr rfl) rfl (.tmp (v := V.nils) rfl (.tmp (v := V.nilp) rfl (.tmp (v := V.int .i64 1) rfl .nil))) rfl ?_
  refine Qf E_good ?_
  refine Qf E_good ?_
  refine Qf E_good ?_
  refine Qf E_good ?_
  refine Qf E_good ?_
  refine Qf E_good ?_
  refine Qf E_good ?_
  refine SafeOps.nil ?_
  repeat (first | refine sq ?_ | refine sk ?_ | with_reducible first | refine tn ?_ | refine bn ?_)
  refine Safe.region ?_
  refine Qf E_good ?_
  refine Q0 E_good rfl (v := V.bool true) (.fn rfl) ?_
  refine SafeOps.nil ?_
  repeat (first | refine sq ?_ | refine sk ?_ | with_reducible first | refine tn ?_ | refine bn ?_)
  refine Safe.condK rfl rfl ?_
  repeat (first | refine sq ?_ | refine sk ?_ | with_reducible first | refine tn ?_ | refine bn ?_)
  refine Safe.region ?_
  refine Qf E_good ?_
  refine Qf E_good ?_
  refine Qf E_good ?_
  refine Qf E_good ?_
  refine SafeOps.nil ?_
  repeat (first | refine sq ?_ | refine sk ?_ | with_reducible first | refine tn ?_ | refine bn ?_)
  refine Safe.ret ?_
  repeat (first | with_reducible refine thenQ.r ?_ | with_reducible refine blockQ.r ?_)
  obtain rfl := Option.some.inj h
  exact retQ.gen (vs := [V.nils, V.bool false, V.int .i64 1]) rfl (.tmp (v := V.nils) rfl (.tmp (v := V.bool false) rfl (.tmp (v := V.int .i64 1) rfl .nil))) (by exact (.tup (.cons (.nils _) (.cons (.free rfl) (.cons (.free rfl) .nil))))) (by simp) (.inr rfl)
 ·skip
  refine Safe.condN rfl hc537 ?_
  repeat (first | refine sq ?_ | refine sk ?_ | with_reducible first | refine tn ?_ | refine bn ?_)
  refine Safe.region ?_
  refine Qf E_good ?_
  refine Qf E_good ?_
  refine okG h (fun hb538 h => ?_)
  refine Q0 E_good rfl (v := V.spt 1 (rws (fun n => [V.int .i64 n]) a0_480) (Int.toNat a1_481) 0) (.idxSlM (f := (fun n => [V.int .i64 n])) rfl rfl rfl rfl rfl hb538) ?_
  refine Qf E_good ?_
  refine Qf E_good ?_
  refine SafeOps.nil ?_
  repeat (first | refine sq ?_ | refine sk ?_ | with_reducible first | refine tn ?_ | refine bn ?_)
  refine Safe.ret ?_
  repeat (first | with_reducible refine thenQ.r ?_ | with_reducible refine blockQ.r ?_)
  refine inQ.gen (vs := [V.spt 1 (rws (fun n => [V.int .i64 n]) a0_480) (Int.toNat a1_481) 0, V.int .i64 0]) (v := V.tup [V.spt 1 (rws (fun n => [V.int .i64 n]) a0_480) (Int.toNat a1_481) 0, V.int .i64 0]) (.inr rfl) rfl (.tmp (v := V.spt 1 (rws (fun n => [V.int .i64 n]) a0_480) (Int.toNat a1_481) 0) rfl (.tmp (v := V.int .i64 0) rfl .nil)) rfl ?_
  refine Qf E_good ?_
  refine Qf E_good ?_
  refine Qf E_good ?_
  refine Qf E_good ?_
  refine Qf E_good ?_
  refine SafeOps.nil ?_
  repeat (first | refine sq ?_ | refine sk ?_ | with_reducible first | refine tn ?_ | refine bn ?_)
  refine Safe.region ?_
  refine Qf E_good ?_
  refine Q0 E_good rfl (v := V.bool false) (.fn rfl) ?_
  refine SafeOps.nil ?_
  repeat (first | refine sq ?_ | refine sk ?_ | with_reducible first | refine tn ?_ | refine bn ?_)
  refine Safe.condN rfl rfl ?_
  repeat (first | refine sq ?_ | refine sk ?_ | with_reducible first | refine tn ?_ | refine bn ?_)
  refine Safe.region ?_
  refine Qf E_good ?_
  refine bindG h ?_
  intro x_539 he540 h
  refine SafeOps.quiet E_good rfl rfl rfl (v := V.ref [18, 19, 0] 0 (rws (fun n => [V.int .i64 n]) x_539).length) (.callP rfl rfl (go_slices_Clone_api_Mem_int64_sc a0_480 _ he540) rfl) rfl ?_
  refine Qf E_good ?_
  refine SafeOps.nil ?_
  repeat (first | refine sq ?_ | refine sk ?_ | with_reducible first | refine tn ?_ | refine bn ?_)
  refine Safe.regionD (n := 7) [] [] E_good mixed rfl ?_
  refine DT 0 [] rfl rfl (fun _ hz => (.fn rfl)) ?_
  refine DT 1 [] rfl rfl (fun _ hz => (.fn rfl)) ?_
  refine DT 2 [] rfl rfl (fun _ hz => (.fn rfl)) ?_
  refine okG h (fun hb541 h => ?_)
  refine DT 3 [] rfl rfl (v := V.ptr [18, 19, 0] (0 + Int.toNat a1_481) 0) (fun _ hz => (.idxRefM (f := (fun n => [V.int .i64 n])) (xs := x_539) rfl rfl rfl (hz _ _ rfl rfl) rfl rfl hb541)) ?_
  refine DT 4 [] rfl rfl (fun _ hz => (.fn rfl)) ?_
  refine DT 5 [] rfl rfl (fun _ hz => (.fn rfl)) ?_
  refine DT 6 [] rfl rfl (fun _ hz => (.fn rfl)) ?_
  refine DAny.nil (by kernel_rfl) ?_
  repeat (first | refine sq ?_ | refine sk ?_ | with_reducible first | refine tn ?_ | refine bn ?_)
  refine Safe.ret ?_
  repeat (first | with_reducible refine thenQ.r ?_ | with_reducible refine blockQ.r ?_)
  refine inQ.gen (vs := [V.ref [18, 19, 0] 0 (rws (fun n => [V.int .i64 n]) x_539).length, V.ptr [18, 19, 0] (0 + Int.toNat a1_481) 0, V.int .i64 0]) (v := V.tup [V.ref [18, 19, 0] 0 (rws (fun n => [V.int .i64 n]) x_539).length, V.ptr [18, 19, 0] (0 + Int.toNat a1_481) 0, V.int .i64 0]) (.inr rfl) rfl (.tmp (v := V.ref [18, 19, 0] 0 (rws (fun n => [V.int .i64 n]) x_539).length) rfl (.tmp (v := V.ptr [18, 19, 0] (0 + Int.toNat a1_481) 0) rfl (.tmp (v := V.int .i64 0) rfl .nil))) rfl ?_
  refine Qf E_good ?_
  refine Qf E_good ?_
  refine Qf E_good ?_
  refine Qf E_good ?_
  refine Qf E_good ?_
  refine Qf E_good ?_
  refine Qf E_good ?_
  refine SafeOps.nil ?_
  repeat (first | refine sq ?_ | refine sk ?_ | with_reducible first | refine tn ?_ | refine bn ?_)
  refine Safe.region ?_
  refine Qf E_good ?_
  refine Q0 E_good rfl (v := V.bool false) (.fn rfl) ?_
  refine SafeOps.nil ?_
  repeat (first | refine sq ?_ | refine sk ?_ | with_reducible first | refine tn ?_ | refine bn ?_)
  refine Safe.condN rfl rfl ?_
  repeat (first | refine sq ?_ | refine sk ?_ | with_reducible first | refine tn ?_ | refine bn ?_)
  refine Safe.region ?_
  refine Qf E_good ?_
  refine Q0 E_good rfl (v := V.ptr [18, 19, 0] (0 + Int.toNat a1_481) 0) (.fn rfl) ?_
  refine Q0 E_good rfl (v := V.int .i64 (gt x_539 a1_481)) (.load rfl rfl (.rowsM (f := (fun n => [V.int .i64 n])) (xs := x_539) hb541 rfl rfl) rfl) ?_
  refine Qf E_good ?_
  refine Q0 E_good rfl (v := V.bool ((gt x_539 a1_481) == a2_482)) (.fn rfl) ?_
  refine Qf E_good ?_
  refine SafeOps.nil ?_
  repeat (first | refine sq ?_ | refine sk ?_ | with_reducible first | refine tn ?_ | refine bn ?_)
  refine Safe.region ?_
  refine Qf E_good ?_
  refine SafeOps.nil ?_
  repeat (first | refine sq ?_ | refine sk ?_ | with_reducible first | refine tn ?_ | refine bn ?_)
  refine Safe.joinT (fun (v11_542 : List Int) => go_cell_Cas_j1 a1_481 a2_482 x_539 v11_542 = some r) (fun (v11_542 : List Int) => ⟨Try.f61.ntmps, [(11, V.ref [18, 19, 0] 0 (rws (fun n => [V.int .i64 n]) v11_542).length), (14, V.bool ((gt x_539 a1_481) == a2_482))], [([18, 19, 0], Obj.rows 1 (rws (fun n => [V.int .i64 n]) v11_542) false)], [], []⟩) ?_ (fun HJ543 => ?_)
  ·intro v11_542 h
   replace h : go_cell_Cas_j1 a1_481 a2_482 x_539 v11_542 = some r := h
   rw [go_cell_Cas_j1] at h
   repeat (first | refine sq ?_ | refine sk ?_ | with_reducible first | refine tn ?_ | refine bn ?_)
   refine Safe.region ?_
   refine Qf E_good ?_
   refine Qf E_good ?_
   refine Qf E_good ?_
   refine Qf E_good ?_
   refine Qf E_good ?_
   refine SafeOps.nil ?_
   repeat (first | refine sq ?_ | refine sk ?_ | with_reducible first | refine tn ?_ | refine bn ?_)
   refine Safe.ret ?_
   repeat (first | with_reducible refine thenQ.r ?_ | with_reducible refine blockQ.r ?_)
   obtain rfl := Option.some.inj h
   exact retQ.gen (vs := [V.ref [18, 19, 0] 0 (rws (fun n => [V.int .i64 n]) v11_542).length, V.bool ((gt x_539 a1_481) == a2_482), V.int .i64 0]) rfl (.tmp (v := V.ref [18, 19, 0] 0 (rws (fun n => [V.int .i64 n]) v11_542).length) rfl (.tmp (v := V.bool ((gt x_539 a1_481) == a2_482)) rfl (.tmp (v := V.int .i64 0) rfl .nil))) (by exact (.tup (.cons (.own rfl rfl) (.cons (.free rfl) (.cons (.free rfl) .nil))))) (by simp) (.inr rfl)
  ·skip
   refine ifG h (fun hc544 h => ?_) (fun hc544 h => ?_)
   ·skip
    refine Safe.condK rfl hc544 ?_
    repeat (first | refine sq ?_ | refine sk ?_ | with_reducible first | refine tn ?_ | refine bn ?_)
    refine Safe.region ?_
    refine Qf E_good ?_
    refine Qf E_good ?_
    refine Q0 E_good rfl (v := V.ptr [18, 19, 0] (0 + Int.toNat a1_481) 0) (.fn rfl) ?_
    refine SafeOps.store (z := Obj.rows 1 (rws (fun n => [V.int .i64 n]) (st x_539 a1_481 a3_483)) false) E_good rfl rfl rfl rfl rfl rfl rfl (.rowsM (f := (fun n => [V.int .i64 n])) (xs := x_539) (y := a3_483) hb541 rfl rfl rfl rfl) ?_
    refine SafeOps.see 19 (u := V.ref [18, 19, 0] 0 (rws (fun n => [V.int .i64 n]) (st x_539 a1_481 a3_483)).length) rfl (.len (by simp [rws, st])) ?_
    refine SafeOps.see 11 (u := V.ref [18, 19, 0] 0 (rws (fun n => [V.int .i64 n]) (st x_539 a1_481 a3_483)).length) rfl (.len (by simp [rws, st])) ?_
    refine SafeOps.nil ?_
    repeat (first | refine Safe.skip ?_ | with_reducible refine thenQ.n ?_ | with_reducible refine blockQ.n ?_)
    exact Safe.got (HJ543 (st x_539 a1_481 a3_483) h) (.cov ⟨rfl, rfl, (ut (ut upT_nil)), (uo upOb_nil), upOut_nil, rfl⟩)
   ·skip
    refine Safe.condN rfl hc544 ?_
    repeat (first | refine Safe.skip ?_ | with_reducible refine thenQ.n ?_ | with_reducible refine blockQ.n ?_)
    exact Safe.got (HJ543 (x_539) h) (.cov ⟨rfl, rfl, (ut (ut upT_nil)), (uo upOb_nil), upOut_nil, rfl⟩)

noncomputable def go_ring_Step_j81 (a2_64 : api_Hand) (v311_1238 : Int) (v312_1239 : Int) (v313_1240 : Int) (v314_1241 : Int) (v315_1242 : Bool) (v316_1243 : Int) (v317_1244 : List Int) (v3110_1245 : Int) : Option ((List Int) × api_Hand × Int) :=
 if (v3110_1245 != 0) = true then
  some ([], api_Hand.zero, v3110_1245)
 else
  some (v317_1244, (api_Hand.mk a2_64.Kind v311_1238 v312_1239 v313_1240 v314_1241 v315_1242 v316_1243), 0)

noncomputable def go_ring_Step_j87 (a0_62 : List Int) (a2_64 : api_Hand) (x_1271 : Int) (v3110_1279 : Int) : Option ((List Int) × api_Hand × Int) :=
 go_ring_Step_j81 a2_64 (IntKind.i64.wrap (a2_64.Pc + 1)) a2_64.V x_1271 a2_64.B a2_64.Won a2_64.State ([] ++ a0_62) v3110_1279

noncomputable def go_ring_Step_j86 (a0_62 : List Int) (a2_64 : api_Hand) (x_1271 : Int) (v3110_1275 : Int) : Option ((List Int) × api_Hand × Int) :=
 if (!((decide (x_1271 ≥ 0)) && (decide (x_1271 ≤ 1099511627776)))) = true then
  go_ring_Step_j87 a0_62 a2_64 x_1271 9
 else
  go_ring_Step_j87 a0_62 a2_64 x_1271 v3110_1275

noncomputable def go_ring_Step_j94 (a0_62 : List Int) (a2_64 : api_Hand) (x_1306 : Int) (v3110_1314 : Int) (v311_1317 : Int) (v316_1318 : Int) : Option ((List Int) × api_Hand × Int) :=
 go_ring_Step_j81 a2_64 v311_1317 a2_64.V a2_64.T x_1306 a2_64.Won v316_1318 ([] ++ a0_62) v3110_1314

noncomputable def go_ring_Step_j93 (a0_62 : List Int) (a1_63 : api_Deque) (a2_64 : api_Hand) (x_1306 : Int) (v3110_1314 : Int) : Option ((List Int) × api_Hand × Int) :=
 if (decide ((IntKind.i64.wrap (x_1306 - a2_64.T)) ≥ a1_63.Cap)) = true then
  go_ring_Step_j94 a0_62 a2_64 x_1306 v3110_1314 a2_64.Pc 3
 else
  go_ring_Step_j94 a0_62 a2_64 x_1306 v3110_1314 2 a2_64.State

noncomputable def go_ring_Step_j92 (a0_62 : List Int) (a1_63 : api_Deque) (a2_64 : api_Hand) (x_1306 : Int) (v3110_1310 : Int) : Option ((List Int) × api_Hand × Int) :=
 if (!((decide (x_1306 ≥ 0)) && (decide (x_1306 ≤ 1099511627776)))) = true then
  go_ring_Step_j93 a0_62 a1_63 a2_64 x_1306 9
 else
  go_ring_Step_j93 a0_62 a1_63 a2_64 x_1306 v3110_1310

noncomputable def go_ring_Step_j98 (a2_64 : api_Hand) (v317_1339 : List Int) (v3110_1340 : Int) : Option ((List Int) × api_Hand × Int) :=
 go_ring_Step_j81 a2_64 (IntKind.i64.wrap (a2_64.Pc + 1)) a2_64.V a2_64.T a2_64.B a2_64.Won a2_64.State v317_1339 v3110_1340

noncomputable def go_ring_Step_j100 (a2_64 : api_Hand) (v317_1352 : List Int) (v3110_1353 : Int) : Option ((List Int) × api_Hand × Int) :=
 go_ring_Step_j98 a2_64 v317_1352 v3110_1353

noncomputable def go_ring_Step_j101 (a0_62 : List Int) (a2_64 : api_Hand) (x_1355 : List Int) (x_1356 : Int) (v3110_1359 : Int) : Option ((List Int) × api_Hand × Int) :=
 if (x_1356 == 0) = true then
  go_ring_Step_j100 a2_64 x_1355 v3110_1359
 else
  go_ring_Step_j100 a2_64 ([] ++ a0_62) v3110_1359

noncomputable def go_ring_Step_j95 (a0_62 : List Int) (a1_63 : api_Deque) (a2_64 : api_Hand) (v3110_1325 : Int) : Option ((List Int) × api_Hand × Int) :=
 if (decide (a2_64.B ≥ 0)) = true then
  (go_pring_actor_slot (ring_actor.mk a2_64 ([] ++ a0_62) a1_63 v3110_1325) a2_64.B).bind fun x_1343 =>
  (go_cell_Store ([] ++ a0_62) x_1343 a2_64.V).bind fun (x_1355, x_1356) =>
  if (!(x_1356 == 0)) = true then
   go_ring_Step_j101 a0_62 a2_64 x_1355 x_1356 9
  else
   go_ring_Step_j101 a0_62 a2_64 x_1355 x_1356 v3110_1325
 else
  go_ring_Step_j98 a2_64 ([] ++ a0_62) v3110_1325

noncomputable def go_ring_Step_j105 (a2_64 : api_Hand) (v317_1378 : List Int) (v3110_1379 : Int) : Option ((List Int) × api_Hand × Int) :=
 go_ring_Step_j81 a2_64 a2_64.Pc a2_64.V a2_64.T a2_64.B a2_64.Won 1 v317_1378 v3110_1379

noncomputable def go_ring_Step_j107 (a2_64 : api_Hand) (v317_1389 : List Int) (v3110_1390 : Int) : Option ((List Int) × api_Hand × Int) :=
 go_ring_Step_j105 a2_64 v317_1389 v3110_1390

noncomputable def go_ring_Step_j108 (a0_62 : List Int) (a2_64 : api_Hand) (x_1392 : List Int) (x_1393 : Int) (v3110_1396 : Int) : Option ((List Int) × api_Hand × Int) :=
 if (x_1393 == 0) = true then
  go_ring_Step_j107 a2_64 x_1392 v3110_1396
 else
  go_ring_Step_j107 a2_64 ([] ++ a0_62) v3110_1396

noncomputable def go_ring_Step_j102 (a0_62 : List Int) (a1_63 : api_Deque) (a2_64 : api_Hand) (v3110_1366 : Int) : Option ((List Int) × api_Hand × Int) :=
 if (decide (a2_64.B ≥ 0)) = true then
  (go_cell_Store ([] ++ a0_62) (go_pring_actor_bottom (ring_actor.mk a2_64 ([] ++ a0_62) a1_63 v3110_1366)) (IntKind.i64.wrap (a2_64.B + 1))).bind fun (x_1392, x_1393) =>
  if (!(x_1393 == 0)) = true then
   go_ring_Step_j108 a0_62 a2_64 x_1392 x_1393 9
  else
   go_ring_Step_j108 a0_62 a2_64 x_1392 x_1393 v3110_1366
 else
  go_ring_Step_j105 a2_64 ([] ++ a0_62) v3110_1366

noncomputable def go_ring_Step_j114 (a0_62 : List Int) (a2_64 : api_Hand) (x_1424 : Int) (v3110_1432 : Int) : Option ((List Int) × api_Hand × Int) :=
 go_ring_Step_j81 a2_64 (IntKind.i64.wrap (a2_64.Pc + 1)) a2_64.V a2_64.T x_1424 a2_64.Won a2_64.State ([] ++ a0_62) v3110_1432

noncomputable def go_ring_Step_j113 (a0_62 : List Int) (a2_64 : api_Hand) (x_1424 : Int) (v3110_1428 : Int) : Option ((List Int) × api_Hand × Int) :=
 if (!((decide (x_1424 ≥ 0)) && (decide (x_1424 ≤ 1099511627776)))) = true then
  go_ring_Step_j114 a0_62 a2_64 x_1424 9
 else
  go_ring_Step_j114 a0_62 a2_64 x_1424 v3110_1428

noncomputable def go_ring_Step_j118 (a2_64 : api_Hand) (v314_1450 : Int) (v317_1451 : List Int) (v3110_1452 : Int) : Option ((List Int) × api_Hand × Int) :=
 go_ring_Step_j81 a2_64 (IntKind.i64.wrap (a2_64.Pc + 1)) a2_64.V a2_64.T v314_1450 a2_64.Won a2_64.State v317_1451 v3110_1452

noncomputable def go_ring_Step_j120 (a2_64 : api_Hand) (v317_1462 : List Int) (v3110_1463 : Int) : Option ((List Int) × api_Hand × Int) :=
 go_ring_Step_j118 a2_64 (IntKind.i64.wrap (a2_64.B - 1)) v317_1462 v3110_1463

noncomputable def go_ring_Step_j121 (a0_62 : List Int) (a2_64 : api_Hand) (x_1465 : List Int) (x_1466 : Int) (v3110_1469 : Int) : Option ((List Int) × api_Hand × Int) :=
 if (x_1466 == 0) = true then
  go_ring_Step_j120 a2_64 x_1465 v3110_1469
 else
  go_ring_Step_j120 a2_64 ([] ++ a0_62) v3110_1469

noncomputable def go_ring_Step_j115 (a0_62 : List Int) (a1_63 : api_Deque) (a2_64 : api_Hand) (v3110_1438 : Int) : Option ((List Int) × api_Hand × Int) :=
 if (decide (a2_64.B ≥ 0)) = true then
  (go_cell_Store ([] ++ a0_62) (go_pring_actor_bottom (ring_actor.mk (api_Hand.mk a2_64.Kind a2_64.Pc a2_64.V a2_64.T (IntKind.i64.wrap (a2_64.B - 1)) a2_64.Won a2_64.State) ([] ++ a0_62) a1_63 v3110_1438)) (IntKind.i64.wrap (a2_64.B - 1))).bind fun (x_1465, x_1466) =>
  if (!(x_1466 == 0)) = true then
   go_ring_Step_j121 a0_62 a2_64 x_1465 x_1466 9
  else
   go_ring_Step_j121 a0_62 a2_64 x_1465 x_1466 v3110_1438
 else
  go_ring_Step_j118 a2_64 a2_64.B ([] ++ a0_62) v3110_1438

noncomputable def go_ring_Step_j127 (a0_62 : List Int) (a2_64 : api_Hand) (x_1497 : Int) (v3110_1505 : Int) : Option ((List Int) × api_Hand × Int) :=
 if (decide (x_1497 > a2_64.B)) = true then
  go_ring_Step_j81 a2_64 3 a2_64.V x_1497 a2_64.B a2_64.Won a2_64.State ([] ++ a0_62) v3110_1505
 else
  go_ring_Step_j81 a2_64 4 a2_64.V x_1497 a2_64.B a2_64.Won a2_64.State ([] ++ a0_62) v3110_1505

noncomputable def go_ring_Step_j126 (a0_62 : List Int) (a2_64 : api_Hand) (x_1497 : Int) (v3110_1501 : Int) : Option ((List Int) × api_Hand × Int) :=
 if (!((decide (x_1497 ≥ 0)) && (decide (x_1497 ≤ 1099511627776)))) = true then
  go_ring_Step_j127 a0_62 a2_64 x_1497 9
 else
  go_ring_Step_j127 a0_62 a2_64 x_1497 v3110_1501

noncomputable def go_ring_Step_j131 (a2_64 : api_Hand) (v317_1524 : List Int) (v3110_1525 : Int) : Option ((List Int) × api_Hand × Int) :=
 go_ring_Step_j81 a2_64 a2_64.Pc a2_64.V a2_64.T a2_64.B a2_64.Won 2 v317_1524 v3110_1525

noncomputable def go_ring_Step_j133 (a2_64 : api_Hand) (v317_1535 : List Int) (v3110_1536 : Int) : Option ((List Int) × api_Hand × Int) :=
 go_ring_Step_j131 a2_64 v317_1535 v3110_1536

noncomputable def go_ring_Step_j134 (a0_62 : List Int) (a2_64 : api_Hand) (x_1538 : List Int) (x_1539 : Int) (v3110_1542 : Int) : Option ((List Int) × api_Hand × Int) :=
 if (x_1539 == 0) = true then
  go_ring_Step_j133 a2_64 x_1538 v3110_1542
 else
  go_ring_Step_j133 a2_64 ([] ++ a0_62) v3110_1542

noncomputable def go_ring_Step_j128 (a0_62 : List Int) (a1_63 : api_Deque) (a2_64 : api_Hand) (v3110_1512 : Int) : Option ((List Int) × api_Hand × Int) :=
 if (decide (a2_64.T ≥ 0)) = true then
  (go_cell_Store ([] ++ a0_62) (go_pring_actor_bottom (ring_actor.mk a2_64 ([] ++ a0_62) a1_63 v3110_1512)) a2_64.T).bind fun (x_1538, x_1539) =>
  if (!(x_1539 == 0)) = true then
   go_ring_Step_j134 a0_62 a2_64 x_1538 x_1539 9
  else
   go_ring_Step_j134 a0_62 a2_64 x_1538 x_1539 v3110_1512
 else
  go_ring_Step_j131 a2_64 ([] ++ a0_62) v3110_1512

noncomputable def go_ring_Step_j139 (a0_62 : List Int) (a2_64 : api_Hand) (v312_1565 : Int) (v3110_1566 : Int) (v311_1569 : Int) (v316_1570 : Int) : Option ((List Int) × api_Hand × Int) :=
 go_ring_Step_j81 a2_64 v311_1569 v312_1565 a2_64.T a2_64.B a2_64.Won v316_1570 ([] ++ a0_62) v3110_1566

noncomputable def go_ring_Step_j138 (a0_62 : List Int) (a2_64 : api_Hand) (v312_1565 : Int) (v3110_1566 : Int) : Option ((List Int) × api_Hand × Int) :=
 if (decide (a2_64.B > a2_64.T)) = true then
  go_ring_Step_j139 a0_62 a2_64 v312_1565 v3110_1566 a2_64.Pc 1
 else
  go_ring_Step_j139 a0_62 a2_64 v312_1565 v3110_1566 5 a2_64.State

noncomputable def go_ring_Step_j141 (a0_62 : List Int) (a2_64 : api_Hand) (x_1582 : Int) (v3110_1586 : Int) : Option ((List Int) × api_Hand × Int) :=
 go_ring_Step_j138 a0_62 a2_64 x_1582 v3110_1586

noncomputable def go_ring_Step_j135 (a0_62 : List Int) (a1_63 : api_Deque) (a2_64 : api_Hand) (v3110_1549 : Int) : Option ((List Int) × api_Hand × Int) :=
 if (decide (a2_64.B ≥ 0)) = true then
  (go_pring_actor_slot (ring_actor.mk a2_64 ([] ++ a0_62) a1_63 v3110_1549) a2_64.B).bind fun x_1574 =>
  (go_cell_Load ([] ++ a0_62) x_1574).bind fun (x_1582, x_1583) =>
  if (!(x_1583 == 0)) = true then
   go_ring_Step_j141 a0_62 a2_64 x_1582 9
  else
   go_ring_Step_j141 a0_62 a2_64 x_1582 v3110_1549
 else
  go_ring_Step_j138 a0_62 a2_64 a2_64.V v3110_1549

noncomputable def go_ring_Step_j144 (a2_64 : api_Hand) (v13_1638 : Bool) (v317_1639 : List Int) (v3110_1640 : Int) : Option ((List Int) × api_Hand × Int) :=
 go_ring_Step_j81 a2_64 (IntKind.i64.wrap (a2_64.Pc + 1)) a2_64.V a2_64.T a2_64.B v13_1638 a2_64.State v317_1639 v3110_1640

noncomputable def go_ring_Step_j145 (a0_62 : List Int) (a2_64 : api_Hand) (x_1642 : List Int) (x_1643 : Bool) (x_1644 : Int) (v3110_1647 : Int) : Option ((List Int) × api_Hand × Int) :=
 if (x_1644 == 0) = true then
  go_ring_Step_j144 a2_64 x_1643 x_1642 v3110_1647
 else
  go_ring_Step_j144 a2_64 x_1643 ([] ++ a0_62) v3110_1647

noncomputable def go_ring_Step_j142 (a0_62 : List Int) (a1_63 : api_Deque) (a2_64 : api_Hand) (v3110_1592 : Int) : Option ((List Int) × api_Hand × Int) :=
 if (decide (a2_64.T ≥ 0)) = true then
  (go_cell_Cas ([] ++ a0_62) (go_pring_actor_top (ring_actor.mk a2_64 ([] ++ a0_62) a1_63 v3110_1592)) a2_64.T (IntKind.i64.wrap (a2_64.T + 1))).bind fun (x_1642, x_1643, x_1644) =>
  if (!(x_1644 == 0)) = true then
   go_ring_Step_j145 a0_62 a2_64 x_1642 x_1643 x_1644 9
  else
   go_ring_Step_j145 a0_62 a2_64 x_1642 x_1643 x_1644 v3110_1592
 else
  go_ring_Step_j81 a2_64 (IntKind.i64.wrap (a2_64.Pc + 1)) a2_64.V a2_64.T a2_64.B false a2_64.State ([] ++ a0_62) v3110_1592

noncomputable def go_ring_Step_j149 (a2_64 : api_Hand) (v317_1666 : List Int) (v3110_1667 : Int) : Option ((List Int) × api_Hand × Int) :=
 if a2_64.Won = true then
  go_ring_Step_j81 a2_64 a2_64.Pc a2_64.V a2_64.T a2_64.B a2_64.Won 1 v317_1666 v3110_1667
 else
  go_ring_Step_j81 a2_64 a2_64.Pc a2_64.V a2_64.T a2_64.B a2_64.Won 2 v317_1666 v3110_1667

noncomputable def go_ring_Step_j151 (a2_64 : api_Hand) (v317_1678 : List Int) (v3110_1679 : Int) : Option ((List Int) × api_Hand × Int) :=
 go_ring_Step_j149 a2_64 v317_1678 v3110_1679

noncomputable def go_ring_Step_j152 (a0_62 : List Int) (a2_64 : api_Hand) (x_1681 : List Int) (x_1682 : Int) (v3110_1685 : Int) : Option ((List Int) × api_Hand × Int) :=
 if (x_1682 == 0) = true then
  go_ring_Step_j151 a2_64 x_1681 v3110_1685
 else
  go_ring_Step_j151 a2_64 ([] ++ a0_62) v3110_1685

noncomputable def go_ring_Step_j146 (a0_62 : List Int) (a1_63 : api_Deque) (a2_64 : api_Hand) (v3110_1654 : Int) : Option ((List Int) × api_Hand × Int) :=
 if (decide (a2_64.T ≥ 0)) = true then
  (go_cell_Store ([] ++ a0_62) (go_pring_actor_bottom (ring_actor.mk a2_64 ([] ++ a0_62) a1_63 v3110_1654)) (IntKind.i64.wrap (a2_64.T + 1))).bind fun (x_1681, x_1682) =>
  if (!(x_1682 == 0)) = true then
   go_ring_Step_j152 a0_62 a2_64 x_1681 x_1682 9
  else
   go_ring_Step_j152 a0_62 a2_64 x_1681 x_1682 v3110_1654
 else
  go_ring_Step_j149 a2_64 ([] ++ a0_62) v3110_1654

noncomputable def go_ring_Step_j159 (a0_62 : List Int) (a2_64 : api_Hand) (x_1713 : Int) (v3110_1721 : Int) (v311_1724 : Int) (v316_1725 : Int) : Option ((List Int) × api_Hand × Int) :=
 go_ring_Step_j81 a2_64 v311_1724 a2_64.V a2_64.T x_1713 a2_64.Won v316_1725 ([] ++ a0_62) v3110_1721

noncomputable def go_ring_Step_j158 (a0_62 : List Int) (a2_64 : api_Hand) (x_1713 : Int) (v3110_1721 : Int) : Option ((List Int) × api_Hand × Int) :=
 if (decide ((IntKind.i64.wrap (x_1713 - a2_64.T)) < 1)) = true then
  go_ring_Step_j159 a0_62 a2_64 x_1713 v3110_1721 a2_64.Pc 2
 else
  go_ring_Step_j159 a0_62 a2_64 x_1713 v3110_1721 2 a2_64.State

noncomputable def go_ring_Step_j157 (a0_62 : List Int) (a2_64 : api_Hand) (x_1713 : Int) (v3110_1717 : Int) : Option ((List Int) × api_Hand × Int) :=
 if (!((decide (x_1713 ≥ (-1))) && (decide (x_1713 ≤ 1099511627776)))) = true then
  go_ring_Step_j158 a0_62 a2_64 x_1713 9
 else
  go_ring_Step_j158 a0_62 a2_64 x_1713 v3110_1717

noncomputable def go_ring_Step_j163 (a0_62 : List Int) (a2_64 : api_Hand) (v312_1748 : Int) (v3110_1749 : Int) : Option ((List Int) × api_Hand × Int) :=
 go_ring_Step_j81 a2_64 (IntKind.i64.wrap (a2_64.Pc + 1)) v312_1748 a2_64.T a2_64.B a2_64.Won a2_64.State ([] ++ a0_62) v3110_1749

noncomputable def go_ring_Step_j165 (a0_62 : List Int) (a2_64 : api_Hand) (x_1760 : Int) (v3110_1764 : Int) : Option ((List Int) × api_Hand × Int) :=
 go_ring_Step_j163 a0_62 a2_64 x_1760 v3110_1764

noncomputable def go_ring_Step_j160 (a0_62 : List Int) (a1_63 : api_Deque) (a2_64 : api_Hand) (v3110_1732 : Int) : Option ((List Int) × api_Hand × Int) :=
 if (decide (a2_64.T ≥ 0)) = true then
  (go_pring_actor_slot (ring_actor.mk a2_64 ([] ++ a0_62) a1_63 v3110_1732) a2_64.T).bind fun x_1752 =>
  (go_cell_Load ([] ++ a0_62) x_1752).bind fun (x_1760, x_1761) =>
  if (!(x_1761 == 0)) = true then
   go_ring_Step_j165 a0_62 a2_64 x_1760 9
  else
   go_ring_Step_j165 a0_62 a2_64 x_1760 v3110_1732
 else
  go_ring_Step_j163 a0_62 a2_64 a2_64.V v3110_1732

noncomputable def go_ring_Step_j168 (a2_64 : api_Hand) (v16_1817 : Bool) (v317_1818 : List Int) (v3110_1819 : Int) : Option ((List Int) × api_Hand × Int) :=
 if v16_1817 = true then
  go_ring_Step_j81 a2_64 a2_64.Pc a2_64.V a2_64.T a2_64.B a2_64.Won 1 v317_1818 v3110_1819
 else
  go_ring_Step_j81 a2_64 a2_64.Pc a2_64.V a2_64.T a2_64.B a2_64.Won 4 v317_1818 v3110_1819

noncomputable def go_ring_Step_j169 (a0_62 : List Int) (a2_64 : api_Hand) (x_1822 : List Int) (x_1823 : Bool) (x_1824 : Int) (v3110_1827 : Int) : Option ((List Int) × api_Hand × Int) :=
 if (x_1824 == 0) = true then
  go_ring_Step_j168 a2_64 x_1823 x_1822 v3110_1827
 else
  go_ring_Step_j168 a2_64 x_1823 ([] ++ a0_62) v3110_1827

noncomputable def go_ring_Step_j166 (a0_62 : List Int) (a1_63 : api_Deque) (a2_64 : api_Hand) (v3110_1770 : Int) : Option ((List Int) × api_Hand × Int) :=
 if (decide (a2_64.T ≥ 0)) = true then
  (go_cell_Cas ([] ++ a0_62) (go_pring_actor_top (ring_actor.mk (api_Hand.mk a2_64.Kind a2_64.Pc a2_64.V a2_64.T a2_64.B a2_64.Won 4) ([] ++ a0_62) a1_63 v3110_1770)) a2_64.T (IntKind.i64.wrap (a2_64.T + 1))).bind fun (x_1822, x_1823, x_1824) =>
  if (!(x_1824 == 0)) = true then
   go_ring_Step_j169 a0_62 a2_64 x_1822 x_1823 x_1824 9
  else
   go_ring_Step_j169 a0_62 a2_64 x_1822 x_1823 x_1824 v3110_1770
 else
  go_ring_Step_j81 a2_64 a2_64.Pc a2_64.V a2_64.T a2_64.B a2_64.Won 4 ([] ++ a0_62) v3110_1770

noncomputable def go_ring_Step (a0_62 : List Int) (a1_63 : api_Deque) (a2_64 : api_Hand) : Option ((List Int) × api_Hand × Int) :=
 if (((go_ring_Check a0_62 a1_63) != 0) || (!(go_ring_may a2_64))) = true then
  some ([], api_Hand.zero, 1)
 else
  if (a2_64.State != 0) = true then
   some ([], api_Hand.zero, 9)
  else
   if few ([] ++ a0_62).length then
    letO (go_ring_accesses a2_64.Kind) fun x_751 =>
    if 0 ≤ a2_64.Pc ∧ a2_64.Pc < (x_751.length : Int) then
     if (gt x_751 a2_64.Pc) = 37 then
      (go_cell_Load ([] ++ a0_62) (go_pring_actor_top (ring_actor.mk a2_64 ([] ++ a0_62) a1_63 0))).bind fun (x_1271, x_1272) =>
      if (!(x_1272 == 0)) = true then
       go_ring_Step_j86 a0_62 a2_64 x_1271 9
      else
       go_ring_Step_j86 a0_62 a2_64 x_1271 0
     else
      if (gt x_751 a2_64.Pc) = 38 then
       (go_cell_Load ([] ++ a0_62) (go_pring_actor_bottom (ring_actor.mk a2_64 ([] ++ a0_62) a1_63 0))).bind fun (x_1306, x_1307) =>
       if (!(x_1307 == 0)) = true then
        go_ring_Step_j92 a0_62 a1_63 a2_64 x_1306 9
       else
        go_ring_Step_j92 a0_62 a1_63 a2_64 x_1306 0
      else
       if (gt x_751 a2_64.Pc) = 39 then
        if (!(decide (a2_64.B ≥ 0))) = true then
         go_ring_Step_j95 a0_62 a1_63 a2_64 9
        else
         go_ring_Step_j95 a0_62 a1_63 a2_64 0
       else
        if (gt x_751 a2_64.Pc) = 40 then
         if (!(decide (a2_64.B ≥ 0))) = true then
          go_ring_Step_j102 a0_62 a1_63 a2_64 9
         else
          go_ring_Step_j102 a0_62 a1_63 a2_64 0
        else
         if (gt x_751 a2_64.Pc) = 41 then
          (go_cell_Load ([] ++ a0_62) (go_pring_actor_bottom (ring_actor.mk a2_64 ([] ++ a0_62) a1_63 0))).bind fun (x_1424, x_1425) =>
          if (!(x_1425 == 0)) = true then
           go_ring_Step_j113 a0_62 a2_64 x_1424 9
          else
           go_ring_Step_j113 a0_62 a2_64 x_1424 0
         else
          if (gt x_751 a2_64.Pc) = 42 then
           if (!(decide (a2_64.B ≥ 0))) = true then
            go_ring_Step_j115 a0_62 a1_63 a2_64 9
           else
            go_ring_Step_j115 a0_62 a1_63 a2_64 0
          else
           if (gt x_751 a2_64.Pc) = 43 then
            (go_cell_Load ([] ++ a0_62) (go_pring_actor_top (ring_actor.mk a2_64 ([] ++ a0_62) a1_63 0))).bind fun (x_1497, x_1498) =>
            if (!(x_1498 == 0)) = true then
             go_ring_Step_j126 a0_62 a2_64 x_1497 9
            else
             go_ring_Step_j126 a0_62 a2_64 x_1497 0
           else
            if (gt x_751 a2_64.Pc) = 44 then
             if (!(decide (a2_64.T ≥ 0))) = true then
              go_ring_Step_j128 a0_62 a1_63 a2_64 9
             else
              go_ring_Step_j128 a0_62 a1_63 a2_64 0
            else
             if (gt x_751 a2_64.Pc) = 45 then
              if (!(decide (a2_64.B ≥ 0))) = true then
               go_ring_Step_j135 a0_62 a1_63 a2_64 9
              else
               go_ring_Step_j135 a0_62 a1_63 a2_64 0
             else
              if (gt x_751 a2_64.Pc) = 46 then
               if (!(decide (a2_64.T ≥ 0))) = true then
                go_ring_Step_j142 a0_62 a1_63 a2_64 9
               else
                go_ring_Step_j142 a0_62 a1_63 a2_64 0
              else
               if (gt x_751 a2_64.Pc) = 47 then
                if (!(decide (a2_64.T ≥ 0))) = true then
                 go_ring_Step_j146 a0_62 a1_63 a2_64 9
                else
                 go_ring_Step_j146 a0_62 a1_63 a2_64 0
               else
                if (gt x_751 a2_64.Pc) = 48 then
                 (go_cell_Load ([] ++ a0_62) (go_pring_actor_bottom (ring_actor.mk a2_64 ([] ++ a0_62) a1_63 0))).bind fun (x_1713, x_1714) =>
                 if (!(x_1714 == 0)) = true then
                  go_ring_Step_j157 a0_62 a2_64 x_1713 9
                 else
                  go_ring_Step_j157 a0_62 a2_64 x_1713 0
                else
                 if (gt x_751 a2_64.Pc) = 49 then
                  if (!(decide (a2_64.T ≥ 0))) = true then
                   go_ring_Step_j160 a0_62 a1_63 a2_64 9
                  else
                   go_ring_Step_j160 a0_62 a1_63 a2_64 0
                 else
                  if (gt x_751 a2_64.Pc) = 50 then
                   if (!(decide (a2_64.T ≥ 0))) = true then
                    go_ring_Step_j166 a0_62 a1_63 a2_64 9
                   else
                    go_ring_Step_j166 a0_62 a1_63 a2_64 0
                  else
                   none
    else none
   else none
end Go.Proofs.Ytoapmmcoaggekaa
