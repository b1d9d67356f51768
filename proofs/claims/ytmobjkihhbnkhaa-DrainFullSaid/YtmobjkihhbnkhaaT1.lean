/- Helper lemmas for the claim's theorem: an abstract machine over the model, proved sound; no condition beyond each lemma's own. -/
import Derived.Test.YtmobjkihhbnkhaaT0
set_option linter.unusedVariables false
set_option linter.unusedSimpArgs false
set_option linter.unnecessarySimpa false
set_option linter.unusedSectionVars false
namespace Go.Proofs.Ytmobjkihhbnkhaa
open Go Go.AM
set_option maxRecDepth 100000
set_option maxHeartbeats 1000000
set_option linter.unusedVariables false
set_option linter.unusedSimpArgs false
variable {gl : List (Nat × List V)}
noncomputable def go_drain_Full (a0_3 : List (List api_Instr)) (a1_4 : Int) : Option (Int × Int) :=
  (go_code_Tasks a0_3 a1_4).bind fun (x_585, x_586) =>
  if (x_586 != 0) = true then
    some (0, x_586)
  else
    (go_drain_measure_full 1000 a0_3 a1_4 []).bind fun (x_589, m_590) =>
    if (decide (x_589 > 1099511627776)) = true then
      some (0, 4)
    else
      (go_drain_measure_full 1000 a0_3 a1_4 m_590).bind fun (x_593, m_594) =>
      some (x_593, 0)

theorem go_drain_Full_sc (a0_3 : List (List api_Instr)) (a1_4 : Int) (r : Int × Int) (h : go_drain_Full a0_3 a1_4 = some r) : SC Try.prog gl 6 [V.sl 1 (rws (fun l => [V.sl 3 (rws api_Instr.cells l)]) a0_3), V.int .i64 a1_4] (V.tup [V.int .i64 r.1, V.int .i64 r.2]) := by
  rw [go_drain_Full] at h
  refine SC.of E_good Try.func6 rfl (fun _ _ => Try.call6 _ _) rfl ?_
  repeat (first | refine Safe.seq ?_ | refine Safe.skip ?_ | with_reducible refine thenQ.n ?_ | with_reducible refine blockQ.n ?_)
  refine Safe.region ?_
  refine SafeOps.quiet0 E_good rfl rfl rfl (v := V.int .i64 0) (.fn rfl) ?_
  refine SafeOps.quiet0 E_good rfl rfl rfl (v := V.int .i64 0) (.fn rfl) ?_
  refine SafeOps.nil ?_
  repeat (first | refine Safe.seq ?_ | refine Safe.skip ?_ | with_reducible refine thenQ.n ?_ | with_reducible refine blockQ.n ?_)
  refine Safe.region ?_
  refine SafeOps.quiet0 E_good rfl rfl rfl (v := V.sl 1 (rws (fun l => [V.sl 3 (rws api_Instr.cells l)]) a0_3)) (.fn rfl) ?_
  refine SafeOps.quiet1 E_good rfl rfl rfl (.mkMapM (fun n : Int => V.int .i64 n) (fun n : Int => V.int .i64 n)) rfl ?_
  refine SafeOps.quiet0 E_good rfl rfl rfl (v := V.agg [V.sl 1 (rws (fun l => [V.sl 3 (rws api_Instr.cells l)]) a0_3), V.mapr [9]]) (.fn rfl) ?_
  refine SafeOps.quiet1 E_good rfl rfl rfl (.alloc rfl rfl) rfl ?_
  refine SafeOps.store (z := Obj.box [V.sl 1 (rws (fun l => [V.sl 3 (rws api_Instr.cells l)]) a0_3), V.mapr [9]]) E_good rfl rfl rfl rfl rfl rfl rfl (.boxM (c := 2) rfl rfl (Nat.le_of_ble_eq_true rfl) rfl) ?_
  refine SafeOps.nil ?_
  repeat (first | refine Safe.seq ?_ | refine Safe.skip ?_ | with_reducible refine thenQ.n ?_ | with_reducible refine blockQ.n ?_)
  refine Safe.region ?_
  refine SafeOps.quiet0 E_good rfl rfl rfl (v := V.agg [V.sl 1 (rws (fun l => [V.sl 3 (rws api_Instr.cells l)]) a0_3), V.mapr [9]]) (.load rfl rfl (.box rfl rfl) rfl) ?_
  refine SafeOps.quiet0 E_good rfl rfl rfl (v := V.int .i64 a1_4) (.fn rfl) ?_
  refine SafeOps.inline E_good rfl rfl rfl rfl rfl Try.func10 rfl (fun _ _ => Try.call10 _ _) rfl ?_
  repeat (first | refine Safe.seq ?_ | refine Safe.skip ?_ | with_reducible refine thenQ.n ?_ | with_reducible refine blockQ.n ?_)
  refine Safe.region ?_
  refine SafeOps.quiet1 E_good rfl rfl rfl (.box rfl rfl) rfl ?_
  refine SafeOps.quiet0 E_good rfl rfl rfl (v := V.int .i64 0) (.fn rfl) ?_
  refine SafeOps.nil ?_
  repeat (first | refine Safe.seq ?_ | refine Safe.skip ?_ | with_reducible refine thenQ.n ?_ | with_reducible refine blockQ.n ?_)
  refine Safe.region ?_
  refine SafeOps.quiet0 E_good rfl rfl rfl (v := V.ptr [13, 2] 0 0) (.fn rfl) ?_
  refine SafeOps.quiet0 E_good rfl rfl rfl (v := V.sl 1 (rws (fun l => [V.sl 3 (rws api_Instr.cells l)]) a0_3)) (.load rfl rfl (.box rfl rfl) rfl) ?_
  refine SafeOps.quiet0 E_good rfl rfl rfl (v := V.int .i64 a1_4) (.fn rfl) ?_
  refine bindG h ?_
  rintro ⟨x_585, x_586⟩ he587 h
  refine SafeOps.quiet0 E_good rfl rfl rfl (v := V.tup [V.int .i64 x_585, V.int .i64 x_586]) (.callP rfl rfl (go_code_Tasks_sc a0_3 a1_4 _ he587) rfl) ?_
  refine SafeOps.quiet0 E_good rfl rfl rfl (v := V.tup [V.int .i64 x_585, V.int .i64 x_586]) (.fn rfl) ?_
  refine SafeOps.quiet0 E_good rfl rfl rfl (v := V.int .i64 x_585) (.fn rfl) ?_
  refine SafeOps.quiet0 E_good rfl rfl rfl (v := V.int .i64 x_586) (.fn rfl) ?_
  refine SafeOps.quiet0 E_good rfl rfl rfl (v := V.int .i64 x_585) (.fn rfl) ?_
  refine SafeOps.quiet0 E_good rfl rfl rfl (v := V.int .i64 x_586) (.fn rfl) ?_
  refine SafeOps.nil ?_
  repeat (first | refine Safe.seq ?_ | refine Safe.skip ?_ | with_reducible refine thenQ.n ?_ | with_reducible refine blockQ.n ?_)
  refine Safe.region ?_
  refine SafeOps.quiet0 E_good rfl rfl rfl (v := V.int .i64 x_586) (.fn rfl) ?_
  refine SafeOps.quiet0 E_good rfl rfl rfl (v := V.bool (x_586 != 0)) (.fn rfl) ?_
  refine SafeOps.nil ?_
  repeat (first | refine Safe.seq ?_ | refine Safe.skip ?_ | with_reducible refine thenQ.n ?_ | with_reducible refine blockQ.n ?_)
  refine ifG h (fun hc588 h => ?_) (fun hc588 h => ?_)
  · skip
    refine Safe.condK rfl hc588 ?_
    repeat (first | refine Safe.seq ?_ | refine Safe.skip ?_ | with_reducible refine thenQ.n ?_ | with_reducible refine blockQ.n ?_)
    refine Safe.region ?_
    refine SafeOps.quiet0 E_good rfl rfl rfl (v := V.int .i64 x_586) (.fn rfl) ?_
    refine SafeOps.quiet0 E_good rfl rfl rfl (v := V.int .i64 x_586) (.fn rfl) ?_
    refine SafeOps.nil ?_
    repeat (first | refine Safe.seq ?_ | refine Safe.skip ?_ | with_reducible refine thenQ.n ?_ | with_reducible refine blockQ.n ?_)
    refine Safe.ret ?_
    repeat (first | with_reducible refine thenQ.r ?_ | with_reducible refine blockQ.r ?_)
    refine inQ.gen (vs := [V.int .i64 x_586]) (v := V.int .i64 x_586) (.inr rfl) rfl (.tmp (v := V.int .i64 x_586) rfl .nil) rfl ?_
    refine SafeOps.quiet0 E_good rfl rfl rfl (v := V.int .i64 x_586) (.fn rfl) ?_
    refine SafeOps.nil ?_
    repeat (first | refine Safe.seq ?_ | refine Safe.skip ?_ | with_reducible refine thenQ.n ?_ | with_reducible refine blockQ.n ?_)
    refine Safe.region ?_
    refine SafeOps.quiet0 E_good rfl rfl rfl (v := V.int .i64 x_586) (.fn rfl) ?_
    refine SafeOps.quiet0 E_good rfl rfl rfl (v := V.bool (x_586 != 0)) (.fn rfl) ?_
    refine SafeOps.nil ?_
    repeat (first | refine Safe.seq ?_ | refine Safe.skip ?_ | with_reducible refine thenQ.n ?_ | with_reducible refine blockQ.n ?_)
    refine Safe.condK rfl hc588 ?_
    repeat (first | refine Safe.seq ?_ | refine Safe.skip ?_ | with_reducible refine thenQ.n ?_ | with_reducible refine blockQ.n ?_)
    refine Safe.region ?_
    refine SafeOps.quiet0 E_good rfl rfl rfl (v := V.int .i64 x_586) (.fn rfl) ?_
    refine SafeOps.quiet0 E_good rfl rfl rfl (v := V.int .i64 0) (.fn rfl) ?_
    refine SafeOps.quiet0 E_good rfl rfl rfl (v := V.int .i64 x_586) (.fn rfl) ?_
    refine SafeOps.nil ?_
    repeat (first | refine Safe.seq ?_ | refine Safe.skip ?_ | with_reducible refine thenQ.n ?_ | with_reducible refine blockQ.n ?_)
    refine Safe.ret ?_
    repeat (first | with_reducible refine thenQ.r ?_ | with_reducible refine blockQ.r ?_)
    obtain rfl := Option.some.inj h
    exact retQ.gen (vs := [V.int .i64 0, V.int .i64 x_586]) rfl (.tmp (v := V.int .i64 0) rfl (.tmp (v := V.int .i64 x_586) rfl .nil)) (.free rfl) (by simp) (.inr rfl)
  · skip
    refine Safe.condN rfl hc588 ?_
    repeat (first | refine Safe.seq ?_ | refine Safe.skip ?_ | with_reducible refine thenQ.n ?_ | with_reducible refine blockQ.n ?_)
    refine Safe.region ?_
    refine SafeOps.quiet0 E_good rfl rfl rfl (v := V.agg [V.sl 1 (rws (fun l => [V.sl 3 (rws api_Instr.cells l)]) a0_3), V.mapr [9]]) (.load rfl rfl (.box rfl rfl) rfl) ?_
    refine SafeOps.quiet0 E_good rfl rfl rfl (v := V.int .i64 a1_4) (.fn rfl) ?_
    refine bindG h ?_
    rintro ⟨x_589, m_590⟩ he591 h
    refine SafeOps.callI (obs := [([9], Go.AM.Obj.map (mps (fun n : Int => V.int .i64 n) (fun n : Int => V.int .i64 n) []))]) (obs' := [([9], Go.AM.Obj.map (mps (fun n : Int => V.int .i64 n) (fun n : Int => V.int .i64 n) m_590))]) rfl rfl rfl rfl rfl (go_drain_measure_full_si 1000 a0_3 a1_4 [] _ he591) (.map .nil) rfl ⟨rfl, trivial⟩ rfl rfl ?_
    refine SafeOps.quiet0 E_good rfl rfl rfl (v := V.bool (decide (x_589 > 1099511627776))) (.fn rfl) ?_
    refine SafeOps.nil ?_
    repeat (first | refine Safe.seq ?_ | refine Safe.skip ?_ | with_reducible refine thenQ.n ?_ | with_reducible refine blockQ.n ?_)
    refine ifG h (fun hc592 h => ?_) (fun hc592 h => ?_)
    · skip
      refine Safe.condK rfl hc592 ?_
      repeat (first | refine Safe.seq ?_ | refine Safe.skip ?_ | with_reducible refine thenQ.n ?_ | with_reducible refine blockQ.n ?_)
      refine Safe.region ?_
      refine SafeOps.quiet0 E_good rfl rfl rfl (v := V.int .i64 4) (.fn rfl) ?_
      refine SafeOps.nil ?_
      repeat (first | refine Safe.seq ?_ | refine Safe.skip ?_ | with_reducible refine thenQ.n ?_ | with_reducible refine blockQ.n ?_)
      refine Safe.ret ?_
      repeat (first | with_reducible refine thenQ.r ?_ | with_reducible refine blockQ.r ?_)
      refine inQ.gen (vs := [V.int .i64 4]) (v := V.int .i64 4) (.inr rfl) rfl (.tmp (v := V.int .i64 4) rfl .nil) rfl ?_
      refine SafeOps.quiet0 E_good rfl rfl rfl (v := V.int .i64 4) (.fn rfl) ?_
      refine SafeOps.nil ?_
      repeat (first | refine Safe.seq ?_ | refine Safe.skip ?_ | with_reducible refine thenQ.n ?_ | with_reducible refine blockQ.n ?_)
      refine Safe.region ?_
      refine SafeOps.quiet0 E_good rfl rfl rfl (v := V.int .i64 4) (.fn rfl) ?_
      refine SafeOps.quiet0 E_good rfl rfl rfl (v := V.bool true) (.fn rfl) ?_
      refine SafeOps.nil ?_
      repeat (first | refine Safe.seq ?_ | refine Safe.skip ?_ | with_reducible refine thenQ.n ?_ | with_reducible refine blockQ.n ?_)
      refine Safe.condK rfl rfl ?_
      repeat (first | refine Safe.seq ?_ | refine Safe.skip ?_ | with_reducible refine thenQ.n ?_ | with_reducible refine blockQ.n ?_)
      refine Safe.region ?_
      refine SafeOps.quiet0 E_good rfl rfl rfl (v := V.int .i64 4) (.fn rfl) ?_
      refine SafeOps.quiet0 E_good rfl rfl rfl (v := V.int .i64 0) (.fn rfl) ?_
      refine SafeOps.quiet0 E_good rfl rfl rfl (v := V.int .i64 4) (.fn rfl) ?_
      refine SafeOps.nil ?_
      repeat (first | refine Safe.seq ?_ | refine Safe.skip ?_ | with_reducible refine thenQ.n ?_ | with_reducible refine blockQ.n ?_)
      refine Safe.ret ?_
      repeat (first | with_reducible refine thenQ.r ?_ | with_reducible refine blockQ.r ?_)
      obtain rfl := Option.some.inj h
      exact retQ.gen (vs := [V.int .i64 0, V.int .i64 4]) rfl (.tmp (v := V.int .i64 0) rfl (.tmp (v := V.int .i64 4) rfl .nil)) (.free rfl) (by simp) (.inr rfl)
    · skip
      refine Safe.condN rfl hc592 ?_
      repeat (first | refine Safe.seq ?_ | refine Safe.skip ?_ | with_reducible refine thenQ.n ?_ | with_reducible refine blockQ.n ?_)
      refine Safe.region ?_
      refine SafeOps.quiet0 E_good rfl rfl rfl (v := V.int .i64 0) (.fn rfl) ?_
      refine SafeOps.nil ?_
      repeat (first | refine Safe.seq ?_ | refine Safe.skip ?_ | with_reducible refine thenQ.n ?_ | with_reducible refine blockQ.n ?_)
      refine Safe.ret ?_
      repeat (first | with_reducible refine thenQ.r ?_ | with_reducible refine blockQ.r ?_)
      refine inQ.gen (vs := [V.int .i64 0]) (v := V.int .i64 0) (.inr rfl) rfl (.tmp (v := V.int .i64 0) rfl .nil) rfl ?_
      refine SafeOps.quiet0 E_good rfl rfl rfl (v := V.int .i64 0) (.fn rfl) ?_
      refine SafeOps.nil ?_
      repeat (first | refine Safe.seq ?_ | refine Safe.skip ?_ | with_reducible refine thenQ.n ?_ | with_reducible refine blockQ.n ?_)
      refine Safe.region ?_
      refine SafeOps.quiet0 E_good rfl rfl rfl (v := V.int .i64 0) (.fn rfl) ?_
      refine SafeOps.quiet0 E_good rfl rfl rfl (v := V.bool false) (.fn rfl) ?_
      refine SafeOps.nil ?_
      repeat (first | refine Safe.seq ?_ | refine Safe.skip ?_ | with_reducible refine thenQ.n ?_ | with_reducible refine blockQ.n ?_)
      refine Safe.condN rfl rfl ?_
      repeat (first | refine Safe.seq ?_ | refine Safe.skip ?_ | with_reducible refine thenQ.n ?_ | with_reducible refine blockQ.n ?_)
      refine Safe.region ?_
      refine SafeOps.quiet0 E_good rfl rfl rfl (v := V.agg [V.sl 1 (rws (fun l => [V.sl 3 (rws api_Instr.cells l)]) a0_3), V.mapr [9]]) (.load rfl rfl (.box rfl rfl) rfl) ?_
      refine SafeOps.quiet0 E_good rfl rfl rfl (v := V.int .i64 a1_4) (.fn rfl) ?_
      refine bindG h ?_
      rintro ⟨x_593, m_594⟩ he595 h
      refine SafeOps.callI (obs := [([9], Go.AM.Obj.map (mps (fun n : Int => V.int .i64 n) (fun n : Int => V.int .i64 n) m_590))]) (obs' := [([9], Go.AM.Obj.map (mps (fun n : Int => V.int .i64 n) (fun n : Int => V.int .i64 n) m_594))]) rfl rfl rfl rfl rfl (go_drain_measure_full_si 1000 a0_3 a1_4 m_590 _ he595) (.map .nil) rfl ⟨rfl, trivial⟩ rfl rfl ?_
      refine SafeOps.quiet0 E_good rfl rfl rfl (v := V.int .i64 x_593) (.fn rfl) ?_
      refine SafeOps.quiet0 E_good rfl rfl rfl (v := V.int .i64 0) (.fn rfl) ?_
      refine SafeOps.nil ?_
      repeat (first | refine Safe.seq ?_ | refine Safe.skip ?_ | with_reducible refine thenQ.n ?_ | with_reducible refine blockQ.n ?_)
      refine Safe.ret ?_
      repeat (first | with_reducible refine thenQ.r ?_ | with_reducible refine blockQ.r ?_)
      obtain rfl := Option.some.inj h
      exact retQ.gen (vs := [V.int .i64 x_593, V.int .i64 0]) rfl (.tmp (v := V.int .i64 x_593) rfl (.tmp (v := V.int .i64 0) rfl .nil)) (.free rfl) (by simp) (.inr rfl)

@[ext] structure api_Dice where
  L : List Int
  At : Int
  deriving Inhabited
def api_Dice.cells (x : api_Dice) : List V := [V.sl 1 (rws (fun n => [V.int .u8 n]) x.L), V.int .i64 x.At]
def api_Dice.zero : api_Dice := ⟨[], 0⟩

@[ext] structure api_Places where
  Gen : List Int
  Live : List Bool
  deriving Inhabited
def api_Places.cells (x : api_Places) : List V := [V.sl 1 (rws (fun n => [V.int .i64 n]) x.Gen), V.sl 1 (rws (fun b => [V.bool b]) x.Live)]
def api_Places.zero : api_Places := ⟨[], []⟩

@[ext] structure A4_Int where
  a0 : Int
  a1 : Int
  a2 : Int
  a3 : Int
  deriving Inhabited
def A4_Int.cells (x : A4_Int) : List V := [V.int .i64 x.a0, V.int .i64 x.a1, V.int .i64 x.a2, V.int .i64 x.a3]
def A4_Int.zero : A4_Int := ⟨0, 0, 0, 0⟩
def A4_Int.beq (x y : A4_Int) : Bool := ((x.a0 == y.a0) && ((x.a1 == y.a1) && ((x.a2 == y.a2) && ((x.a3 == y.a3) && true))))

@[ext] structure api_Task where
  Id : Int
  Tenant : Int
  Prog : Int
  Pc : Int
  Unit : Int
  Keeps : A4_Int
  State : Int
  Ran : Int
  deriving Inhabited
def api_Task.cells (x : api_Task) : List V := [V.int .i64 x.Id, V.int .i64 x.Tenant, V.int .i64 x.Prog, V.int .i64 x.Pc, V.int .i64 x.Unit, V.int .i64 x.Keeps.a0, V.int .i64 x.Keeps.a1, V.int .i64 x.Keeps.a2, V.int .i64 x.Keeps.a3, V.int .i64 x.State, V.int .i64 x.Ran]
def api_Task.zero : api_Task := ⟨0, 0, 0, 0, 0, ⟨0, 0, 0, 0⟩, 0, 0⟩
def api_Task.beq (x y : api_Task) : Bool := ((x.Id == y.Id) && ((x.Tenant == y.Tenant) && ((x.Prog == y.Prog) && ((x.Pc == y.Pc) && ((x.Unit == y.Unit) && (((x.Keeps.a0 == y.Keeps.a0) && ((x.Keeps.a1 == y.Keeps.a1) && ((x.Keeps.a2 == y.Keeps.a2) && ((x.Keeps.a3 == y.Keeps.a3) && true)))) && ((x.State == y.State) && ((x.Ran == y.Ran) && true))))))))

@[ext] structure api_Chains where
  Next : List Int
  Head : List Int
  Tail : List Int
  deriving Inhabited
def api_Chains.cells (x : api_Chains) : List V := [V.sl 1 (rws (fun n => [V.int .i64 n]) x.Next), V.sl 1 (rws (fun n => [V.int .i64 n]) x.Head), V.sl 1 (rws (fun n => [V.int .i64 n]) x.Tail)]
def api_Chains.zero : api_Chains := ⟨[], [], []⟩

@[ext] structure api_Tenant where
  Weight : Int
  Quota : Int
  Live : Int
  Tag : Int
  Ran : Int
  deriving Inhabited
def api_Tenant.cells (x : api_Tenant) : List V := [V.int .i64 x.Weight, V.int .i64 x.Quota, V.int .i64 x.Live, V.int .i64 x.Tag, V.int .i64 x.Ran]
def api_Tenant.zero : api_Tenant := ⟨0, 0, 0, 0, 0⟩
def api_Tenant.beq (x y : api_Tenant) : Bool := ((x.Weight == y.Weight) && ((x.Quota == y.Quota) && ((x.Live == y.Live) && ((x.Tag == y.Tag) && ((x.Ran == y.Ran) && true)))))

@[ext] structure api_Timer where
  At : Int
  Id : Int
  deriving Inhabited
def api_Timer.cells (x : api_Timer) : List V := [V.int .i64 x.At, V.int .i64 x.Id]
def api_Timer.zero : api_Timer := ⟨0, 0⟩
def api_Timer.beq (x y : api_Timer) : Bool := ((x.At == y.At) && ((x.Id == y.Id) && true))

@[ext] structure api_Fd where
  Open : Bool
  Ready : Bool
  Who : Int
  deriving Inhabited
def api_Fd.cells (x : api_Fd) : List V := [V.bool x.Open, V.bool x.Ready, V.int .i64 x.Who]
def api_Fd.zero : api_Fd := ⟨false, false, 0⟩
def api_Fd.beq (x y : api_Fd) : Bool := ((x.Open == y.Open) && ((x.Ready == y.Ready) && ((x.Who == y.Who) && true)))

@[ext] structure api_Sem where
  Free : Int
  Wait : List Int
  deriving Inhabited
def api_Sem.cells (x : api_Sem) : List V := [V.int .i64 x.Free, V.sl 1 (rws (fun n => [V.int .i64 n]) x.Wait)]
def api_Sem.zero : api_Sem := ⟨0, []⟩

@[ext] structure api_Join where
  On : Int
  Who : Int
  deriving Inhabited
def api_Join.cells (x : api_Join) : List V := [V.int .i64 x.On, V.int .i64 x.Who]
def api_Join.zero : api_Join := ⟨0, 0⟩
def api_Join.beq (x y : api_Join) : Bool := ((x.On == y.On) && ((x.Who == y.Who) && true))

@[ext] structure api_Idle where
  Is : List Int
  Stack : List Int
  deriving Inhabited
def api_Idle.cells (x : api_Idle) : List V := [V.sl 1 (rws (fun n => [V.int .i64 n]) x.Is), V.sl 1 (rws (fun n => [V.int .i64 n]) x.Stack)]
def api_Idle.zero : api_Idle := ⟨[], []⟩

@[ext] structure api_Hand where
  Kind : Int
  Pc : Int
  V : Int
  T : Int
  B : Int
  Won : Bool
  State : Int
  deriving Inhabited
def api_Hand.cells (x : api_Hand) : List Go.AM.V := [Go.AM.V.int .i64 x.Kind, Go.AM.V.int .i64 x.Pc, Go.AM.V.int .i64 x.V, Go.AM.V.int .i64 x.T, Go.AM.V.int .i64 x.B, Go.AM.V.bool x.Won, Go.AM.V.int .i64 x.State]
def api_Hand.zero : api_Hand := ⟨0, 0, 0, 0, 0, false, 0⟩
def api_Hand.beq (x y : api_Hand) : Bool := ((x.Kind == y.Kind) && ((x.Pc == y.Pc) && ((x.V == y.V) && ((x.T == y.T) && ((x.B == y.B) && ((x.Won == y.Won) && ((x.State == y.State) && true)))))))

@[ext] structure api_Worker where
  Do : Int
  Hand : api_Hand
  At : Int
  Ask : List Int
  Task : Int
  Left : Int
  Kid : Int
  Spill : Int
  deriving Inhabited
def api_Worker.cells (x : api_Worker) : List V := [V.int .i64 x.Do, V.int .i64 x.Hand.Kind, V.int .i64 x.Hand.Pc, V.int .i64 x.Hand.V, V.int .i64 x.Hand.T, V.int .i64 x.Hand.B, V.bool x.Hand.Won, V.int .i64 x.Hand.State, V.int .i64 x.At, V.sl 1 (rws (fun n => [V.int .i64 n]) x.Ask), V.int .i64 x.Task, V.int .i64 x.Left, V.int .i64 x.Kid, V.int .i64 x.Spill]
def api_Worker.zero : api_Worker := ⟨0, ⟨0, 0, 0, 0, 0, false, 0⟩, 0, [], 0, 0, 0, 0⟩

@[ext] structure api_Event where
  Kind : Int
  Id : Int
  A : Int
  deriving Inhabited
def api_Event.cells (x : api_Event) : List V := [V.int .i64 x.Kind, V.int .i64 x.Id, V.int .i64 x.A]
def api_Event.zero : api_Event := ⟨0, 0, 0⟩
def api_Event.beq (x y : api_Event) : Bool := ((x.Kind == y.Kind) && ((x.Id == y.Id) && ((x.A == y.A) && true)))

@[ext] structure api_World where
  Now : Int
  Dice : api_Dice
  Ids : api_Places
  T : List api_Task
  Mem : List Int
  Lists : api_Chains
  Ten : List api_Tenant
  Heap : List api_Timer
  Fds : List api_Fd
  Sems : List api_Sem
  Joins : List api_Join
  Idle : api_Idle
  W : List api_Worker
  Down : Bool
  Seen : List api_Event
  deriving Inhabited
def api_World.cells (x : api_World) : List V := [V.int .i64 x.Now, V.sl 1 (rws (fun n => [V.int .u8 n]) x.Dice.L), V.int .i64 x.Dice.At, V.sl 1 (rws (fun n => [V.int .i64 n]) x.Ids.Gen), V.sl 1 (rws (fun b => [V.bool b]) x.Ids.Live), V.sl 11 (rws api_Task.cells x.T), V.sl 1 (rws (fun n => [V.int .i64 n]) x.Mem), V.sl 1 (rws (fun n => [V.int .i64 n]) x.Lists.Next), V.sl 1 (rws (fun n => [V.int .i64 n]) x.Lists.Head), V.sl 1 (rws (fun n => [V.int .i64 n]) x.Lists.Tail), V.sl 5 (rws api_Tenant.cells x.Ten), V.sl 2 (rws api_Timer.cells x.Heap), V.sl 3 (rws api_Fd.cells x.Fds), V.sl 2 (rws api_Sem.cells x.Sems), V.sl 2 (rws api_Join.cells x.Joins), V.sl 1 (rws (fun n => [V.int .i64 n]) x.Idle.Is), V.sl 1 (rws (fun n => [V.int .i64 n]) x.Idle.Stack), V.sl 14 (rws api_Worker.cells x.W), V.bool x.Down, V.sl 3 (rws api_Event.cells x.Seen)]
def api_World.zero : api_World := ⟨0, ⟨[], 0⟩, ⟨[], []⟩, [], [], ⟨[], [], []⟩, [], [], [], [], [], ⟨[], []⟩, [], false, []⟩

def go_life_Waits (a0_608 : Int) : Bool :=
  ((decide (a0_608 ≥ 3)) && (decide (a0_608 ≤ 6)))

theorem go_life_Waits_sc (a0_608 : Int) (r : Bool) (h : go_life_Waits a0_608 = r) : SC Try.prog gl 17 [V.int .i64 a0_608] (V.bool r) := by
  rw [go_life_Waits] at h
  refine SC.of E_good Try.func17 rfl (fun _ _ => Try.call17 _ _) rfl ?_
  repeat (first | refine Safe.seq ?_ | refine Safe.skip ?_ | with_reducible refine thenQ.n ?_ | with_reducible refine blockQ.n ?_)
  refine Safe.region ?_
  refine SafeOps.quiet0 E_good rfl rfl rfl (v := V.bool false) (.fn rfl) ?_
  refine SafeOps.nil ?_
  repeat (first | refine Safe.seq ?_ | refine Safe.skip ?_ | with_reducible refine thenQ.n ?_ | with_reducible refine blockQ.n ?_)
  refine Safe.region ?_
  refine SafeOps.quiet0 E_good rfl rfl rfl (v := V.int .i64 a0_608) (.fn rfl) ?_
  refine SafeOps.quiet0 E_good rfl rfl rfl (v := V.bool (decide (a0_608 ≥ 3))) (.fn rfl) ?_
  refine SafeOps.quiet0 E_good rfl rfl rfl (v := V.bool (decide (a0_608 ≥ 3))) (.fn rfl) ?_
  refine SafeOps.bjoin 3 8 (b := ((decide (a0_608 ≥ 3)) && (decide (a0_608 ≤ 6)))) (b1 := decide (a0_608 ≤ 6)) (b0 := false) (fun hc610 K => ?_) (fun hc610 K => ?_) bj_and ?_
  · skip
    refine SafeOps.quiet0 E_good (congrArg some hc610) rfl rfl (v := V.int .i64 a0_608) (.fn rfl) ?_
    refine SafeOps.quiet0 E_good (congrArg some hc610) rfl rfl (v := V.bool (decide (a0_608 ≤ 6))) (.fn rfl) ?_
    refine SafeOps.quiet0 E_good rfl rfl rfl (v := V.bool (decide (a0_608 ≤ 6))) (.pickK rfl hc610 rfl) ?_
    exact SafeOps.drop' 3 rfl rfl rfl K
  · skip
    refine SafeOps.skip (congrArg some hc610) rfl rfl ?_
    refine SafeOps.skip (congrArg some hc610) rfl rfl ?_
    refine SafeOps.quiet0 E_good rfl rfl rfl (v := V.bool false) (.pickK rfl hc610 rfl) ?_
    exact SafeOps.drop' 3 rfl rfl rfl K
  refine SafeOps.quiet0 E_good rfl rfl rfl (v := V.bool ((decide (a0_608 ≥ 3)) && (decide (a0_608 ≤ 6)))) (.fn rfl) ?_
  refine SafeOps.nil ?_
  repeat (first | refine Safe.seq ?_ | refine Safe.skip ?_ | with_reducible refine thenQ.n ?_ | with_reducible refine blockQ.n ?_)
  refine Safe.ret ?_
  repeat (first | with_reducible refine thenQ.r ?_ | with_reducible refine blockQ.r ?_)
  obtain rfl := h
  exact retQ.gen (vs := [V.bool ((decide (a0_608 ≥ 3)) && (decide (a0_608 ≤ 6)))]) rfl (.tmp (v := V.bool ((decide (a0_608 ≥ 3)) && (decide (a0_608 ≤ 6)))) rfl .nil) (.free rfl) (by simp) (.inr rfl)

noncomputable def go_drain_Rest_s1 (a0_601 : api_World) : (Int) → Option ((Int) ⊕ (Bool))
  | v9_660 =>
    if (decide (v9_660 < (a0_601.Ids.Live.length : Int))) = true then
      if 0 ≤ v9_660 ∧ v9_660 < (a0_601.Ids.Live.length : Int) then
        if (gt a0_601.Ids.Live v9_660) = true then
          if (decide (v9_660 ≥ (a0_601.T.length : Int))) = true then
            inrO (
              some false)
          else
            if 0 ≤ v9_660 ∧ v9_660 < (a0_601.T.length : Int) then
              if (!(go_life_Waits ((gt a0_601.T v9_660).State))) = true then
                inrO (
                  some false)
              else
                nextO (IntKind.i64.wrap (v9_660 + 1))
            else none
        else
          nextO (IntKind.i64.wrap (v9_660 + 1))
      else none
    else
      inrO (
        some true)

noncomputable def go_drain_Rest (a0_601 : api_World) : Option Bool :=
  whileO (go_drain_Rest_s1 a0_601) 0

theorem go_drain_Rest_sc (a0_601 : api_World) (r : Bool) (h : go_drain_Rest a0_601 = some r) : SC Try.prog gl 9 [V.agg [V.int .i64 a0_601.Now, V.sl 1 (rws (fun n => [V.int .u8 n]) a0_601.Dice.L), V.int .i64 a0_601.Dice.At, V.sl 1 (rws (fun n => [V.int .i64 n]) a0_601.Ids.Gen), V.sl 1 (rws (fun b => [V.bool b]) a0_601.Ids.Live), V.sl 11 (rws api_Task.cells a0_601.T), V.sl 1 (rws (fun n => [V.int .i64 n]) a0_601.Mem), V.sl 1 (rws (fun n => [V.int .i64 n]) a0_601.Lists.Next), V.sl 1 (rws (fun n => [V.int .i64 n]) a0_601.Lists.Head), V.sl 1 (rws (fun n => [V.int .i64 n]) a0_601.Lists.Tail), V.sl 5 (rws api_Tenant.cells a0_601.Ten), V.sl 2 (rws api_Timer.cells a0_601.Heap), V.sl 3 (rws api_Fd.cells a0_601.Fds), V.sl 2 (rws api_Sem.cells a0_601.Sems), V.sl 2 (rws api_Join.cells a0_601.Joins), V.sl 1 (rws (fun n => [V.int .i64 n]) a0_601.Idle.Is), V.sl 1 (rws (fun n => [V.int .i64 n]) a0_601.Idle.Stack), V.sl 14 (rws api_Worker.cells a0_601.W), V.bool a0_601.Down, V.sl 3 (rws api_Event.cells a0_601.Seen)]] (V.bool r) := by
  rw [go_drain_Rest] at h
  refine SC.of E_good Try.func9 rfl (fun _ _ => Try.call9 _ _) rfl ?_
  repeat (first | refine Safe.seq ?_ | refine Safe.skip ?_ | with_reducible refine thenQ.n ?_ | with_reducible refine blockQ.n ?_)
  refine Safe.region ?_
  refine SafeOps.quiet1 E_good rfl rfl rfl (.box rfl rfl) rfl ?_
  refine SafeOps.quiet0 E_good rfl rfl rfl (v := V.bool false) (.fn rfl) ?_
  refine SafeOps.nil ?_
  repeat (first | refine Safe.seq ?_ | refine Safe.skip ?_ | with_reducible refine thenQ.n ?_ | with_reducible refine blockQ.n ?_)
  refine Safe.region ?_
  refine SafeOps.quiet0 E_good rfl rfl rfl (v := V.ptr [1] 0 3) (.fn rfl) ?_
  refine SafeOps.quiet0 E_good rfl rfl rfl (v := V.ptr [1] 0 4) (.fn rfl) ?_
  refine SafeOps.quiet0 E_good rfl rfl rfl (v := V.sl 1 (rws (fun b => [V.bool b]) a0_601.Ids.Live)) (.load rfl rfl (.box rfl rfl) rfl) ?_
  refine SafeOps.quiet0 E_good rfl rfl rfl (v := V.int .i64 (a0_601.Ids.Live.length : Int)) (.fnE rfl lenE) ?_
  refine SafeOps.quiet0 E_good rfl rfl rfl (v := V.int .i64 0) (.fn rfl) ?_
  refine SafeOps.nil ?_
  repeat (first | refine Safe.seq ?_ | refine Safe.skip ?_ | with_reducible refine thenQ.n ?_ | with_reducible refine blockQ.n ?_)
  refine Safe.block ?_
  repeat (first | refine Safe.seq ?_ | refine Safe.skip ?_ | with_reducible refine thenQ.n ?_ | with_reducible refine blockQ.n ?_)
  refine Safe.loopW (fun (v9_660 : Int) => ⟨Try.f9.ntmps, [(1, V.ptr [1] 0 0), (7, V.sl 1 (rws (fun b => [V.bool b]) a0_601.Ids.Live)), (8, V.int .i64 (a0_601.Ids.Live.length : Int)), (9, V.int .i64 v9_660)], [([1], Obj.box [V.int .i64 a0_601.Now, V.sl 1 (rws (fun n => [V.int .u8 n]) a0_601.Dice.L), V.int .i64 a0_601.Dice.At, V.sl 1 (rws (fun n => [V.int .i64 n]) a0_601.Ids.Gen), V.sl 1 (rws (fun b => [V.bool b]) a0_601.Ids.Live), V.sl 11 (rws api_Task.cells a0_601.T), V.sl 1 (rws (fun n => [V.int .i64 n]) a0_601.Mem), V.sl 1 (rws (fun n => [V.int .i64 n]) a0_601.Lists.Next), V.sl 1 (rws (fun n => [V.int .i64 n]) a0_601.Lists.Head), V.sl 1 (rws (fun n => [V.int .i64 n]) a0_601.Lists.Tail), V.sl 5 (rws api_Tenant.cells a0_601.Ten), V.sl 2 (rws api_Timer.cells a0_601.Heap), V.sl 3 (rws api_Fd.cells a0_601.Fds), V.sl 2 (rws api_Sem.cells a0_601.Sems), V.sl 2 (rws api_Join.cells a0_601.Joins), V.sl 1 (rws (fun n => [V.int .i64 n]) a0_601.Idle.Is), V.sl 1 (rws (fun n => [V.int .i64 n]) a0_601.Idle.Stack), V.sl 14 (rws api_Worker.cells a0_601.W), V.bool a0_601.Down, V.sl 3 (rws api_Event.cells a0_601.Seen)])], [], []⟩) h (.cov ⟨rfl, rfl, (upT_cons (.refl _) (upT_cons (.refl _) (upT_cons (.refl _) (upT_cons (.refl _) upT_nil)))), (upOb_cons rfl (.refl _) upOb_nil), upOut_nil, rfl⟩) ?_
  intro v9_660 ohr661 h hr661
  replace h : go_drain_Rest_s1 a0_601 v9_660 = some ohr661 := h
  rw [go_drain_Rest_s1] at h
  repeat (first | refine Safe.seq ?_ | refine Safe.skip ?_ | with_reducible refine thenQ.n ?_ | with_reducible refine blockQ.n ?_)
  refine Safe.region ?_
  refine SafeOps.quiet0 E_good rfl rfl rfl (v := V.bool (decide (v9_660 < (a0_601.Ids.Live.length : Int)))) (.fn rfl) ?_
  refine SafeOps.nil ?_
  repeat (first | refine Safe.seq ?_ | refine Safe.skip ?_ | with_reducible refine thenQ.n ?_ | with_reducible refine blockQ.n ?_)
  refine ifG h (fun hc662 h => ?_) (fun hc662 h => ?_)
  · skip
    refine Safe.condK rfl hc662 ?_
    repeat (first | refine Safe.seq ?_ | refine Safe.skip ?_ | with_reducible refine thenQ.n ?_ | with_reducible refine blockQ.n ?_)
    refine Safe.block ?_
    repeat (first | refine Safe.seq ?_ | refine Safe.skip ?_ | with_reducible refine thenQ.n ?_ | with_reducible refine blockQ.n ?_)
    refine Safe.region ?_
    refine SafeOps.quiet0 E_good rfl rfl rfl (v := V.int .i64 v9_660) (.fn rfl) ?_
    refine okG h (fun hb663 h => ?_)
    refine SafeOps.quiet0 E_good rfl rfl rfl (v := V.spt 1 (rws (fun b => [V.bool b]) a0_601.Ids.Live) (Int.toNat v9_660) 0) (.idxSlM (f := (fun b => [V.bool b])) rfl rfl rfl rfl rfl hb663) ?_
    refine SafeOps.quiet0 E_good rfl rfl rfl (v := V.bool (gt a0_601.Ids.Live v9_660)) (.load rfl rfl (.sptM (f := (fun b => [V.bool b])) hb663 rfl) rfl) ?_
    refine SafeOps.quiet0 E_good rfl rfl rfl (v := V.int .i64 v9_660) (.fn rfl) ?_
    refine SafeOps.quiet0 E_good rfl rfl rfl (v := V.bool (gt a0_601.Ids.Live v9_660)) (.fn rfl) ?_
    refine SafeOps.nil ?_
    repeat (first | refine Safe.seq ?_ | refine Safe.skip ?_ | with_reducible refine thenQ.n ?_ | with_reducible refine blockQ.n ?_)
    refine Safe.region ?_
    refine SafeOps.quiet0 E_good rfl rfl rfl (v := V.bool (gt a0_601.Ids.Live v9_660)) (.fn rfl) ?_
    refine SafeOps.quiet0 E_good rfl rfl rfl (v := V.bool (gt a0_601.Ids.Live v9_660)) (.fn rfl) ?_
    refine ifG h (fun hc664 h => ?_) (fun hc664 h => ?_)
    · skip
      refine SafeOps.quiet0 E_good (congrArg some hc664) rfl rfl (v := V.int .i64 v9_660) (.fn rfl) ?_
      refine SafeOps.quiet0 E_good (congrArg some hc664) rfl rfl (v := V.ptr [1] 0 5) (.fn rfl) ?_
      refine SafeOps.quiet0 E_good (congrArg some hc664) rfl rfl (v := V.sl 11 (rws api_Task.cells a0_601.T)) (.load rfl rfl (.box rfl rfl) rfl) ?_
      refine SafeOps.quiet0 E_good (congrArg some hc664) rfl rfl (v := V.int .i64 (a0_601.T.length : Int)) (.fnE rfl lenE) ?_
      refine SafeOps.quiet0 E_good (congrArg some hc664) rfl rfl (v := V.bool (decide (v9_660 ≥ (a0_601.T.length : Int)))) (.fn rfl) ?_
      refine SafeOps.quiet0 E_good (congrArg some hc664) rfl rfl (v := V.bool (decide (v9_660 ≥ (a0_601.T.length : Int)))) (.fn rfl) ?_
      refine ifG h (fun hc668 h => ?_) (fun hc668 h => ?_)
      · skip
        refine SafeOps.skip (congrArg (fun b => some (!b)) hc668) rfl rfl ?_
        refine SafeOps.skip (congrArg (fun b => some (!b)) hc668) rfl rfl ?_
        refine SafeOps.skip (congrArg (fun b => some (!b)) hc668) rfl rfl ?_
        refine SafeOps.skip (congrArg (fun b => some (!b)) hc668) rfl rfl ?_
        refine SafeOps.skip (congrArg (fun b => some (!b)) hc668) rfl rfl ?_
        refine SafeOps.skip (congrArg (fun b => some (!b)) hc668) rfl rfl ?_
        refine SafeOps.skip (congrArg (fun b => some (!b)) hc668) rfl rfl ?_
        refine SafeOps.skip (congrArg (fun b => some (!b)) hc668) rfl rfl ?_
        refine SafeOps.quiet0 E_good (congrArg some hc664) rfl rfl (v := V.bool true) (.pickK rfl hc668 rfl) ?_
        refine SafeOps.quiet0 E_good rfl rfl rfl (v := V.bool true) (.pickK rfl hc664 rfl) ?_
        refine SafeOps.nil ?_
        repeat (first | refine Safe.seq ?_ | refine Safe.skip ?_ | with_reducible refine thenQ.n ?_ | with_reducible refine blockQ.n ?_)
        refine Safe.condK rfl rfl ?_
        repeat (first | refine Safe.seq ?_ | refine Safe.skip ?_ | with_reducible refine thenQ.n ?_ | with_reducible refine blockQ.n ?_)
        refine Safe.region ?_
        refine SafeOps.quiet0 E_good rfl rfl rfl (v := V.bool false) (.fn rfl) ?_
        refine SafeOps.nil ?_
        repeat (first | refine Safe.seq ?_ | refine Safe.skip ?_ | with_reducible refine thenQ.n ?_ | with_reducible refine blockQ.n ?_)
        refine Safe.ret ?_
        repeat (first | with_reducible refine thenQ.r ?_ | with_reducible refine blockQ.r ?_)
        replace h := inr_out h hr661
        obtain rfl := Option.some.inj h
        exact retQ.gen (vs := [V.bool false]) rfl (.tmp (v := V.bool false) rfl .nil) (.free rfl) (by simp) (.inr rfl)
      · skip
        refine SafeOps.quiet0 E_good (congrArg (fun b => some (!b)) hc668) rfl rfl (v := V.ptr [1] 0 5) (.fn rfl) ?_
        refine SafeOps.quiet0 E_good (congrArg (fun b => some (!b)) hc668) rfl rfl (v := V.sl 11 (rws api_Task.cells a0_601.T)) (.load rfl rfl (.box rfl rfl) rfl) ?_
        refine SafeOps.quiet0 E_good (congrArg (fun b => some (!b)) hc668) rfl rfl (v := V.int .i64 v9_660) (.fn rfl) ?_
        refine okG h (fun hb670 h => ?_)
        refine SafeOps.quiet0 E_good (congrArg (fun b => some (!b)) hc668) rfl rfl (v := V.spt 11 (rws api_Task.cells a0_601.T) (Int.toNat v9_660) 0) (.idxSlM (f := api_Task.cells) rfl rfl rfl rfl rfl hb670) ?_
        refine SafeOps.quiet0 E_good (congrArg (fun b => some (!b)) hc668) rfl rfl (v := V.spt 11 (rws api_Task.cells a0_601.T) (Int.toNat v9_660) 9) (.fn rfl) ?_
        refine SafeOps.quiet0 E_good (congrArg (fun b => some (!b)) hc668) rfl rfl (v := V.int .i64 ((gt a0_601.T v9_660).State)) (.load rfl rfl (.sptM (f := api_Task.cells) hb670 rfl) rfl) ?_
        refine SafeOps.quiet0 E_good (congrArg (fun b => some (!b)) hc668) rfl rfl (v := V.bool (go_life_Waits ((gt a0_601.T v9_660).State))) (.callP rfl rfl (go_life_Waits_sc ((gt a0_601.T v9_660).State) _ rfl) rfl) ?_
        refine SafeOps.quiet0 E_good (congrArg (fun b => some (!b)) hc668) rfl rfl (v := V.bool (!(go_life_Waits ((gt a0_601.T v9_660).State)))) (.fn rfl) ?_
        refine SafeOps.quiet0 E_good (congrArg some hc664) rfl rfl (v := V.bool (!(go_life_Waits ((gt a0_601.T v9_660).State)))) (.pickK rfl hc668 rfl) ?_
        refine SafeOps.quiet0 E_good rfl rfl rfl (v := V.bool (!(go_life_Waits ((gt a0_601.T v9_660).State)))) (.pickK rfl hc664 rfl) ?_
        refine SafeOps.nil ?_
        repeat (first | refine Safe.seq ?_ | refine Safe.skip ?_ | with_reducible refine thenQ.n ?_ | with_reducible refine blockQ.n ?_)
        refine ifG h (fun hc671 h => ?_) (fun hc671 h => ?_)
        · skip
          refine Safe.condK rfl hc671 ?_
          repeat (first | refine Safe.seq ?_ | refine Safe.skip ?_ | with_reducible refine thenQ.n ?_ | with_reducible refine blockQ.n ?_)
          refine Safe.region ?_
          refine SafeOps.quiet0 E_good rfl rfl rfl (v := V.bool false) (.fn rfl) ?_
          refine SafeOps.nil ?_
          repeat (first | refine Safe.seq ?_ | refine Safe.skip ?_ | with_reducible refine thenQ.n ?_ | with_reducible refine blockQ.n ?_)
          refine Safe.ret ?_
          repeat (first | with_reducible refine thenQ.r ?_ | with_reducible refine blockQ.r ?_)
          replace h := inr_out h hr661
          obtain rfl := Option.some.inj h
          exact retQ.gen (vs := [V.bool false]) rfl (.tmp (v := V.bool false) rfl .nil) (.free rfl) (by simp) (.inr rfl)
        · skip
          refine Safe.condN rfl hc671 ?_
          repeat (first | refine Safe.seq ?_ | refine Safe.skip ?_ | with_reducible refine thenQ.n ?_ | with_reducible refine blockQ.n ?_)
          refine Safe.region ?_
          refine SafeOps.quiet0 E_good rfl rfl rfl (v := V.int .i64 (IntKind.i64.wrap (v9_660 + 1))) (.fn rfl) ?_
          refine SafeOps.quiet0 E_good rfl rfl rfl (v := V.int .i64 (IntKind.i64.wrap (v9_660 + 1))) (.fn rfl) ?_
          refine SafeOps.nil ?_
          repeat (first | refine Safe.seq ?_ | refine Safe.skip ?_ | with_reducible refine thenQ.n ?_ | with_reducible refine blockQ.n ?_)
          exact ⟨_, next_out h, (.cov ⟨rfl, rfl, (upT_cons (.refl _) (upT_cons (.refl _) (upT_cons (.refl _) (upT_cons (.refl _) upT_nil)))), (upOb_cons rfl (.refl _) upOb_nil), upOut_nil, rfl⟩)⟩
    · skip
      refine SafeOps.skip (congrArg some hc664) rfl rfl ?_
      refine SafeOps.skip (congrArg some hc664) rfl rfl ?_
      refine SafeOps.skip (congrArg some hc664) rfl rfl ?_
      refine SafeOps.skip (congrArg some hc664) rfl rfl ?_
      refine SafeOps.skip (congrArg some hc664) rfl rfl ?_
      refine SafeOps.skip (congrArg some hc664) rfl rfl ?_
      refine SafeOps.skip rfl rfl rfl ?_
      refine SafeOps.skip rfl rfl rfl ?_
      refine SafeOps.skip rfl rfl rfl ?_
      refine SafeOps.skip rfl rfl rfl ?_
      refine SafeOps.skip rfl rfl rfl ?_
      refine SafeOps.skip rfl rfl rfl ?_
      refine SafeOps.skip rfl rfl rfl ?_
      refine SafeOps.skip rfl rfl rfl ?_
      refine SafeOps.skip (congrArg some hc664) rfl rfl ?_
      refine SafeOps.quiet0 E_good rfl rfl rfl (v := V.bool false) (.pickK rfl hc664 rfl) ?_
      refine SafeOps.nil ?_
      repeat (first | refine Safe.seq ?_ | refine Safe.skip ?_ | with_reducible refine thenQ.n ?_ | with_reducible refine blockQ.n ?_)
      refine Safe.condN rfl rfl ?_
      repeat (first | refine Safe.seq ?_ | refine Safe.skip ?_ | with_reducible refine thenQ.n ?_ | with_reducible refine blockQ.n ?_)
      refine Safe.region ?_
      refine SafeOps.quiet0 E_good rfl rfl rfl (v := V.int .i64 (IntKind.i64.wrap (v9_660 + 1))) (.fn rfl) ?_
      refine SafeOps.quiet0 E_good rfl rfl rfl (v := V.int .i64 (IntKind.i64.wrap (v9_660 + 1))) (.fn rfl) ?_
      refine SafeOps.nil ?_
      repeat (first | refine Safe.seq ?_ | refine Safe.skip ?_ | with_reducible refine thenQ.n ?_ | with_reducible refine blockQ.n ?_)
      exact ⟨_, next_out h, (.cov ⟨rfl, rfl, (upT_cons (.refl _) (upT_cons (.refl _) (upT_cons (.refl _) (upT_cons (.refl _) upT_nil)))), (upOb_cons rfl (.refl _) upOb_nil), upOut_nil, rfl⟩)⟩
  · skip
    refine Safe.condN rfl hc662 ?_
    repeat (first | refine Safe.seq ?_ | refine Safe.skip ?_ | with_reducible refine thenQ.n ?_ | with_reducible refine blockQ.n ?_)
    refine Safe.exit ?_
    repeat (first | with_reducible refine thenQ.e ?_ | with_reducible refine blockQ.x rfl ?_ | with_reducible refine blockQ.y rfl ?_)
    replace h := inr_out h hr661
    repeat (first | refine Safe.seq ?_ | refine Safe.skip ?_ | with_reducible refine thenQ.n ?_ | with_reducible refine blockQ.n ?_)
    refine Safe.region ?_
    refine SafeOps.quiet0 E_good rfl rfl rfl (v := V.bool true) (.fn rfl) ?_
    refine SafeOps.nil ?_
    repeat (first | refine Safe.seq ?_ | refine Safe.skip ?_ | with_reducible refine thenQ.n ?_ | with_reducible refine blockQ.n ?_)
    refine Safe.ret ?_
    repeat (first | with_reducible refine thenQ.r ?_ | with_reducible refine blockQ.r ?_)
    obtain rfl := Option.some.inj h
    exact retQ.gen (vs := [V.bool true]) rfl (.tmp (v := V.bool true) rfl .nil) (.free rfl) (by simp) (.inr rfl)

noncomputable def go_ravellaw24_live  : Option Bool :=
  (go_drain_Full [[(api_Instr.mk 9 0 0)]] 0).bind fun (x_676, x_677) =>
  if ((x_677 == 0) && (x_676 == 2)) = true then
    (go_drain_Rest api_World.zero).bind fun x_683 =>
    some x_683
  else
    some false

theorem go_ravellaw24_live_sc  (r : Bool) (h : go_ravellaw24_live  = some r) : SC Try.prog gl 4 [] (V.bool r) := by
  rw [go_ravellaw24_live] at h
  refine SC.of E_good Try.func4 rfl (fun _ _ => Try.call4 _ _) rfl ?_
  repeat (first | refine Safe.seq ?_ | refine Safe.skip ?_ | with_reducible refine thenQ.n ?_ | with_reducible refine blockQ.n ?_)
  refine Safe.region ?_
  refine SafeOps.quiet0 E_good rfl rfl rfl (v := V.bool false) (.fn rfl) ?_
  refine SafeOps.nil ?_
  repeat (first | refine Safe.seq ?_ | refine Safe.skip ?_ | with_reducible refine thenQ.n ?_ | with_reducible refine blockQ.n ?_)
  refine Safe.region ?_
  refine SafeOps.quiet0 E_good rfl rfl rfl (v := V.agg [V.int .i64 9, V.int .i64 0, V.int .i64 0]) (.fn rfl) ?_
  refine SafeOps.quiet1 E_good rfl rfl rfl (.litM (f := api_Instr.cells) (xs := [(api_Instr.mk 9 0 0)]) rfl rfl (by decide) rfl rfl rfl rfl rfl) rfl ?_
  refine SafeOps.freeze [5] rfl ?_
  refine SafeOps.see 5 (u := V.sl 3 (rws api_Instr.cells [(api_Instr.mk 9 0 0)])) rfl (.full rfl rfl) ?_
  refine SafeOps.quiet1 E_good rfl rfl rfl (.litM (f := (fun l => [V.sl 3 (rws api_Instr.cells l)])) (xs := [[(api_Instr.mk 9 0 0)]]) rfl rfl (by decide) rfl rfl rfl rfl rfl) rfl ?_
  refine bindG h ?_
  rintro ⟨x_676, x_677⟩ he678 h
  refine SafeOps.quiet0 E_good rfl rfl rfl (v := V.tup [V.int .i64 x_676, V.int .i64 x_677]) (.callS rfl (.cons (.full rfl rfl) (.cons (.free rfl) .nil)) (go_drain_Full_sc [[(api_Instr.mk 9 0 0)]] 0 _ he678) (.tupL (.cons (.plain rfl) (.cons (.plain rfl) .nil))) rfl) ?_
  refine SafeOps.quiet0 E_good rfl rfl rfl (v := V.tup [V.int .i64 x_676, V.int .i64 x_677]) (.fn rfl) ?_
  refine SafeOps.quiet0 E_good rfl rfl rfl (v := V.int .i64 x_676) (.fn rfl) ?_
  refine SafeOps.quiet0 E_good rfl rfl rfl (v := V.int .i64 x_677) (.fn rfl) ?_
  refine SafeOps.quiet0 E_good rfl rfl rfl (v := V.int .i64 x_676) (.fn rfl) ?_
  refine SafeOps.quiet0 E_good rfl rfl rfl (v := V.int .i64 x_677) (.fn rfl) ?_
  refine SafeOps.nil ?_
  repeat (first | refine Safe.seq ?_ | refine Safe.skip ?_ | with_reducible refine thenQ.n ?_ | with_reducible refine blockQ.n ?_)
  refine Safe.region ?_
  refine SafeOps.quiet0 E_good rfl rfl rfl (v := V.int .i64 x_677) (.fn rfl) ?_
  refine SafeOps.quiet0 E_good rfl rfl rfl (v := V.bool (x_677 == 0)) (.fn rfl) ?_
  refine SafeOps.quiet0 E_good rfl rfl rfl (v := V.bool (x_677 == 0)) (.fn rfl) ?_
  refine SafeOps.bjoin 3 15 (b := ((x_677 == 0) && (x_676 == 2))) (b1 := (x_676 == 2)) (b0 := false) (fun hc679 K => ?_) (fun hc679 K => ?_) bj_and ?_
  · skip
    refine SafeOps.quiet0 E_good (congrArg some hc679) rfl rfl (v := V.int .i64 x_676) (.fn rfl) ?_
    refine SafeOps.quiet0 E_good (congrArg some hc679) rfl rfl (v := V.bool (x_676 == 2)) (.fn rfl) ?_
    refine SafeOps.quiet0 E_good rfl rfl rfl (v := V.bool (x_676 == 2)) (.pickK rfl hc679 rfl) ?_
    exact SafeOps.drop' 3 rfl rfl rfl K
  · skip
    refine SafeOps.skip (congrArg some hc679) rfl rfl ?_
    refine SafeOps.skip (congrArg some hc679) rfl rfl ?_
    refine SafeOps.quiet0 E_good rfl rfl rfl (v := V.bool false) (.pickK rfl hc679 rfl) ?_
    exact SafeOps.drop' 3 rfl rfl rfl K
  refine SafeOps.quiet0 E_good rfl rfl rfl (v := V.bool ((x_677 == 0) && (x_676 == 2))) (.fn rfl) ?_
  refine ifG h (fun hc680 h => ?_) (fun hc680 h => ?_)
  · skip
    refine SafeOps.quiet0 E_good (congrArg some hc680) rfl rfl (v := V.agg [V.int .i64 0, V.nils, V.int .i64 0, V.nils, V.nils, V.nils, V.nils, V.nils, V.nils, V.nils, V.nils, V.nils, V.nils, V.nils, V.nils, V.nils, V.nils, V.nils, V.bool false, V.nils]) (.fn rfl) ?_
    refine bindG h ?_
    intro x_683 he684 h
    refine SafeOps.quiet0 E_good (congrArg some hc680) rfl rfl (v := V.bool x_683) (.callS rfl (.cons (.agg (.cons (.free rfl) (.cons (.nils _) (.cons (.free rfl) (.cons (.nils _) (.cons (.nils _) (.cons (.nils _) (.cons (.nils _) (.cons (.nils _) (.cons (.nils _) (.cons (.nils _) (.cons (.nils _) (.cons (.nils _) (.cons (.nils _) (.cons (.nils _) (.cons (.nils _) (.cons (.nils _) (.cons (.nils _) (.cons (.nils _) (.cons (.free rfl) (.cons (.nils _) .nil))))))))))))))))))))) .nil) (go_drain_Rest_sc api_World.zero _ he684) (.plain rfl) rfl) ?_
    refine SafeOps.quiet0 E_good rfl rfl rfl (v := V.bool x_683) (.pickK rfl hc680 rfl) ?_
    refine SafeOps.quiet0 E_good rfl rfl rfl (v := V.bool x_683) (.fn rfl) ?_
    refine SafeOps.nil ?_
    repeat (first | refine Safe.seq ?_ | refine Safe.skip ?_ | with_reducible refine thenQ.n ?_ | with_reducible refine blockQ.n ?_)
    refine Safe.ret ?_
    repeat (first | with_reducible refine thenQ.r ?_ | with_reducible refine blockQ.r ?_)
    obtain rfl := Option.some.inj h
    exact retQ.gen (vs := [V.bool x_683]) rfl (.tmp (v := V.bool x_683) rfl .nil) (.free rfl) (by simp) (.inr rfl)
  · skip
    refine SafeOps.skip (congrArg some hc680) rfl rfl ?_
    refine SafeOps.skip (congrArg some hc680) rfl rfl ?_
    refine SafeOps.quiet0 E_good rfl rfl rfl (v := V.bool false) (.pickK rfl hc680 rfl) ?_
    refine SafeOps.quiet0 E_good rfl rfl rfl (v := V.bool false) (.fn rfl) ?_
    refine SafeOps.nil ?_
    repeat (first | refine Safe.seq ?_ | refine Safe.skip ?_ | with_reducible refine thenQ.n ?_ | with_reducible refine blockQ.n ?_)
    refine Safe.ret ?_
    repeat (first | with_reducible refine thenQ.r ?_ | with_reducible refine blockQ.r ?_)
    obtain rfl := Option.some.inj h
    exact retQ.gen (vs := [V.bool false]) rfl (.tmp (v := V.bool false) rfl .nil) (.free rfl) (by simp) (.inr rfl)

noncomputable def go_ravelref04_Few_s1 (a0_687 : List (List api_Instr)) : (Int) → Option ((Int) ⊕ (Bool))
  | v7_708 =>
    if (decide (v7_708 < (a0_687.length : Int))) = true then
      if 0 ≤ v7_708 ∧ v7_708 < (a0_687.length : Int) then
        if (decide (((gt a0_687 v7_708).length : Int) > 100)) = true then
          inrO (
            some false)
        else
          nextO (IntKind.i64.wrap (v7_708 + 1))
      else none
    else
      inrO (
        some (decide ((a0_687.length : Int) ≤ 100)))

noncomputable def go_ravelref04_Few (a0_687 : List (List api_Instr)) : Option Bool :=
  whileO (go_ravelref04_Few_s1 a0_687) 0

theorem go_ravelref04_Few_sc (a0_687 : List (List api_Instr)) (r : Bool) (h : go_ravelref04_Few a0_687 = some r) : SC Try.prog gl 5 [V.sl 1 (rws (fun l => [V.sl 3 (rws api_Instr.cells l)]) a0_687)] (V.bool r) := by
  rw [go_ravelref04_Few] at h
  refine SC.of E_good Try.func5 rfl (fun _ _ => Try.call5 _ _) rfl ?_
  repeat (first | refine Safe.seq ?_ | refine Safe.skip ?_ | with_reducible refine thenQ.n ?_ | with_reducible refine blockQ.n ?_)
  refine Safe.region ?_
  refine SafeOps.quiet0 E_good rfl rfl rfl (v := V.bool false) (.fn rfl) ?_
  refine SafeOps.nil ?_
  repeat (first | refine Safe.seq ?_ | refine Safe.skip ?_ | with_reducible refine thenQ.n ?_ | with_reducible refine blockQ.n ?_)
  refine Safe.region ?_
  refine SafeOps.quiet0 E_good rfl rfl rfl (v := V.sl 1 (rws (fun l => [V.sl 3 (rws api_Instr.cells l)]) a0_687)) (.fn rfl) ?_
  refine SafeOps.quiet0 E_good rfl rfl rfl (v := V.int .i64 (a0_687.length : Int)) (.fnE rfl lenE) ?_
  refine SafeOps.quiet0 E_good rfl rfl rfl (v := V.int .i64 0) (.fn rfl) ?_
  refine SafeOps.nil ?_
  repeat (first | refine Safe.seq ?_ | refine Safe.skip ?_ | with_reducible refine thenQ.n ?_ | with_reducible refine blockQ.n ?_)
  refine Safe.block ?_
  repeat (first | refine Safe.seq ?_ | refine Safe.skip ?_ | with_reducible refine thenQ.n ?_ | with_reducible refine blockQ.n ?_)
  refine Safe.loopW (fun (v7_708 : Int) => ⟨Try.f5.ntmps, [(0, V.sl 1 (rws (fun l => [V.sl 3 (rws api_Instr.cells l)]) a0_687)), (5, V.sl 1 (rws (fun l => [V.sl 3 (rws api_Instr.cells l)]) a0_687)), (6, V.int .i64 (a0_687.length : Int)), (7, V.int .i64 v7_708)], [], [], []⟩) h (.cov ⟨rfl, rfl, (upT_cons (.refl _) (upT_cons (.refl _) (upT_cons (.refl _) (upT_cons (.refl _) upT_nil)))), upOb_nil, upOut_nil, rfl⟩) ?_
  intro v7_708 ohr709 h hr709
  replace h : go_ravelref04_Few_s1 a0_687 v7_708 = some ohr709 := h
  rw [go_ravelref04_Few_s1] at h
  repeat (first | refine Safe.seq ?_ | refine Safe.skip ?_ | with_reducible refine thenQ.n ?_ | with_reducible refine blockQ.n ?_)
  refine Safe.region ?_
  refine SafeOps.quiet0 E_good rfl rfl rfl (v := V.bool (decide (v7_708 < (a0_687.length : Int)))) (.fn rfl) ?_
  refine SafeOps.nil ?_
  repeat (first | refine Safe.seq ?_ | refine Safe.skip ?_ | with_reducible refine thenQ.n ?_ | with_reducible refine blockQ.n ?_)
  refine ifG h (fun hc710 h => ?_) (fun hc710 h => ?_)
  · skip
    refine Safe.condK rfl hc710 ?_
    repeat (first | refine Safe.seq ?_ | refine Safe.skip ?_ | with_reducible refine thenQ.n ?_ | with_reducible refine blockQ.n ?_)
    refine Safe.block ?_
    repeat (first | refine Safe.seq ?_ | refine Safe.skip ?_ | with_reducible refine thenQ.n ?_ | with_reducible refine blockQ.n ?_)
    refine Safe.region ?_
    refine okG h (fun hb711 h => ?_)
    refine SafeOps.quiet0 E_good rfl rfl rfl (v := V.spt 1 (rws (fun l => [V.sl 3 (rws api_Instr.cells l)]) a0_687) (Int.toNat v7_708) 0) (.idxSlM (f := (fun l => [V.sl 3 (rws api_Instr.cells l)])) rfl rfl rfl rfl rfl hb711) ?_
    refine SafeOps.quiet0 E_good rfl rfl rfl (v := V.sl 3 (rws api_Instr.cells (gt a0_687 v7_708))) (.load rfl rfl (.sptM (f := (fun l => [V.sl 3 (rws api_Instr.cells l)])) hb711 rfl) rfl) ?_
    refine SafeOps.quiet0 E_good rfl rfl rfl (v := V.sl 3 (rws api_Instr.cells (gt a0_687 v7_708))) (.fn rfl) ?_
    refine SafeOps.nil ?_
    repeat (first | refine Safe.seq ?_ | refine Safe.skip ?_ | with_reducible refine thenQ.n ?_ | with_reducible refine blockQ.n ?_)
    refine Safe.region ?_
    refine SafeOps.quiet0 E_good rfl rfl rfl (v := V.sl 3 (rws api_Instr.cells (gt a0_687 v7_708))) (.fn rfl) ?_
    refine SafeOps.quiet0 E_good rfl rfl rfl (v := V.int .i64 ((gt a0_687 v7_708).length : Int)) (.fnE rfl lenE) ?_
    refine SafeOps.quiet0 E_good rfl rfl rfl (v := V.bool (decide (((gt a0_687 v7_708).length : Int) > 100))) (.fn rfl) ?_
    refine SafeOps.nil ?_
    repeat (first | refine Safe.seq ?_ | refine Safe.skip ?_ | with_reducible refine thenQ.n ?_ | with_reducible refine blockQ.n ?_)
    refine ifG h (fun hc712 h => ?_) (fun hc712 h => ?_)
    · skip
      refine Safe.condK rfl hc712 ?_
      repeat (first | refine Safe.seq ?_ | refine Safe.skip ?_ | with_reducible refine thenQ.n ?_ | with_reducible refine blockQ.n ?_)
      refine Safe.region ?_
      refine SafeOps.quiet0 E_good rfl rfl rfl (v := V.bool false) (.fn rfl) ?_
      refine SafeOps.nil ?_
      repeat (first | refine Safe.seq ?_ | refine Safe.skip ?_ | with_reducible refine thenQ.n ?_ | with_reducible refine blockQ.n ?_)
      refine Safe.ret ?_
      repeat (first | with_reducible refine thenQ.r ?_ | with_reducible refine blockQ.r ?_)
      replace h := inr_out h hr709
      obtain rfl := Option.some.inj h
      exact retQ.gen (vs := [V.bool false]) rfl (.tmp (v := V.bool false) rfl .nil) (.free rfl) (by simp) (.inr rfl)
    · skip
      refine Safe.condN rfl hc712 ?_
      repeat (first | refine Safe.seq ?_ | refine Safe.skip ?_ | with_reducible refine thenQ.n ?_ | with_reducible refine blockQ.n ?_)
      refine Safe.region ?_
      refine SafeOps.quiet0 E_good rfl rfl rfl (v := V.int .i64 (IntKind.i64.wrap (v7_708 + 1))) (.fn rfl) ?_
      refine SafeOps.quiet0 E_good rfl rfl rfl (v := V.int .i64 (IntKind.i64.wrap (v7_708 + 1))) (.fn rfl) ?_
      refine SafeOps.nil ?_
      repeat (first | refine Safe.seq ?_ | refine Safe.skip ?_ | with_reducible refine thenQ.n ?_ | with_reducible refine blockQ.n ?_)
      exact ⟨_, next_out h, (.cov ⟨rfl, rfl, (upT_cons (.refl _) (upT_cons (.refl _) (upT_cons (.refl _) (upT_cons (.refl _) upT_nil)))), upOb_nil, upOut_nil, rfl⟩)⟩
  · skip
    refine Safe.condN rfl hc710 ?_
    repeat (first | refine Safe.seq ?_ | refine Safe.skip ?_ | with_reducible refine thenQ.n ?_ | with_reducible refine blockQ.n ?_)
    refine Safe.exit ?_
    repeat (first | with_reducible refine thenQ.e ?_ | with_reducible refine blockQ.x rfl ?_ | with_reducible refine blockQ.y rfl ?_)
    replace h := inr_out h hr709
    repeat (first | refine Safe.seq ?_ | refine Safe.skip ?_ | with_reducible refine thenQ.n ?_ | with_reducible refine blockQ.n ?_)
    refine Safe.region ?_
    refine SafeOps.quiet0 E_good rfl rfl rfl (v := V.sl 1 (rws (fun l => [V.sl 3 (rws api_Instr.cells l)]) a0_687)) (.fn rfl) ?_
    refine SafeOps.quiet0 E_good rfl rfl rfl (v := V.int .i64 (a0_687.length : Int)) (.fnE rfl lenE) ?_
    refine SafeOps.quiet0 E_good rfl rfl rfl (v := V.bool (decide ((a0_687.length : Int) ≤ 100))) (.fn rfl) ?_
    refine SafeOps.quiet0 E_good rfl rfl rfl (v := V.bool (decide ((a0_687.length : Int) ≤ 100))) (.fn rfl) ?_
    refine SafeOps.nil ?_
    repeat (first | refine Safe.seq ?_ | refine Safe.skip ?_ | with_reducible refine thenQ.n ?_ | with_reducible refine blockQ.n ?_)
    refine Safe.ret ?_
    repeat (first | with_reducible refine thenQ.r ?_ | with_reducible refine blockQ.r ?_)
    obtain rfl := Option.some.inj h
    exact retQ.gen (vs := [V.bool (decide ((a0_687.length : Int) ≤ 100))]) rfl (.tmp (v := V.bool (decide ((a0_687.length : Int) ≤ 100))) rfl .nil) (.free rfl) (by simp) (.inr rfl)

noncomputable def go_ravellaw24_DrainFull_j2 (x_804 : Bool) (x_809 : Int) (x_832 : Int) (v12_864 : Int) : Option Bool :=
  some ((x_804 && (x_832 == 0)) && (v12_864 == x_809))

noncomputable def go_ravellaw24_DrainFull_s3 (a0_1 : List (List api_Instr)) (a1_2 : Int) (x_804 : Bool) (x_809 : Int) (x_832 : Int) : (Int × Int) → Option ((Int × Int) ⊕ (Bool))
  | (v12_886, v91_887) =>
    if (decide (v91_887 < ((gt a0_1 a1_2).length : Int))) = true then
      if 0 ≤ v91_887 ∧ v91_887 < ((gt a0_1 a1_2).length : Int) then
        if (((gt (gt a0_1 a1_2) v91_887).Op) == 9) = true then
          inrO (
            go_ravellaw24_DrainFull_j2 x_804 x_809 x_832 v12_886)
        else
          if (((gt (gt a0_1 a1_2) v91_887).Op) == 2) = true then
            (go_drain_Full a0_1 ((gt (gt a0_1 a1_2) v91_887).A)).bind fun (x_893, x_894) =>
            if (x_894 != 0) = true then
              inrO (
                some false)
            else
              nextO (IntKind.i64.wrap (v12_886 + x_893), IntKind.i64.wrap (v91_887 + 1))
          else
            nextO (v12_886, IntKind.i64.wrap (v91_887 + 1))
      else none
    else
      inrO (
        go_ravellaw24_DrainFull_j2 x_804 x_809 x_832 v12_886)

noncomputable def go_ravellaw24_DrainFull (a0_1 : List (List api_Instr)) (a1_2 : Int) : Option Bool :=
  (go_ravellaw24_live).bind fun x_804 =>
  (go_ravelref04_Few a0_1).bind fun x_806 =>
  if (!x_806) = true then
    some x_804
  else
    (go_drain_Full a0_1 a1_2).bind fun (x_809, x_810) =>
    (go_code_Tasks a0_1 a1_2).bind fun (x_812, x_813) =>
    if (x_810 != 0) = true then
      some ((x_804 && (x_809 == 0)) && (((x_813 != 0) && (x_813 == x_810)) || ((x_813 == 0) && (x_810 == 4))))
    else
      if ((((x_813 != 0) || (decide (a1_2 < 0))) || (decide (a1_2 ≥ (a0_1.length : Int)))) || (decide (x_809 < (IntKind.i64.wrap (2 * x_812))))) = true then
        some false
      else
        if 0 ≤ a1_2 ∧ a1_2 < (a0_1.length : Int) then
          (go_code_Units (gt a0_1 a1_2)).bind fun (x_831, x_832) =>
          if 0 ≤ a1_2 ∧ a1_2 < (a0_1.length : Int) then
            whileO (go_ravellaw24_DrainFull_s3 a0_1 a1_2 x_804 x_809 x_832) (IntKind.i64.wrap (x_831 + 1), 0)
          else none
        else none

theorem go_ravellaw24_DrainFull_sc (a0_1 : List (List api_Instr)) (a1_2 : Int) (r : Bool) (h : go_ravellaw24_DrainFull a0_1 a1_2 = some r) : SC Try.prog gl 3 [V.sl 1 (rws (fun l => [V.sl 3 (rws api_Instr.cells l)]) a0_1), V.int .i64 a1_2] (V.bool r) := by
  rw [go_ravellaw24_DrainFull] at h
  refine SC.of E_good Try.func3 rfl (fun _ _ => Try.call3 _ _) rfl ?_
  repeat (first | refine Safe.seq ?_ | refine Safe.skip ?_ | with_reducible refine thenQ.n ?_ | with_reducible refine blockQ.n ?_)
  refine Safe.region ?_
  refine SafeOps.quiet0 E_good rfl rfl rfl (v := V.bool false) (.fn rfl) ?_
  refine SafeOps.nil ?_
  repeat (first | refine Safe.seq ?_ | refine Safe.skip ?_ | with_reducible refine thenQ.n ?_ | with_reducible refine blockQ.n ?_)
  refine Safe.region ?_
  refine bindG h ?_
  intro x_804 he805 h
  refine SafeOps.quiet0 E_good rfl rfl rfl (v := V.bool x_804) (.callP rfl rfl (go_ravellaw24_live_sc  _ he805) rfl) ?_
  refine SafeOps.quiet0 E_good rfl rfl rfl (v := V.bool x_804) (.fn rfl) ?_
  refine SafeOps.nil ?_
  repeat (first | refine Safe.seq ?_ | refine Safe.skip ?_ | with_reducible refine thenQ.n ?_ | with_reducible refine blockQ.n ?_)
  refine Safe.region ?_
  refine SafeOps.quiet0 E_good rfl rfl rfl (v := V.sl 1 (rws (fun l => [V.sl 3 (rws api_Instr.cells l)]) a0_1)) (.fn rfl) ?_
  refine bindG h ?_
  intro x_806 he807 h
  refine SafeOps.quiet0 E_good rfl rfl rfl (v := V.bool x_806) (.callP rfl rfl (go_ravelref04_Few_sc a0_1 _ he807) rfl) ?_
  refine SafeOps.quiet0 E_good rfl rfl rfl (v := V.bool (!x_806)) (.fn rfl) ?_
  refine SafeOps.nil ?_
  repeat (first | refine Safe.seq ?_ | refine Safe.skip ?_ | with_reducible refine thenQ.n ?_ | with_reducible refine blockQ.n ?_)
  refine ifG h (fun hc808 h => ?_) (fun hc808 h => ?_)
  · skip
    refine Safe.condK rfl hc808 ?_
    repeat (first | refine Safe.seq ?_ | refine Safe.skip ?_ | with_reducible refine thenQ.n ?_ | with_reducible refine blockQ.n ?_)
    refine Safe.region ?_
    refine SafeOps.quiet0 E_good rfl rfl rfl (v := V.bool x_804) (.fn rfl) ?_
    refine SafeOps.quiet0 E_good rfl rfl rfl (v := V.bool x_804) (.fn rfl) ?_
    refine SafeOps.nil ?_
    repeat (first | refine Safe.seq ?_ | refine Safe.skip ?_ | with_reducible refine thenQ.n ?_ | with_reducible refine blockQ.n ?_)
    refine Safe.ret ?_
    repeat (first | with_reducible refine thenQ.r ?_ | with_reducible refine blockQ.r ?_)
    obtain rfl := Option.some.inj h
    exact retQ.gen (vs := [V.bool x_804]) rfl (.tmp (v := V.bool x_804) rfl .nil) (.free rfl) (by simp) (.inr rfl)
  · skip
    refine Safe.condN rfl hc808 ?_
    repeat (first | refine Safe.seq ?_ | refine Safe.skip ?_ | with_reducible refine thenQ.n ?_ | with_reducible refine blockQ.n ?_)
    refine Safe.region ?_
    refine SafeOps.quiet0 E_good rfl rfl rfl (v := V.sl 1 (rws (fun l => [V.sl 3 (rws api_Instr.cells l)]) a0_1)) (.fn rfl) ?_
    refine SafeOps.quiet0 E_good rfl rfl rfl (v := V.int .i64 a1_2) (.fn rfl) ?_
    refine bindG h ?_
    rintro ⟨x_809, x_810⟩ he811 h
    refine SafeOps.quiet0 E_good rfl rfl rfl (v := V.tup [V.int .i64 x_809, V.int .i64 x_810]) (.callP rfl rfl (go_drain_Full_sc a0_1 a1_2 _ he811) rfl) ?_
    refine SafeOps.quiet0 E_good rfl rfl rfl (v := V.tup [V.int .i64 x_809, V.int .i64 x_810]) (.fn rfl) ?_
    refine SafeOps.quiet0 E_good rfl rfl rfl (v := V.int .i64 x_809) (.fn rfl) ?_
    refine SafeOps.quiet0 E_good rfl rfl rfl (v := V.int .i64 x_810) (.fn rfl) ?_
    refine SafeOps.quiet0 E_good rfl rfl rfl (v := V.int .i64 x_809) (.fn rfl) ?_
    refine SafeOps.quiet0 E_good rfl rfl rfl (v := V.int .i64 x_810) (.fn rfl) ?_
    refine SafeOps.nil ?_
    repeat (first | refine Safe.seq ?_ | refine Safe.skip ?_ | with_reducible refine thenQ.n ?_ | with_reducible refine blockQ.n ?_)
    refine Safe.region ?_
    refine SafeOps.quiet0 E_good rfl rfl rfl (v := V.sl 1 (rws (fun l => [V.sl 3 (rws api_Instr.cells l)]) a0_1)) (.fn rfl) ?_
    refine SafeOps.quiet0 E_good rfl rfl rfl (v := V.int .i64 a1_2) (.fn rfl) ?_
    refine bindG h ?_
    rintro ⟨x_812, x_813⟩ he814 h
    refine SafeOps.quiet0 E_good rfl rfl rfl (v := V.tup [V.int .i64 x_812, V.int .i64 x_813]) (.callP rfl rfl (go_code_Tasks_sc a0_1 a1_2 _ he814) rfl) ?_
    refine SafeOps.quiet0 E_good rfl rfl rfl (v := V.tup [V.int .i64 x_812, V.int .i64 x_813]) (.fn rfl) ?_
    refine SafeOps.quiet0 E_good rfl rfl rfl (v := V.int .i64 x_812) (.fn rfl) ?_
    refine SafeOps.quiet0 E_good rfl rfl rfl (v := V.int .i64 x_813) (.fn rfl) ?_
    refine SafeOps.quiet0 E_good rfl rfl rfl (v := V.int .i64 x_812) (.fn rfl) ?_
    refine SafeOps.quiet0 E_good rfl rfl rfl (v := V.int .i64 x_813) (.fn rfl) ?_
    refine SafeOps.nil ?_
    repeat (first | refine Safe.seq ?_ | refine Safe.skip ?_ | with_reducible refine thenQ.n ?_ | with_reducible refine blockQ.n ?_)
    refine Safe.region ?_
    refine SafeOps.quiet0 E_good rfl rfl rfl (v := V.int .i64 x_810) (.fn rfl) ?_
    refine SafeOps.quiet0 E_good rfl rfl rfl (v := V.bool (x_810 != 0)) (.fn rfl) ?_
    refine SafeOps.nil ?_
    repeat (first | refine Safe.seq ?_ | refine Safe.skip ?_ | with_reducible refine thenQ.n ?_ | with_reducible refine blockQ.n ?_)
    refine ifG h (fun hc820 h => ?_) (fun hc820 h => ?_)
    · skip
      refine Safe.condK rfl hc820 ?_
      repeat (first | refine Safe.seq ?_ | refine Safe.skip ?_ | with_reducible refine thenQ.n ?_ | with_reducible refine blockQ.n ?_)
      refine Safe.region ?_
      refine SafeOps.quiet0 E_good rfl rfl rfl (v := V.bool x_804) (.fn rfl) ?_
      refine SafeOps.quiet0 E_good rfl rfl rfl (v := V.bool x_804) (.fn rfl) ?_
      refine SafeOps.bjoin 3 40 (b := (x_804 && (x_809 == 0))) (b1 := (x_809 == 0)) (b0 := false) (fun hc821 K => ?_) (fun hc821 K => ?_) bj_and ?_
      · skip
        refine SafeOps.quiet0 E_good (congrArg some hc821) rfl rfl (v := V.int .i64 x_809) (.fn rfl) ?_
        refine SafeOps.quiet0 E_good (congrArg some hc821) rfl rfl (v := V.bool (x_809 == 0)) (.fn rfl) ?_
        refine SafeOps.quiet0 E_good rfl rfl rfl (v := V.bool (x_809 == 0)) (.pickK rfl hc821 rfl) ?_
        exact SafeOps.drop' 3 rfl rfl rfl K
      · skip
        refine SafeOps.skip (congrArg some hc821) rfl rfl ?_
        refine SafeOps.skip (congrArg some hc821) rfl rfl ?_
        refine SafeOps.quiet0 E_good rfl rfl rfl (v := V.bool false) (.pickK rfl hc821 rfl) ?_
        exact SafeOps.drop' 3 rfl rfl rfl K
      refine SafeOps.quiet0 E_good rfl rfl rfl (v := V.bool (x_804 && (x_809 == 0))) (.fn rfl) ?_
      refine SafeOps.bjoin 16 57 (b := ((x_804 && (x_809 == 0)) && (((x_813 != 0) && (x_813 == x_810)) || ((x_813 == 0) && (x_810 == 4))))) (b1 := (((x_813 != 0) && (x_813 == x_810)) || ((x_813 == 0) && (x_810 == 4)))) (b0 := false) (fun hc822 K => ?_) (fun hc822 K => ?_) bj_and ?_
      · skip
        refine SafeOps.quiet0 E_good (congrArg some hc822) rfl rfl (v := V.int .i64 x_813) (.fn rfl) ?_
        refine SafeOps.quiet0 E_good (congrArg some hc822) rfl rfl (v := V.bool (x_813 != 0)) (.fn rfl) ?_
        refine SafeOps.quiet0 E_good (congrArg some hc822) rfl rfl (v := V.bool (x_813 != 0)) (.fn rfl) ?_
        refine SafeOps.bjoin 4 48 (b := ((x_813 != 0) && (x_813 == x_810))) (b1 := (x_813 == x_810)) (b0 := false) (fun hc823 K => ?_) (fun hc823 K => ?_) bj_and ?_
        · skip
          refine SafeOps.quiet0 E_good (congrArg some hc823) rfl rfl (v := V.int .i64 x_813) (.fn rfl) ?_
          refine SafeOps.quiet0 E_good (congrArg some hc823) rfl rfl (v := V.int .i64 x_810) (.fn rfl) ?_
          refine SafeOps.quiet0 E_good (congrArg some hc823) rfl rfl (v := V.bool (x_813 == x_810)) (.fn rfl) ?_
          refine SafeOps.quiet0 E_good (congrArg some hc822) rfl rfl (v := V.bool (x_813 == x_810)) (.pickK rfl hc823 rfl) ?_
          exact SafeOps.drop' 4 rfl rfl rfl K
        · skip
          refine SafeOps.skip (congrArg some hc823) rfl rfl ?_
          refine SafeOps.skip (congrArg some hc823) rfl rfl ?_
          refine SafeOps.skip (congrArg some hc823) rfl rfl ?_
          refine SafeOps.quiet0 E_good (congrArg some hc822) rfl rfl (v := V.bool false) (.pickK rfl hc823 rfl) ?_
          exact SafeOps.drop' 4 rfl rfl rfl K
        refine SafeOps.quiet0 E_good (congrArg some hc822) rfl rfl (v := V.bool ((x_813 != 0) && (x_813 == x_810))) (.fn rfl) ?_
        refine SafeOps.bjoin 7 56 (b := (((x_813 != 0) && (x_813 == x_810)) || ((x_813 == 0) && (x_810 == 4)))) (b1 := true) (b0 := ((x_813 == 0) && (x_810 == 4))) (fun hc824 K => ?_) (fun hc824 K => ?_) bj_or ?_
        · skip
          refine SafeOps.skip (congrArg (fun b => some (!b)) hc824) rfl rfl ?_
          refine SafeOps.skip (congrArg (fun b => some (!b)) hc824) rfl rfl ?_
          refine SafeOps.skip (congrArg (fun b => some (!b)) hc824) rfl rfl ?_
          refine SafeOps.skip rfl rfl rfl ?_
          refine SafeOps.skip rfl rfl rfl ?_
          refine SafeOps.skip (congrArg (fun b => some (!b)) hc824) rfl rfl ?_
          refine SafeOps.quiet0 E_good (congrArg some hc822) rfl rfl (v := V.bool true) (.pickK rfl hc824 rfl) ?_
          exact SafeOps.drop' 7 rfl rfl rfl K
        · skip
          refine SafeOps.quiet0 E_good (congrArg (fun b => some (!b)) hc824) rfl rfl (v := V.int .i64 x_813) (.fn rfl) ?_
          refine SafeOps.quiet0 E_good (congrArg (fun b => some (!b)) hc824) rfl rfl (v := V.bool (x_813 == 0)) (.fn rfl) ?_
          refine SafeOps.quiet0 E_good (congrArg (fun b => some (!b)) hc824) rfl rfl (v := V.bool (x_813 == 0)) (.fn rfl) ?_
          refine SafeOps.bjoin 3 55 (b := ((x_813 == 0) && (x_810 == 4))) (b1 := (x_810 == 4)) (b0 := false) (fun hc825 K => ?_) (fun hc825 K => ?_) bj_and ?_
          · skip
            refine SafeOps.quiet0 E_good (congrArg some hc825) rfl rfl (v := V.int .i64 x_810) (.fn rfl) ?_
            refine SafeOps.quiet0 E_good (congrArg some hc825) rfl rfl (v := V.bool (x_810 == 4)) (.fn rfl) ?_
            refine SafeOps.quiet0 E_good (congrArg (fun b => some (!b)) hc824) rfl rfl (v := V.bool (x_810 == 4)) (.pickK rfl hc825 rfl) ?_
            exact SafeOps.drop' 3 rfl rfl rfl K
          · skip
            refine SafeOps.skip (congrArg some hc825) rfl rfl ?_
            refine SafeOps.skip (congrArg some hc825) rfl rfl ?_
            refine SafeOps.quiet0 E_good (congrArg (fun b => some (!b)) hc824) rfl rfl (v := V.bool false) (.pickK rfl hc825 rfl) ?_
            exact SafeOps.drop' 3 rfl rfl rfl K
          refine SafeOps.quiet0 E_good (congrArg some hc822) rfl rfl (v := V.bool ((x_813 == 0) && (x_810 == 4))) (.pickK rfl hc824 rfl) ?_
          exact SafeOps.drop' 5 rfl rfl rfl K
        refine SafeOps.quiet0 E_good rfl rfl rfl (v := V.bool (((x_813 != 0) && (x_813 == x_810)) || ((x_813 == 0) && (x_810 == 4)))) (.pickK rfl hc822 rfl) ?_
        exact SafeOps.drop' 7 rfl rfl rfl K
      · skip
        refine SafeOps.skip (congrArg some hc822) rfl rfl ?_
        refine SafeOps.skip (congrArg some hc822) rfl rfl ?_
        refine SafeOps.skip (congrArg some hc822) rfl rfl ?_
        refine SafeOps.skip rfl rfl rfl ?_
        refine SafeOps.skip rfl rfl rfl ?_
        refine SafeOps.skip rfl rfl rfl ?_
        refine SafeOps.skip (congrArg some hc822) rfl rfl ?_
        refine SafeOps.skip (congrArg some hc822) rfl rfl ?_
        refine SafeOps.skip rfl rfl rfl ?_
        refine SafeOps.skip rfl rfl rfl ?_
        refine SafeOps.skip rfl rfl rfl ?_
        refine SafeOps.skip rfl rfl rfl ?_
        refine SafeOps.skip rfl rfl rfl ?_
        refine SafeOps.skip rfl rfl rfl ?_
        refine SafeOps.skip (congrArg some hc822) rfl rfl ?_
        refine SafeOps.quiet0 E_good rfl rfl rfl (v := V.bool false) (.pickK rfl hc822 rfl) ?_
        exact SafeOps.drop' 16 rfl rfl rfl K
      refine SafeOps.quiet0 E_good rfl rfl rfl (v := V.bool ((x_804 && (x_809 == 0)) && (((x_813 != 0) && (x_813 == x_810)) || ((x_813 == 0) && (x_810 == 4))))) (.fn rfl) ?_
      refine SafeOps.nil ?_
      repeat (first | refine Safe.seq ?_ | refine Safe.skip ?_ | with_reducible refine thenQ.n ?_ | with_reducible refine blockQ.n ?_)
      refine Safe.ret ?_
      repeat (first | with_reducible refine thenQ.r ?_ | with_reducible refine blockQ.r ?_)
      obtain rfl := Option.some.inj h
      exact retQ.gen (vs := [V.bool ((x_804 && (x_809 == 0)) && (((x_813 != 0) && (x_813 == x_810)) || ((x_813 == 0) && (x_810 == 4))))]) rfl (.tmp (v := V.bool ((x_804 && (x_809 == 0)) && (((x_813 != 0) && (x_813 == x_810)) || ((x_813 == 0) && (x_810 == 4))))) rfl .nil) (.free rfl) (by simp) (.inr rfl)
    · skip
      refine Safe.condN rfl hc820 ?_
      repeat (first | refine Safe.seq ?_ | refine Safe.skip ?_ | with_reducible refine thenQ.n ?_ | with_reducible refine blockQ.n ?_)
      refine Safe.region ?_
      refine SafeOps.quiet0 E_good rfl rfl rfl (v := V.int .i64 x_813) (.fn rfl) ?_
      refine SafeOps.quiet0 E_good rfl rfl rfl (v := V.bool (x_813 != 0)) (.fn rfl) ?_
      refine SafeOps.quiet0 E_good rfl rfl rfl (v := V.bool (x_813 != 0)) (.fn rfl) ?_
      refine SafeOps.bjoin 3 63 (b := ((x_813 != 0) || (decide (a1_2 < 0)))) (b1 := true) (b0 := decide (a1_2 < 0)) (fun hc826 K => ?_) (fun hc826 K => ?_) bj_or ?_
      · skip
        refine SafeOps.skip (congrArg (fun b => some (!b)) hc826) rfl rfl ?_
        refine SafeOps.skip (congrArg (fun b => some (!b)) hc826) rfl rfl ?_
        refine SafeOps.quiet0 E_good rfl rfl rfl (v := V.bool true) (.pickK rfl hc826 rfl) ?_
        exact SafeOps.drop' 3 rfl rfl rfl K
      · skip
        refine SafeOps.quiet0 E_good (congrArg (fun b => some (!b)) hc826) rfl rfl (v := V.int .i64 a1_2) (.fn rfl) ?_
        refine SafeOps.quiet0 E_good (congrArg (fun b => some (!b)) hc826) rfl rfl (v := V.bool (decide (a1_2 < 0))) (.fn rfl) ?_
        refine SafeOps.quiet0 E_good rfl rfl rfl (v := V.bool (decide (a1_2 < 0))) (.pickK rfl hc826 rfl) ?_
        exact SafeOps.drop' 3 rfl rfl rfl K
      refine SafeOps.quiet0 E_good rfl rfl rfl (v := V.bool ((x_813 != 0) || (decide (a1_2 < 0)))) (.fn rfl) ?_
      refine SafeOps.bjoin 5 69 (b := (((x_813 != 0) || (decide (a1_2 < 0))) || (decide (a1_2 ≥ (a0_1.length : Int))))) (b1 := true) (b0 := decide (a1_2 ≥ (a0_1.length : Int))) (fun hc827 K => ?_) (fun hc827 K => ?_) bj_or ?_
      · skip
        refine SafeOps.skip (congrArg (fun b => some (!b)) hc827) rfl rfl ?_
        refine SafeOps.skip (congrArg (fun b => some (!b)) hc827) rfl rfl ?_
        refine SafeOps.skip (congrArg (fun b => some (!b)) hc827) rfl rfl ?_
        refine SafeOps.skip (congrArg (fun b => some (!b)) hc827) rfl rfl ?_
        refine SafeOps.quiet0 E_good rfl rfl rfl (v := V.bool true) (.pickK rfl hc827 rfl) ?_
        exact SafeOps.drop' 5 rfl rfl rfl K
      · skip
        refine SafeOps.quiet0 E_good (congrArg (fun b => some (!b)) hc827) rfl rfl (v := V.int .i64 a1_2) (.fn rfl) ?_
        refine SafeOps.quiet0 E_good (congrArg (fun b => some (!b)) hc827) rfl rfl (v := V.sl 1 (rws (fun l => [V.sl 3 (rws api_Instr.cells l)]) a0_1)) (.fn rfl) ?_
        refine SafeOps.quiet0 E_good (congrArg (fun b => some (!b)) hc827) rfl rfl (v := V.int .i64 (a0_1.length : Int)) (.fnE rfl lenE) ?_
        refine SafeOps.quiet0 E_good (congrArg (fun b => some (!b)) hc827) rfl rfl (v := V.bool (decide (a1_2 ≥ (a0_1.length : Int)))) (.fn rfl) ?_
        refine SafeOps.quiet0 E_good rfl rfl rfl (v := V.bool (decide (a1_2 ≥ (a0_1.length : Int)))) (.pickK rfl hc827 rfl) ?_
        exact SafeOps.drop' 5 rfl rfl rfl K
      refine SafeOps.quiet0 E_good rfl rfl rfl (v := V.bool (((x_813 != 0) || (decide (a1_2 < 0))) || (decide (a1_2 ≥ (a0_1.length : Int))))) (.fn rfl) ?_
      refine SafeOps.bjoin 5 75 (b := ((((x_813 != 0) || (decide (a1_2 < 0))) || (decide (a1_2 ≥ (a0_1.length : Int)))) || (decide (x_809 < (IntKind.i64.wrap (2 * x_812)))))) (b1 := true) (b0 := decide (x_809 < (IntKind.i64.wrap (2 * x_812)))) (fun hc828 K => ?_) (fun hc828 K => ?_) bj_or ?_
      · skip
        refine SafeOps.skip (congrArg (fun b => some (!b)) hc828) rfl rfl ?_
        refine SafeOps.skip (congrArg (fun b => some (!b)) hc828) rfl rfl ?_
        refine SafeOps.skip (congrArg (fun b => some (!b)) hc828) rfl rfl ?_
        refine SafeOps.skip (congrArg (fun b => some (!b)) hc828) rfl rfl ?_
        refine SafeOps.quiet0 E_good rfl rfl rfl (v := V.bool true) (.pickK rfl hc828 rfl) ?_
        exact SafeOps.drop' 5 rfl rfl rfl K
      · skip
        refine SafeOps.quiet0 E_good (congrArg (fun b => some (!b)) hc828) rfl rfl (v := V.int .i64 x_809) (.fn rfl) ?_
        refine SafeOps.quiet0 E_good (congrArg (fun b => some (!b)) hc828) rfl rfl (v := V.int .i64 x_812) (.fn rfl) ?_
        refine SafeOps.quiet0 E_good (congrArg (fun b => some (!b)) hc828) rfl rfl (v := V.int .i64 (IntKind.i64.wrap (2 * x_812))) (.fn rfl) ?_
        refine SafeOps.quiet0 E_good (congrArg (fun b => some (!b)) hc828) rfl rfl (v := V.bool (decide (x_809 < (IntKind.i64.wrap (2 * x_812))))) (.fn rfl) ?_
        refine SafeOps.quiet0 E_good rfl rfl rfl (v := V.bool (decide (x_809 < (IntKind.i64.wrap (2 * x_812))))) (.pickK rfl hc828 rfl) ?_
        exact SafeOps.drop' 5 rfl rfl rfl K
      refine SafeOps.nil ?_
      repeat (first | refine Safe.seq ?_ | refine Safe.skip ?_ | with_reducible refine thenQ.n ?_ | with_reducible refine blockQ.n ?_)
      refine ifG h (fun hc829 h => ?_) (fun hc829 h => ?_)
      · skip
        refine Safe.condK rfl hc829 ?_
        repeat (first | refine Safe.seq ?_ | refine Safe.skip ?_ | with_reducible refine thenQ.n ?_ | with_reducible refine blockQ.n ?_)
        refine Safe.region ?_
        refine SafeOps.quiet0 E_good rfl rfl rfl (v := V.bool false) (.fn rfl) ?_
        refine SafeOps.nil ?_
        repeat (first | refine Safe.seq ?_ | refine Safe.skip ?_ | with_reducible refine thenQ.n ?_ | with_reducible refine blockQ.n ?_)
        refine Safe.ret ?_
        repeat (first | with_reducible refine thenQ.r ?_ | with_reducible refine blockQ.r ?_)
        obtain rfl := Option.some.inj h
        exact retQ.gen (vs := [V.bool false]) rfl (.tmp (v := V.bool false) rfl .nil) (.free rfl) (by simp) (.inr rfl)
      · skip
        refine Safe.condN rfl hc829 ?_
        repeat (first | refine Safe.seq ?_ | refine Safe.skip ?_ | with_reducible refine thenQ.n ?_ | with_reducible refine blockQ.n ?_)
        refine Safe.region ?_
        refine SafeOps.quiet0 E_good rfl rfl rfl (v := V.sl 1 (rws (fun l => [V.sl 3 (rws api_Instr.cells l)]) a0_1)) (.fn rfl) ?_
        refine SafeOps.quiet0 E_good rfl rfl rfl (v := V.int .i64 a1_2) (.fn rfl) ?_
        refine okG h (fun hb830 h => ?_)
        refine SafeOps.quiet0 E_good rfl rfl rfl (v := V.spt 1 (rws (fun l => [V.sl 3 (rws api_Instr.cells l)]) a0_1) (Int.toNat a1_2) 0) (.idxSlM (f := (fun l => [V.sl 3 (rws api_Instr.cells l)])) rfl rfl rfl rfl rfl hb830) ?_
        refine SafeOps.quiet0 E_good rfl rfl rfl (v := V.sl 3 (rws api_Instr.cells (gt a0_1 a1_2))) (.load rfl rfl (.sptM (f := (fun l => [V.sl 3 (rws api_Instr.cells l)])) hb830 rfl) rfl) ?_
        refine bindG h ?_
        rintro ⟨x_831, x_832⟩ he833 h
        refine SafeOps.quiet0 E_good rfl rfl rfl (v := V.tup [V.int .i64 x_831, V.int .i64 x_832]) (.callP rfl rfl (go_code_Units_sc (gt a0_1 a1_2) _ he833) rfl) ?_
        refine SafeOps.quiet0 E_good rfl rfl rfl (v := V.tup [V.int .i64 x_831, V.int .i64 x_832]) (.fn rfl) ?_
        refine SafeOps.quiet0 E_good rfl rfl rfl (v := V.int .i64 x_831) (.fn rfl) ?_
        refine SafeOps.quiet0 E_good rfl rfl rfl (v := V.int .i64 x_832) (.fn rfl) ?_
        refine SafeOps.quiet0 E_good rfl rfl rfl (v := V.int .i64 x_831) (.fn rfl) ?_
        refine SafeOps.quiet0 E_good rfl rfl rfl (v := V.int .i64 x_832) (.fn rfl) ?_
        refine SafeOps.nil ?_
        repeat (first | refine Safe.seq ?_ | refine Safe.skip ?_ | with_reducible refine thenQ.n ?_ | with_reducible refine blockQ.n ?_)
        refine Safe.region ?_
        refine SafeOps.quiet0 E_good rfl rfl rfl (v := V.int .i64 x_831) (.fn rfl) ?_
        refine SafeOps.quiet0 E_good rfl rfl rfl (v := V.int .i64 (IntKind.i64.wrap (x_831 + 1))) (.fn rfl) ?_
        refine SafeOps.quiet0 E_good rfl rfl rfl (v := V.int .i64 (IntKind.i64.wrap (x_831 + 1))) (.fn rfl) ?_
        refine SafeOps.nil ?_
        repeat (first | refine Safe.seq ?_ | refine Safe.skip ?_ | with_reducible refine thenQ.n ?_ | with_reducible refine blockQ.n ?_)
        refine Safe.region ?_
        refine SafeOps.quiet0 E_good rfl rfl rfl (v := V.sl 1 (rws (fun l => [V.sl 3 (rws api_Instr.cells l)]) a0_1)) (.fn rfl) ?_
        refine SafeOps.quiet0 E_good rfl rfl rfl (v := V.int .i64 a1_2) (.fn rfl) ?_
        refine okG h (fun hb834 h => ?_)
        refine SafeOps.quiet0 E_good rfl rfl rfl (v := V.spt 1 (rws (fun l => [V.sl 3 (rws api_Instr.cells l)]) a0_1) (Int.toNat a1_2) 0) (.idxSlM (f := (fun l => [V.sl 3 (rws api_Instr.cells l)])) rfl rfl rfl rfl rfl hb834) ?_
        refine SafeOps.quiet0 E_good rfl rfl rfl (v := V.sl 3 (rws api_Instr.cells (gt a0_1 a1_2))) (.load rfl rfl (.sptM (f := (fun l => [V.sl 3 (rws api_Instr.cells l)])) hb834 rfl) rfl) ?_
        refine SafeOps.quiet0 E_good rfl rfl rfl (v := V.int .i64 ((gt a0_1 a1_2).length : Int)) (.fnE rfl lenE) ?_
        refine SafeOps.quiet0 E_good rfl rfl rfl (v := V.int .i64 0) (.fn rfl) ?_
        refine SafeOps.nil ?_
        repeat (first | refine Safe.seq ?_ | refine Safe.skip ?_ | with_reducible refine thenQ.n ?_ | with_reducible refine blockQ.n ?_)
        refine Safe.joinT (fun (v12_864 : Int) => go_ravellaw24_DrainFull_j2 x_804 x_809 x_832 v12_864 = some r) (fun (v12_864 : Int) => ⟨Try.f3.ntmps, [(5, V.bool x_804), (6, V.int .i64 x_809), (11, V.int .i64 x_832), (12, V.int .i64 v12_864)], [], [], []⟩) ?_ (fun HJ865 => ?_)
        · intro v12_864 h
          replace h : go_ravellaw24_DrainFull_j2 x_804 x_809 x_832 v12_864 = some r := h
          rw [go_ravellaw24_DrainFull_j2] at h
          repeat (first | refine Safe.seq ?_ | refine Safe.skip ?_ | with_reducible refine thenQ.n ?_ | with_reducible refine blockQ.n ?_)
          refine Safe.region ?_
          refine SafeOps.quiet0 E_good rfl rfl rfl (v := V.bool x_804) (.fn rfl) ?_
          refine SafeOps.quiet0 E_good rfl rfl rfl (v := V.bool x_804) (.fn rfl) ?_
          refine SafeOps.bjoin 3 118 (b := (x_804 && (x_832 == 0))) (b1 := (x_832 == 0)) (b0 := false) (fun hc866 K => ?_) (fun hc866 K => ?_) bj_and ?_
          · skip
            refine SafeOps.quiet0 E_good (congrArg some hc866) rfl rfl (v := V.int .i64 x_832) (.fn rfl) ?_
            refine SafeOps.quiet0 E_good (congrArg some hc866) rfl rfl (v := V.bool (x_832 == 0)) (.fn rfl) ?_
            refine SafeOps.quiet0 E_good rfl rfl rfl (v := V.bool (x_832 == 0)) (.pickK rfl hc866 rfl) ?_
            exact SafeOps.drop' 3 rfl rfl rfl K
          · skip
            refine SafeOps.skip (congrArg some hc866) rfl rfl ?_
            refine SafeOps.skip (congrArg some hc866) rfl rfl ?_
            refine SafeOps.quiet0 E_good rfl rfl rfl (v := V.bool false) (.pickK rfl hc866 rfl) ?_
            exact SafeOps.drop' 3 rfl rfl rfl K
          refine SafeOps.quiet0 E_good rfl rfl rfl (v := V.bool (x_804 && (x_832 == 0))) (.fn rfl) ?_
          refine SafeOps.bjoin 4 123 (b := ((x_804 && (x_832 == 0)) && (v12_864 == x_809))) (b1 := (v12_864 == x_809)) (b0 := false) (fun hc867 K => ?_) (fun hc867 K => ?_) bj_and ?_
          · skip
            refine SafeOps.quiet0 E_good (congrArg some hc867) rfl rfl (v := V.int .i64 v12_864) (.fn rfl) ?_
            refine SafeOps.quiet0 E_good (congrArg some hc867) rfl rfl (v := V.int .i64 x_809) (.fn rfl) ?_
            refine SafeOps.quiet0 E_good (congrArg some hc867) rfl rfl (v := V.bool (v12_864 == x_809)) (.fn rfl) ?_
            refine SafeOps.quiet0 E_good rfl rfl rfl (v := V.bool (v12_864 == x_809)) (.pickK rfl hc867 rfl) ?_
            exact SafeOps.drop' 4 rfl rfl rfl K
          · skip
            refine SafeOps.skip (congrArg some hc867) rfl rfl ?_
            refine SafeOps.skip (congrArg some hc867) rfl rfl ?_
            refine SafeOps.skip (congrArg some hc867) rfl rfl ?_
            refine SafeOps.quiet0 E_good rfl rfl rfl (v := V.bool false) (.pickK rfl hc867 rfl) ?_
            exact SafeOps.drop' 4 rfl rfl rfl K
          refine SafeOps.quiet0 E_good rfl rfl rfl (v := V.bool ((x_804 && (x_832 == 0)) && (v12_864 == x_809))) (.fn rfl) ?_
          refine SafeOps.nil ?_
          repeat (first | refine Safe.seq ?_ | refine Safe.skip ?_ | with_reducible refine thenQ.n ?_ | with_reducible refine blockQ.n ?_)
          refine Safe.ret ?_
          repeat (first | with_reducible refine thenQ.r ?_ | with_reducible refine blockQ.r ?_)
          obtain rfl := Option.some.inj h
          exact retQ.gen (vs := [V.bool ((x_804 && (x_832 == 0)) && (v12_864 == x_809))]) rfl (.tmp (v := V.bool ((x_804 && (x_832 == 0)) && (v12_864 == x_809))) rfl .nil) (.free rfl) (by simp) (.inr rfl)
        · skip
          refine Safe.block ?_
          repeat (first | refine Safe.seq ?_ | refine Safe.skip ?_ | with_reducible refine thenQ.n ?_ | with_reducible refine blockQ.n ?_)
          refine Safe.loopW (fun ((v12_886, v91_887) : Int × Int) => ⟨Try.f3.ntmps, [(0, V.sl 1 (rws (fun l => [V.sl 3 (rws api_Instr.cells l)]) a0_1)), (5, V.bool x_804), (6, V.int .i64 x_809), (11, V.int .i64 x_832), (12, V.int .i64 v12_886), (89, V.sl 3 (rws api_Instr.cells (gt a0_1 a1_2))), (90, V.int .i64 ((gt a0_1 a1_2).length : Int)), (91, V.int .i64 v91_887)], [], [], []⟩) h (.cov ⟨rfl, rfl, (upT_cons (.refl _) (upT_cons (.refl _) (upT_cons (.refl _) (upT_cons (.refl _) (upT_cons (.refl _) (upT_cons (.refl _) (upT_cons (.refl _) (upT_cons (.refl _) upT_nil)))))))), upOb_nil, upOut_nil, rfl⟩) ?_
          rintro ⟨v12_886, v91_887⟩ ohr888 h hr888
          replace h : go_ravellaw24_DrainFull_s3 a0_1 a1_2 x_804 x_809 x_832 (v12_886, v91_887) = some ohr888 := h
          rw [go_ravellaw24_DrainFull_s3] at h
          repeat (first | refine Safe.seq ?_ | refine Safe.skip ?_ | with_reducible refine thenQ.n ?_ | with_reducible refine blockQ.n ?_)
          refine Safe.region ?_
          refine SafeOps.quiet0 E_good rfl rfl rfl (v := V.bool (decide (v91_887 < ((gt a0_1 a1_2).length : Int)))) (.fn rfl) ?_
          refine SafeOps.nil ?_
          repeat (first | refine Safe.seq ?_ | refine Safe.skip ?_ | with_reducible refine thenQ.n ?_ | with_reducible refine blockQ.n ?_)
          refine ifG h (fun hc889 h => ?_) (fun hc889 h => ?_)
          · skip
            refine Safe.condK rfl hc889 ?_
            repeat (first | refine Safe.seq ?_ | refine Safe.skip ?_ | with_reducible refine thenQ.n ?_ | with_reducible refine blockQ.n ?_)
            refine Safe.block ?_
            repeat (first | refine Safe.seq ?_ | refine Safe.skip ?_ | with_reducible refine thenQ.n ?_ | with_reducible refine blockQ.n ?_)
            refine Safe.region ?_
            refine okG h (fun hb890 h => ?_)
            refine SafeOps.quiet0 E_good rfl rfl rfl (v := V.spt 3 (rws api_Instr.cells (gt a0_1 a1_2)) (Int.toNat v91_887) 0) (.idxSlM (f := api_Instr.cells) rfl rfl rfl rfl rfl hb890) ?_
            refine SafeOps.quiet0 E_good rfl rfl rfl (v := V.agg [V.int .i64 ((gt (gt a0_1 a1_2) v91_887).Op), V.int .i64 ((gt (gt a0_1 a1_2) v91_887).A), V.int .i64 ((gt (gt a0_1 a1_2) v91_887).B)]) (.load rfl rfl (.sptM (f := api_Instr.cells) hb890 rfl) rfl) ?_
            refine SafeOps.quiet1 E_good rfl rfl rfl (.alloc rfl rfl) rfl ?_
            refine SafeOps.store (z := Obj.box [V.int .i64 ((gt (gt a0_1 a1_2) v91_887).Op), V.int .i64 ((gt (gt a0_1 a1_2) v91_887).A), V.int .i64 ((gt (gt a0_1 a1_2) v91_887).B)]) E_good rfl rfl rfl rfl rfl rfl rfl (.boxM (c := 3) rfl rfl (Nat.le_of_ble_eq_true rfl) rfl) ?_
            refine SafeOps.nil ?_
            repeat (first | refine Safe.seq ?_ | refine Safe.skip ?_ | with_reducible refine thenQ.n ?_ | with_reducible refine blockQ.n ?_)
            refine Safe.region ?_
            refine SafeOps.quiet0 E_good rfl rfl rfl (v := V.ptr [14] 0 0) (.fn rfl) ?_
            refine SafeOps.quiet0 E_good rfl rfl rfl (v := V.int .i64 ((gt (gt a0_1 a1_2) v91_887).Op)) (.load rfl rfl (.box rfl rfl) rfl) ?_
            refine SafeOps.quiet0 E_good rfl rfl rfl (v := V.bool (((gt (gt a0_1 a1_2) v91_887).Op) == 9)) (.fn rfl) ?_
            refine SafeOps.nil ?_
            repeat (first | refine Safe.seq ?_ | refine Safe.skip ?_ | with_reducible refine thenQ.n ?_ | with_reducible refine blockQ.n ?_)
            refine ifG h (fun hc891 h => ?_) (fun hc891 h => ?_)
            · skip
              refine Safe.condK rfl hc891 ?_
              repeat (first | refine Safe.seq ?_ | refine Safe.skip ?_ | with_reducible refine thenQ.n ?_ | with_reducible refine blockQ.n ?_)
              refine Safe.exit ?_
              repeat (first | with_reducible refine thenQ.e ?_ | with_reducible refine blockQ.x rfl ?_ | with_reducible refine blockQ.y rfl ?_)
              replace h := inr_out h hr888
              repeat (first | refine Safe.skip ?_ | with_reducible refine thenQ.n ?_ | with_reducible refine blockQ.n ?_)
              exact Safe.got (HJ865 (v12_886) h) (.cov ⟨rfl, rfl, (upT_cons (.refl _) (upT_cons (.refl _) (upT_cons (.refl _) (upT_cons (.refl _) upT_nil)))), upOb_nil, upOut_nil, rfl⟩)
            · skip
              refine Safe.condN rfl hc891 ?_
              repeat (first | refine Safe.seq ?_ | refine Safe.skip ?_ | with_reducible refine thenQ.n ?_ | with_reducible refine blockQ.n ?_)
              refine Safe.region ?_
              refine SafeOps.quiet0 E_good rfl rfl rfl (v := V.ptr [14] 0 0) (.fn rfl) ?_
              refine SafeOps.quiet0 E_good rfl rfl rfl (v := V.int .i64 ((gt (gt a0_1 a1_2) v91_887).Op)) (.load rfl rfl (.box rfl rfl) rfl) ?_
              refine SafeOps.quiet0 E_good rfl rfl rfl (v := V.bool (((gt (gt a0_1 a1_2) v91_887).Op) == 2)) (.fn rfl) ?_
              refine SafeOps.nil ?_
              repeat (first | refine Safe.seq ?_ | refine Safe.skip ?_ | with_reducible refine thenQ.n ?_ | with_reducible refine blockQ.n ?_)
              refine ifG h (fun hc892 h => ?_) (fun hc892 h => ?_)
              · skip
                refine Safe.condK rfl hc892 ?_
                repeat (first | refine Safe.seq ?_ | refine Safe.skip ?_ | with_reducible refine thenQ.n ?_ | with_reducible refine blockQ.n ?_)
                refine Safe.region ?_
                refine SafeOps.quiet0 E_good rfl rfl rfl (v := V.sl 1 (rws (fun l => [V.sl 3 (rws api_Instr.cells l)]) a0_1)) (.fn rfl) ?_
                refine SafeOps.quiet0 E_good rfl rfl rfl (v := V.ptr [14] 0 1) (.fn rfl) ?_
                refine SafeOps.quiet0 E_good rfl rfl rfl (v := V.int .i64 ((gt (gt a0_1 a1_2) v91_887).A)) (.load rfl rfl (.box rfl rfl) rfl) ?_
                refine bindG h ?_
                rintro ⟨x_893, x_894⟩ he895 h
                refine SafeOps.quiet0 E_good rfl rfl rfl (v := V.tup [V.int .i64 x_893, V.int .i64 x_894]) (.callP rfl rfl (go_drain_Full_sc a0_1 ((gt (gt a0_1 a1_2) v91_887).A) _ he895) rfl) ?_
                refine SafeOps.quiet0 E_good rfl rfl rfl (v := V.tup [V.int .i64 x_893, V.int .i64 x_894]) (.fn rfl) ?_
                refine SafeOps.quiet0 E_good rfl rfl rfl (v := V.int .i64 x_893) (.fn rfl) ?_
                refine SafeOps.quiet0 E_good rfl rfl rfl (v := V.int .i64 x_894) (.fn rfl) ?_
                refine SafeOps.quiet0 E_good rfl rfl rfl (v := V.int .i64 x_893) (.fn rfl) ?_
                refine SafeOps.quiet0 E_good rfl rfl rfl (v := V.int .i64 x_894) (.fn rfl) ?_
                refine SafeOps.nil ?_
                repeat (first | refine Safe.seq ?_ | refine Safe.skip ?_ | with_reducible refine thenQ.n ?_ | with_reducible refine blockQ.n ?_)
                refine Safe.region ?_
                refine SafeOps.quiet0 E_good rfl rfl rfl (v := V.int .i64 x_894) (.fn rfl) ?_
                refine SafeOps.quiet0 E_good rfl rfl rfl (v := V.bool (x_894 != 0)) (.fn rfl) ?_
                refine SafeOps.nil ?_
                repeat (first | refine Safe.seq ?_ | refine Safe.skip ?_ | with_reducible refine thenQ.n ?_ | with_reducible refine blockQ.n ?_)
                refine ifG h (fun hc896 h => ?_) (fun hc896 h => ?_)
                · skip
                  refine Safe.condK rfl hc896 ?_
                  repeat (first | refine Safe.seq ?_ | refine Safe.skip ?_ | with_reducible refine thenQ.n ?_ | with_reducible refine blockQ.n ?_)
                  refine Safe.region ?_
                  refine SafeOps.quiet0 E_good rfl rfl rfl (v := V.bool false) (.fn rfl) ?_
                  refine SafeOps.nil ?_
                  repeat (first | refine Safe.seq ?_ | refine Safe.skip ?_ | with_reducible refine thenQ.n ?_ | with_reducible refine blockQ.n ?_)
                  refine Safe.ret ?_
                  repeat (first | with_reducible refine thenQ.r ?_ | with_reducible refine blockQ.r ?_)
                  replace h := inr_out h hr888
                  obtain rfl := Option.some.inj h
                  exact retQ.gen (vs := [V.bool false]) rfl (.tmp (v := V.bool false) rfl .nil) (.free rfl) (by simp) (.inr rfl)
                · skip
                  refine Safe.condN rfl hc896 ?_
                  repeat (first | refine Safe.seq ?_ | refine Safe.skip ?_ | with_reducible refine thenQ.n ?_ | with_reducible refine blockQ.n ?_)
                  refine Safe.region ?_
                  refine SafeOps.quiet0 E_good rfl rfl rfl (v := V.int .i64 v12_886) (.fn rfl) ?_
                  refine SafeOps.quiet0 E_good rfl rfl rfl (v := V.int .i64 x_893) (.fn rfl) ?_
                  refine SafeOps.quiet0 E_good rfl rfl rfl (v := V.int .i64 (IntKind.i64.wrap (v12_886 + x_893))) (.fn rfl) ?_
                  refine SafeOps.quiet0 E_good rfl rfl rfl (v := V.int .i64 (IntKind.i64.wrap (v12_886 + x_893))) (.fn rfl) ?_
                  refine SafeOps.nil ?_
                  repeat (first | refine Safe.seq ?_ | refine Safe.skip ?_ | with_reducible refine thenQ.n ?_ | with_reducible refine blockQ.n ?_)
                  refine Safe.region ?_
                  refine SafeOps.quiet0 E_good rfl rfl rfl (v := V.int .i64 (IntKind.i64.wrap (v91_887 + 1))) (.fn rfl) ?_
                  refine SafeOps.quiet0 E_good rfl rfl rfl (v := V.int .i64 (IntKind.i64.wrap (v91_887 + 1))) (.fn rfl) ?_
                  refine SafeOps.nil ?_
                  repeat (first | refine Safe.seq ?_ | refine Safe.skip ?_ | with_reducible refine thenQ.n ?_ | with_reducible refine blockQ.n ?_)
                  exact ⟨_, next_out h, (.cov ⟨rfl, rfl, (upT_cons (.refl _) (upT_cons (.refl _) (upT_cons (.refl _) (upT_cons (.refl _) (upT_cons (.refl _) (upT_cons (.refl _) (upT_cons (.refl _) (upT_cons (.refl _) upT_nil)))))))), upOb_nil, upOut_nil, rfl⟩)⟩
              · skip
                refine Safe.condN rfl hc892 ?_
                repeat (first | refine Safe.seq ?_ | refine Safe.skip ?_ | with_reducible refine thenQ.n ?_ | with_reducible refine blockQ.n ?_)
                refine Safe.region ?_
                refine SafeOps.quiet0 E_good rfl rfl rfl (v := V.int .i64 (IntKind.i64.wrap (v91_887 + 1))) (.fn rfl) ?_
                refine SafeOps.quiet0 E_good rfl rfl rfl (v := V.int .i64 (IntKind.i64.wrap (v91_887 + 1))) (.fn rfl) ?_
                refine SafeOps.nil ?_
                repeat (first | refine Safe.seq ?_ | refine Safe.skip ?_ | with_reducible refine thenQ.n ?_ | with_reducible refine blockQ.n ?_)
                exact ⟨_, next_out h, (.cov ⟨rfl, rfl, (upT_cons (.refl _) (upT_cons (.refl _) (upT_cons (.refl _) (upT_cons (.refl _) (upT_cons (.refl _) (upT_cons (.refl _) (upT_cons (.refl _) (upT_cons (.refl _) upT_nil)))))))), upOb_nil, upOut_nil, rfl⟩)⟩
          · skip
            refine Safe.condN rfl hc889 ?_
            repeat (first | refine Safe.seq ?_ | refine Safe.skip ?_ | with_reducible refine thenQ.n ?_ | with_reducible refine blockQ.n ?_)
            refine Safe.exit ?_
            repeat (first | with_reducible refine thenQ.e ?_ | with_reducible refine blockQ.x rfl ?_ | with_reducible refine blockQ.y rfl ?_)
            replace h := inr_out h hr888
            repeat (first | refine Safe.skip ?_ | with_reducible refine thenQ.n ?_ | with_reducible refine blockQ.n ?_)
            exact Safe.got (HJ865 (v12_886) h) (.cov ⟨rfl, rfl, (upT_cons (.refl _) (upT_cons (.refl _) (upT_cons (.refl _) (upT_cons (.refl _) upT_nil)))), upOb_nil, upOut_nil, rfl⟩)
end Go.Proofs.Ytmobjkihhbnkhaa
