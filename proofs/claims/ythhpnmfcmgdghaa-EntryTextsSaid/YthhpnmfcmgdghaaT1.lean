/- Helper lemmas for the claim's theorem: an abstract machine over the model, proved sound; no condition beyond each lemma's own. -/
import Derived.Test.YthhpnmfcmgdghaaT0
set_option linter.unusedVariables false
set_option linter.unusedSimpArgs false
set_option linter.unnecessarySimpa false
set_option linter.unusedSectionVars false
namespace Go.Proofs.Ythhpnmfcmgdghaa
open Go Go.AM
set_option maxRecDepth 100000
set_option maxHeartbeats 1000000
set_option linter.unusedVariables false
set_option linter.unusedSimpArgs false
variable {gl : List (Nat × List V)}
@[ext] structure api_Tenant where
  Weight : Int
  Quota : Int
  Live : Int
  Tag : Int
  Ran : Int
  deriving Inhabited
def api_Tenant.cells (x : api_Tenant) : List V := [V.int .i64 x.Weight, V.int .i64 x.Quota, V.int .i64 x.Live, V.int .i64 x.Tag, V.int .i64 x.Ran]
def api_Tenant.zero : api_Tenant := ⟨0, 0, 0, 0, 0⟩
def api_Tenant.beq (x y : api_Tenant) : Bool := ((x.Weight == y.Weight) && ((x.Quota == y.Quota) && ((x.Live == y.Live) && ((x.Tag == y.Tag) && ((x.Ran == y.Ran) && true)))))

@[ext] structure api_Sem where
  Free : Int
  Wait : List Int
  deriving Inhabited
def api_Sem.cells (x : api_Sem) : List V := [V.int .i64 x.Free, V.sl 1 (rws (fun n => [V.int .i64 n]) x.Wait)]
def api_Sem.zero : api_Sem := ⟨0, []⟩

def go_ravelref19_in (a0_2465 : Int) (a1_2466 : Int) (a2_2467 : Int) : Bool :=
  ((decide (a0_2465 ≥ a1_2466)) && (decide (a0_2465 ≤ a2_2467)))

theorem go_ravelref19_in_sc (a0_2465 : Int) (a1_2466 : Int) (a2_2467 : Int) (r : Bool) (h : go_ravelref19_in a0_2465 a1_2466 a2_2467 = r) : SC Try.prog gl 31 [V.int .i64 a0_2465, V.int .i64 a1_2466, V.int .i64 a2_2467] (V.bool r) := by
  rw [go_ravelref19_in] at h
  refine SC.of E_good Try.func31 rfl (fun _ _ => Try.call31 _ _) rfl ?_
  repeat (first | refine Safe.seq ?_ | refine Safe.skip ?_ | with_reducible refine thenQ.n ?_ | with_reducible refine blockQ.n ?_)
  refine Safe.region ?_
  refine SafeOps.quiet0 E_good rfl rfl rfl (v := V.bool false) (.fn rfl) ?_
  refine SafeOps.nil ?_
  repeat (first | refine Safe.seq ?_ | refine Safe.skip ?_ | with_reducible refine thenQ.n ?_ | with_reducible refine blockQ.n ?_)
  refine Safe.region ?_
  refine SafeOps.quiet0 E_good rfl rfl rfl (v := V.int .i64 a0_2465) (.fn rfl) ?_
  refine SafeOps.quiet0 E_good rfl rfl rfl (v := V.int .i64 a1_2466) (.fn rfl) ?_
  refine SafeOps.quiet0 E_good rfl rfl rfl (v := V.bool (decide (a0_2465 ≥ a1_2466))) (.fn rfl) ?_
  refine SafeOps.quiet0 E_good rfl rfl rfl (v := V.bool (decide (a0_2465 ≥ a1_2466))) (.fn rfl) ?_
  refine SafeOps.bjoin 4 14 (b := ((decide (a0_2465 ≥ a1_2466)) && (decide (a0_2465 ≤ a2_2467)))) (b1 := decide (a0_2465 ≤ a2_2467)) (b0 := false) (fun hc2469 K => ?_) (fun hc2469 K => ?_) bj_and ?_
  · skip
    refine SafeOps.quiet0 E_good (congrArg some hc2469) rfl rfl (v := V.int .i64 a0_2465) (.fn rfl) ?_
    refine SafeOps.quiet0 E_good (congrArg some hc2469) rfl rfl (v := V.int .i64 a2_2467) (.fn rfl) ?_
    refine SafeOps.quiet0 E_good (congrArg some hc2469) rfl rfl (v := V.bool (decide (a0_2465 ≤ a2_2467))) (.fn rfl) ?_
    refine SafeOps.quiet0 E_good rfl rfl rfl (v := V.bool (decide (a0_2465 ≤ a2_2467))) (.pickK rfl hc2469 rfl) ?_
    exact SafeOps.drop' 4 rfl rfl rfl K
  · skip
    refine SafeOps.skip (congrArg some hc2469) rfl rfl ?_
    refine SafeOps.skip (congrArg some hc2469) rfl rfl ?_
    refine SafeOps.skip (congrArg some hc2469) rfl rfl ?_
    refine SafeOps.quiet0 E_good rfl rfl rfl (v := V.bool false) (.pickK rfl hc2469 rfl) ?_
    exact SafeOps.drop' 4 rfl rfl rfl K
  refine SafeOps.quiet0 E_good rfl rfl rfl (v := V.bool ((decide (a0_2465 ≥ a1_2466)) && (decide (a0_2465 ≤ a2_2467)))) (.fn rfl) ?_
  refine SafeOps.nil ?_
  repeat (first | refine Safe.seq ?_ | refine Safe.skip ?_ | with_reducible refine thenQ.n ?_ | with_reducible refine blockQ.n ?_)
  refine Safe.ret ?_
  repeat (first | with_reducible refine thenQ.r ?_ | with_reducible refine blockQ.r ?_)
  obtain rfl := h
  exact retQ.gen (vs := [V.bool ((decide (a0_2465 ≥ a1_2466)) && (decide (a0_2465 ≤ a2_2467)))]) rfl (.tmp (v := V.bool ((decide (a0_2465 ≥ a1_2466)) && (decide (a0_2465 ≤ a2_2467)))) rfl .nil) (.free rfl) (by simp) (.inr rfl)

end Go.Proofs.Ythhpnmfcmgdghaa
