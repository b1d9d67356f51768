/- Helper lemmas for the claim's theorem: an abstract machine over the model, proved sound; no condition beyond each lemma's own. -/
import Derived.Test.YtkkimimkcchlnaaGreatL24to
set_option linter.unusedVariables false
set_option linter.unusedSimpArgs false
set_option linter.unnecessarySimpa false
set_option linter.unusedSectionVars false
namespace Go.Proofs.YtkkimimkcchlnaaGreat
open Go Go.AM
set_option maxRecDepth 100000
set_option maxHeartbeats 1000000
set_option linter.unusedVariables false
set_option linter.unusedSimpArgs false
def dupC (w:api_World) (i k:Nat):Bool :=
 (((decide (((gt w.W (i:Int)).Task)≥0))&&((((k:Int) != (i:Int))&&(((gt w.W (k:Int)).Task)==((gt w.W (i:Int)).Task)))||(((gt w.W (k:Int)).Kid)==((gt w.W (i:Int)).Task))))||(((decide (((gt w.W (i:Int)).Kid)≥0))&&((k:Int) != (i:Int)))&&(((gt w.W (k:Int)).Kid)==((gt w.W (i:Int)).Kid))))
def dupAt (w:api_World) (i:Nat):Bool:=(List.range w.W.length).any (dupC w i)
theorem rworker_eq {c:api_Config} {w:api_World} (hp:ckSlot w.Ids=true) (hT:w.T.length=w.Ids.Gen.length) (hI:w.Idle.Is.length=w.W.length) (hl:w.W.length≤1000000) {i:Nat} (hi:i < w.W.length) :
 r20_worker c w (i:Int)=some (workOk c w i&&!dupAt w i):=by
 unfold r20_worker workOk
 rw [if_pos (by omega),if_pos (by omega)]
 have hin:r20_in=crew_within:=rfl
 rw [hin]
 generalize hg:gt w.W (i:Int)=x
 simp only
 unfold handOk
 cases hd:crew_within x.Do 0 13 with
 | false=>rfl
 | true =>
  cases hb:api_Hand.beq x.Hand api_Hand.zero||(r07_May x.Hand&&(x.Hand.State==0)) with
  | false =>
   rw [if_pos]
   ·rfl
   ·rw [Bool.or_eq_false_iff] at hb
    rw [hb.1]
    cases hm:r07_May x.Hand with
    | false=>simp
    | true =>
     rw [hm,Bool.true_and] at hb
     have:(x.Hand.State != 0)=true:=by rw [bne,hb.2];rfl
     simp [this]
  | true =>
   have hnb:((!(api_Hand.beq x.Hand api_Hand.zero))&&((!(r07_May x.Hand))||((x.Hand.State) != 0)))=false:=by
    rw [bne]
    cases h1:api_Hand.beq x.Hand api_Hand.zero with
    | true=>rfl
    | false =>
     rw [h1,Bool.false_or,Bool.and_eq_true] at hb
     rw [hb.1,hb.2];rfl
   rw [hnb]
   cases hA:crew_within x.At 0 c.Workers with
   | false=>rfl
   | true =>
    cases hL:decide ((x.Ask.length:Int) > 64) with
    | true=>rfl
    | false =>
     cases hl2:crew_within x.Left 0 c.Budget with
     | false=>simp
     | true =>
      cases hs:crew_within x.Spill 0 c.Cap with
      | false=>simp
      | true =>
       rw [decide_eq_false_iff_not] at hL
       rw [if_neg (by simp)]
       have hfin:(r20_holds w x.Task 2).bind (fun x640=>if x640=true then (r20_holds w x.Kid 1).bind fun x641=>r20_worker_j5 w (i:Int) x641 else r20_worker_j5 w (i:Int) false)=some (holdsB w x.Task 2&&(holdsB w x.Kid 1&&doIs x.Do (gt w.Idle.Is (i:Int)))):=by
        rw [(holds_is hp hT x.Task 2).1,Option.bind_some]
        have j5:∀b,r20_worker_j5 w (i:Int) b=some (b&&doIs x.Do (gt w.Idle.Is (i:Int))):=by
         intro b
         rw [r20_worker_j5,hg]
         unfold doIs
         cases b<;>rfl
        cases holdsB w x.Task 2 with
        | false=>rw [if_neg (by simp),j5];rfl
        | true=>rw [if_pos rfl,(holds_is hp hT x.Kid 1).1,Option.bind_some,j5];rfl
       have h4:whileO (r20_worker_s4 w (i:Int)) 0=if dupAt w i=true then some false else some (holdsB w x.Task 2&&(holdsB w x.Kid 1&&doIs x.Do (gt w.Idle.Is (i:Int)))):=by
        rw [whileO_seek (step:=r20_worker_s4 w (i:Int)) (dupC w i) (List.range w.W.length) (fun _=>some false) (some (holdsB w x.Task 2&&(holdsB w x.Kid 1&&doIs x.Do (gt w.Idle.Is (i:Int))))) (by simp;omega),seek_any]
        ·rfl
        ·intro k hk
         rw [List.length_range] at hk
         have hgi:gt (List.range w.W.length) (k:Int)=k:=by rw [gt_nat (by simpa using hk),List.getElem_range]
         rw [hgi,r20_worker_s4,if_pos (by simpa using hk),if_pos (by omega)];rfl
        ·rw [List.length_range,r20_worker_s4,if_neg (by simp),hg,hfin]
       rw [whileO_seek (step:=r20_worker_s2 c w (i:Int)) (fun k=>!(crew_within k 0 (IntKind.i64.wrap (c.Workers - 1)))) x.Ask (fun _=>some false) (whileO (r20_worker_s4 w (i:Int)) 0) (by omega),seek_any,h4]
       ·unfold askOk
        cases x.Ask.any (fun k=>!(crew_within k 0 (IntKind.i64.wrap (c.Workers - 1)))) with
        | true=>rfl
        | false =>
         cases dupAt w i with
         | true=>simp
         | false=>simp
       ·intro k hk
        rw [r20_worker_s2,hg,if_pos (by simpa using hk),if_pos (by omega),hin]
       ·rw [r20_worker_s2,hg,if_neg (by simp)]
end Go.Proofs.YtkkimimkcchlnaaGreat
