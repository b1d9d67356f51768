/- Helper lemmas for the claim's theorem: an abstract machine over the model, proved sound; no condition beyond each lemma's own. -/
import Derived.Test.YtmlcinmdkhmjhaaGreatL20cn
set_option linter.unusedVariables false
set_option linter.unusedSimpArgs false
set_option linter.unnecessarySimpa false
set_option linter.unusedSectionVars false
namespace Go.Proofs.YtmlcinmdkhmjhaaGreat
open Go Go.AM
set_option maxRecDepth 100000
set_option maxHeartbeats 1000000
set_option linter.unusedVariables false
set_option linter.unusedSimpArgs false
def handOk (h:api_Hand):Bool:=api_Hand.beq h api_Hand.zero||(r07_May h&&(h.State==0))
theorem hand_eq (h:api_Hand):crew_hand h=some (handOk h):=by
 unfold crew_hand handOk
 rw [if_pos (by omega)]
 have e3:List.replicate (Int.toNat 3) (0:Int)=[0,0,0]:=rfl
 rw [e3]
 cases hm:r07_May h with
 | false =>
  have hmay:ring_may h=false:=by rw [may_eq];exact hm
  rw [ring_Step,hmay,if_pos (by simp)]
  simp
 | true =>
  by_cases hs:h.State=0
  ·obtain ⟨K,Pc,V,T,B,W,S⟩:=h
   simp only at hs
   subst hs
   obtain ⟨m,h',e,h1,h2⟩:=step_fin hm
   rw [h1,Option.bind_some]
   have:(e != 1)=true:=by rcases h2 with rfl|rfl<;>rfl
   simp [this]
  ·have hmay:ring_may h=true:=by rw [may_eq];exact hm
   rw [ring_Step,hmay,check_yes q0_ok,if_neg (by simp),if_pos (by simpa using hs)]
   simp [hs]
theorem holds_same (c:api_Config) (w:api_World) {id:Int} (h:i64ok id) (s:Int):crew_checker_holds ⟨c,w⟩ id s=r20_holds w id s:=by
 unfold crew_checker_holds r20_holds
 rw [find_same w.Ids h]
theorem find_is {p:api_Places} (hp:ckSlot p=true) (id:Int):∃i e,r05_Find p id=some (i,e)∧(e=0→0≤i∧i < p.Gen.length∧0≤id):=by
 have hs:=ckSlot_is hp
 unfold r05_Find
 rw [rslot_eq,hp,Option.bind_some]
 by_cases h1:id < 0
 ·rw [if_pos (by simp;omega)];exact ⟨_,_,rfl,fun h=>by cases h⟩
 ·rw [if_neg (by simp;omega)]
  have ht:Int.tmod id 256=id % 256:=Int.tmod_eq_emod_of_nonneg (by omega)
  by_cases h2:(Int.tmod id 256)≥(p.Gen.length:Int)
  ·rw [if_pos (by simpa using h2)];exact ⟨_,_,rfl,fun h=>by cases h⟩
  ·have hr:0≤(Int.tmod id 256)∧(Int.tmod id 256) < (p.Gen.length:Int):=by omega
   rw [if_neg (by simpa using h2),if_pos hr]
   split
   ·exact ⟨_,_,rfl,fun h=>by cases h⟩
   ·split
    ·exact ⟨_,_,rfl,fun h=>by cases h⟩
    ·rw [if_pos (by omega)]
     split
     ·exact ⟨_,_,rfl,fun h=>by cases h⟩
     ·exact ⟨_,_,rfl,fun _=>by omega⟩
noncomputable def holdsB (w:api_World) (id s:Int):Bool:=(r20_holds w id s).getD false
theorem holds_is {w:api_World} (hp:ckSlot w.Ids=true) (hT:w.T.length=w.Ids.Gen.length) (id s:Int):r20_holds w id s=some (holdsB w id s)∧(holdsB w id s=true→id≥-1):=by
 have key:∃b,r20_holds w id s=some b∧(b=true→id≥-1):=by
  unfold r20_holds
  by_cases h1:id=-1
  ·rw [if_pos (by simpa using h1)];exact ⟨_,rfl,fun _=>by omega⟩
  ·rw [if_neg (by simpa using h1)]
   obtain ⟨i,e,h2,h3⟩:=find_is hp id
   rw [h2,Option.bind_some]
   by_cases he:e=0
   ·have:=h3 he
    simp only
    rw [if_pos (by simpa using he),if_pos (by omega)]
    exact ⟨_,rfl,fun _=>by omega⟩
   ·simp only
    rw [if_neg (by simpa using he)]
    exact ⟨_,rfl,fun h=>by cases h⟩
 obtain ⟨b,h1,h2⟩:=key
 unfold holdsB
 rw [h1]
 exact ⟨rfl,h2⟩
def doIs (d is:Int):Bool:=(((is==3)==(d==9))&&((is==2)==((d==7)||(d==8))))&&((is==1)==(d==5))
theorem want_eq {d is:Int} (h:0≤is∧is≤3):((mget (mput (mput (mput (mput [] 5 1) 7 2) 8 2) 9 3) d).getD 0==is)=doIs d is:=by
 have e:mput (mput (mput (mput ([]:List (Int×Int)) 5 1) 7 2) 8 2) 9 3=[(5,1),(7,2),(8,2),(9,3)]:=rfl
 rw [e]
 unfold doIs
 have hq:is=0∨is=1∨is=2∨is=3:=by omega
 by_cases h5:d=5
 ·subst h5;rcases hq with rfl|rfl|rfl|rfl<;>rfl
 ·by_cases h7:d=7
  ·subst h7;rcases hq with rfl|rfl|rfl|rfl<;>rfl
  ·by_cases h8:d=8
   ·subst h8;rcases hq with rfl|rfl|rfl|rfl<;>rfl
   ·by_cases h9:d=9
    ·subst h9;rcases hq with rfl|rfl|rfl|rfl<;>rfl
    ·have:mget [((5:Int),(1:Int)),(7,2),(8,2),(9,3)] d=none:=by simp [mget,Ne.symm h5,Ne.symm h7,Ne.symm h8,Ne.symm h9,h5,h7,h8,h9]
     rw [this]
     rcases hq with rfl|rfl|rfl|rfl<;>simp [h5,h7,h8,h9]
def askOk (c:api_Config) (x:api_Worker):Bool:=!x.Ask.any (fun k=>!(crew_within k 0 (IntKind.i64.wrap (c.Workers - 1))))
noncomputable def workOk (c:api_Config) (w:api_World) (i:Nat):Bool :=
 let x:=gt w.W (i:Int)
 crew_within x.Do 0 13&&(handOk x.Hand&&(crew_within x.At 0 c.Workers&&(!decide ((x.Ask.length:Int) > 64)&&(askOk c x&&(crew_within x.Left 0 c.Budget&&(crew_within x.Spill 0 c.Cap&&(holdsB w x.Task 2&&(holdsB w x.Kid 1&&doIs x.Do (gt w.Idle.Is (i:Int))))))))))
theorem worker_eq {c:api_Config} {w:api_World} (hp:ckSlot w.Ids=true) (hT:w.T.length=w.Ids.Gen.length) (hI:w.Idle.Is.length=w.W.length) (h4:w.Idle.Is.all inFour=true) (hid:∀x∈w.W,i64ok x.Task∧i64ok x.Kid) {i:Nat} (hi:i < w.W.length) :
 crew_checker_worker ⟨c,w⟩ (i:Int)=some (workOk c w i):=by
 have hx:=hid _ (List.getElem_mem hi)
 have his:0≤gt w.Idle.Is (i:Int)∧gt w.Idle.Is (i:Int)≤3:=by
  have:=List.all_eq_true.1 h4 _ (List.getElem_mem (by omega:i < w.Idle.Is.length))
  rw [gt_nat (by omega)]
  simpa [inFour] using this
 unfold crew_checker_worker workOk
 simp only
 rw [if_pos (by omega),if_pos (by omega),hand_eq,Option.bind_some]
 rw [←gt_nat hi] at hx
 generalize hg:gt w.W (i:Int)=x at hx ⊢
 have hj7:∀b:Bool,crew_checker_worker_j7 ⟨c,w⟩ (i:Int) b=some (!b&&(crew_within x.At 0 c.Workers&&(!decide ((x.Ask.length:Int) > 64)&&(askOk c x&&(crew_within x.Left 0 c.Budget&&(crew_within x.Spill 0 c.Cap&&(holdsB w x.Task 2&&(holdsB w x.Kid 1&&doIs x.Do (gt w.Idle.Is (i:Int)))))))))):=by
  intro b
  rw [crew_checker_worker_j7]
  simp only [hg]
  cases b with
  | true=>rfl
  | false =>
   cases hA:crew_within x.At 0 c.Workers with
   | false=>rfl
   | true =>
    cases hL:decide ((x.Ask.length:Int) > 64) with
    | true=>rfl
    | false =>
     rw [decide_eq_false_iff_not] at hL
     rw [if_neg (by simp)]
     have j12:∀b:Bool,crew_checker_worker_j12 ⟨c,w⟩ (i:Int) b=some (!b&&(holdsB w x.Kid 1&&doIs x.Do (gt w.Idle.Is (i:Int)))):=by
      intro b
      rw [crew_checker_worker_j12]
      simp only [hg]
      cases b with
      | true=>rfl
      | false =>
       rw [if_neg (by simp),holds_same c w hx.2,(holds_is hp hT x.Kid 1).1,Option.bind_some,want_eq his]
       cases holdsB w x.Kid 1<;>rfl
     have j11:∀v:Int,crew_checker_worker_j11 ⟨c,w⟩ (i:Int) v=some (!decide (v≥0)&&(crew_within x.Left 0 c.Budget&&(crew_within x.Spill 0 c.Cap&&(holdsB w x.Task 2&&(holdsB w x.Kid 1&&doIs x.Do (gt w.Idle.Is (i:Int))))))):=by
      intro v
      rw [crew_checker_worker_j11]
      simp only [hg]
      cases hv:decide (v≥0) with
      | true=>rfl
      | false =>
       rw [if_neg (by simp)]
       cases hl:crew_within x.Left 0 c.Budget with
       | false=>rw [if_pos (by simp),j12];rfl
       | true =>
        cases hs:crew_within x.Spill 0 c.Cap with
        | false=>rw [if_pos (by simp),j12];rfl
        | true =>
         rw [if_neg (by simp),holds_same c w hx.1,(holds_is hp hT x.Task 2).1,Option.bind_some,j12]
         cases holdsB w x.Task 2<;>rfl
     rw [whileO_seek (step:=crew_checker_worker_s13 ⟨c,w⟩ (i:Int)) (fun k=>!(crew_within k 0 (IntKind.i64.wrap (c.Workers - 1)))) x.Ask (fun k=>crew_checker_worker_j11 ⟨c,w⟩ (i:Int) (k:Int)) (crew_checker_worker_j11 ⟨c,w⟩ (i:Int) (-1)) (by omega)]
     ·have e1:(fun k:Nat=>crew_checker_worker_j11 ⟨c,w⟩ (i:Int) (k:Int))=fun _=>some false:=by
       funext k
       rw [j11,show decide ((k:Int)≥0)=true by simp];rfl
      rw [e1,seek_any,j11]
      unfold askOk
      cases x.Ask.any (fun k=>!(crew_within k 0 (IntKind.i64.wrap (c.Workers - 1))))<;>rfl
     ·intro k hk
      rw [crew_checker_worker_s13]
      simp only [hg]
      rw [if_pos (by simpa using hk),if_pos (by omega)]
     ·rw [crew_checker_worker_s13]
      simp only [hg]
      rw [if_neg (by simp)]
 cases hd:crew_within x.Do 0 13 with
 | false=>rw [if_pos (by simp),hj7];rfl
 | true =>
  rw [if_neg (by simp),hj7]
  cases handOk x.Hand<;>rfl
end Go.Proofs.YtmlcinmdkhmjhaaGreat
namespace Go.Proofs.YtmlcinmdkhmjhaaGreat
open Go Go.AM
set_option maxRecDepth 100000
set_option maxHeartbeats 1000000
set_option linter.unusedVariables false
set_option linter.unusedSimpArgs false
def dupC (w:api_World) (i k:Nat):Bool :=
 (((decide (((gt w.W (i:Int)).Task)≥0))&&((((k:Int) != (i:Int))&&(((gt w.W (k:Int)).Task)==((gt w.W (i:Int)).Task)))||(((gt w.W (k:Int)).Kid)==((gt w.W (i:Int)).Task))))||(((decide (((gt w.W (i:Int)).Kid)≥0))&&((k:Int) != (i:Int)))&&(((gt w.W (k:Int)).Kid)==((gt w.W (i:Int)).Kid))))
def dupAt (w:api_World) (i:Nat):Bool:=(List.range w.W.length).any (dupC w i)
theorem rworker_eq {c:api_Config} {w:api_World} (hp:ckSlot w.Ids=true) (hT:w.T.length=w.Ids.Gen.length) (hI:w.Idle.Is.length=w.W.length) (hl:w.W.length≤1000000) {i:Nat} (hi:i < w.W.length) :
 r20_worker c w (i:Int)=some (workOk c w i&&!dupAt w i):=by
 unfold r20_worker workOk
 rw [if_pos (by omega),if_pos (by omega)]
 have hin:r20_in=crew_within:=rfl
 rw [hin]
 generalize hg:gt w.W (i:Int)=x
 simp only
 unfold handOk
 cases hd:crew_within x.Do 0 13 with
 | false=>rfl
 | true =>
  cases hb:api_Hand.beq x.Hand api_Hand.zero||(r07_May x.Hand&&(x.Hand.State==0)) with
  | false =>
   rw [if_pos]
   ·rfl
   ·rw [Bool.or_eq_false_iff] at hb
    rw [hb.1]
    cases hm:r07_May x.Hand with
    | false=>simp
    | true =>
     rw [hm,Bool.true_and] at hb
     have:(x.Hand.State != 0)=true:=by rw [bne,hb.2];rfl
     simp [this]
  | true =>
   have hnb:((!(api_Hand.beq x.Hand api_Hand.zero))&&((!(r07_May x.Hand))||((x.Hand.State) != 0)))=false:=by
    rw [bne]
    cases h1:api_Hand.beq x.Hand api_Hand.zero with
    | true=>rfl
    | false =>
     rw [h1,Bool.false_or,Bool.and_eq_true] at hb
     rw [hb.1,hb.2];rfl
   rw [hnb]
   cases hA:crew_within x.At 0 c.Workers with
   | false=>rfl
   | true =>
    cases hL:decide ((x.Ask.length:Int) > 64) with
    | true=>rfl
    | false =>
     cases hl2:crew_within x.Left 0 c.Budget with
     | false=>simp
     | true =>
      cases hs:crew_within x.Spill 0 c.Cap with
      | false=>simp
      | true =>
       rw [decide_eq_false_iff_not] at hL
       rw [if_neg (by simp)]
       have hfin:(r20_holds w x.Task 2).bind (fun x640=>if x640=true then (r20_holds w x.Kid 1).bind fun x641=>r20_worker_j5 w (i:Int) x641 else r20_worker_j5 w (i:Int) false)=some (holdsB w x.Task 2&&(holdsB w x.Kid 1&&doIs x.Do (gt w.Idle.Is (i:Int)))):=by
        rw [(holds_is hp hT x.Task 2).1,Option.bind_some]
        have j5:∀b,r20_worker_j5 w (i:Int) b=some (b&&doIs x.Do (gt w.Idle.Is (i:Int))):=by
         intro b
         rw [r20_worker_j5,hg]
         unfold doIs
         cases b<;>rfl
        cases holdsB w x.Task 2 with
        | false=>rw [if_neg (by simp),j5];rfl
        | true=>rw [if_pos rfl,(holds_is hp hT x.Kid 1).1,Option.bind_some,j5];rfl
       have h4:whileO (r20_worker_s4 w (i:Int)) 0=if dupAt w i=true then some false else some (holdsB w x.Task 2&&(holdsB w x.Kid 1&&doIs x.Do (gt w.Idle.Is (i:Int)))):=by
        rw [whileO_seek (step:=r20_worker_s4 w (i:Int)) (dupC w i) (List.range w.W.length) (fun _=>some false) (some (holdsB w x.Task 2&&(holdsB w x.Kid 1&&doIs x.Do (gt w.Idle.Is (i:Int))))) (by simp;omega),seek_any]
        ·rfl
        ·intro k hk
         rw [List.length_range] at hk
         have hgi:gt (List.range w.W.length) (k:Int)=k:=by rw [gt_nat (by simpa using hk),List.getElem_range]
         rw [hgi,r20_worker_s4,if_pos (by simpa using hk),if_pos (by omega)];rfl
        ·rw [List.length_range,r20_worker_s4,if_neg (by simp),hg,hfin]
       rw [whileO_seek (step:=r20_worker_s2 c w (i:Int)) (fun k=>!(crew_within k 0 (IntKind.i64.wrap (c.Workers - 1)))) x.Ask (fun _=>some false) (whileO (r20_worker_s4 w (i:Int)) 0) (by omega),seek_any,h4]
       ·unfold askOk
        cases x.Ask.any (fun k=>!(crew_within k 0 (IntKind.i64.wrap (c.Workers - 1)))) with
        | true=>rfl
        | false =>
         cases dupAt w i with
         | true=>simp
         | false=>simp
       ·intro k hk
        rw [r20_worker_s2,hg,if_pos (by simpa using hk),if_pos (by omega),hin]
       ·rw [r20_worker_s2,hg,if_neg (by simp)]
end Go.Proofs.YtmlcinmdkhmjhaaGreat
