/- Helper lemmas for the claim's theorem: an abstract machine over the model, proved sound; no condition beyond each lemma's own. -/
import Derived.Test.YtmlcinmdkhmjhaaGreatL20cz
set_option linter.unusedVariables false
set_option linter.unusedSimpArgs false
set_option linter.unnecessarySimpa false
set_option linter.unusedSectionVars false
namespace Go.Proofs.YtmlcinmdkhmjhaaGreat
open Go Go.AM
set_option maxRecDepth 100000
set_option maxHeartbeats 1000000
set_option linter.unusedVariables false
set_option linter.unusedSimpArgs false
def c0:api_Config:=w20_plain 1
theorem c0_progs:poks c0.Progs:=⟨by decide,fun p hp=>by
 simp [c0,w20_plain] at hp;subst hp
 exact ⟨by simp,by simp,fun x hx=>by simp at hx;subst hx;unfold i64ok;simp⟩⟩
theorem c0_ok:cok c0:=⟨c0_progs,by decide,by decide,by decide⟩
theorem c0_cfg:cfgOk c0:=⟨by decide,by decide,by decide,by decide,by decide,by decide,by decide,by decide,by decide,by decide,by decide⟩
theorem c0_entry:entry_Config c0=some 0:=by
 obtain ⟨r1,h1⟩:=lodgeNew_eq c0_ok.ws c0_ok.qs
 unfold entry_Config
 rw [if_neg (by decide),checkAll_eq c0_progs,h1,sems_eq c0_ok.sems,far_eq c0_ok]
 have e1:ckAll c0.Progs=true:=by decide
 have e2:nwE c0.Weights c0.Quotas=0:=c0_cfg.n
 have e3:c0.Sems.any oddS=false:=by decide
 have e4:(c0.Progs.any fun p=>p.any (farC c0))=false:=by decide
 rw [e1,e2,e3,e4]
 simp
def W1:api_World :=
 { begin c0 with Ids:=api_Places.mk [0,0,0] [true,false,false],T:=[api_Task.mk 0 0 0 0 0 (A4_Int.mk (-1) (-1) (-1) (-1)) 1 0,api_Task.zero,api_Task.zero],Ten:=[api_Tenant.mk 1 1 1 0 0],Seen:=[api_Event.mk 1 0 0] }
theorem holds_none (w:api_World) (s:Int):holdsB w (-1) s=true:=by unfold holdsB r20_holds;rfl
theorem work_fresh {w:api_World} (hW:w.W=[r20_Fresh]) (hI:w.Idle.Is=[0]):anyW c0 w=false:=by
 unfold anyW
 rw [hW]
 have h:workOk c0 w 0=true:=by
  unfold workOk
  rw [hW,hI]
  have e1:(gt [r20_Fresh] ((0:Nat):Int)).Task=-1:=rfl
  have e2:(gt [r20_Fresh] ((0:Nat):Int)).Kid=-1:=rfl
  simp only [e1,e2,holds_none]
  rfl
 have h2:crewDup w 0=false:=by
  unfold crewDup seenW
  rw [hW];rfl
 show ([0]:List Nat).any (fun i=>!workOk c0 w i||crewDup w i)=false
 simp [h,h2]
theorem heap0:heap_Check []=some 0:=by
 unfold heap_Check;rw [if_neg (by decide)];exact whileO_inr rfl
theorem check0:crew_Check c0 (begin c0)=some 0:=by
 have f:fewW (begin c0):=⟨by decide,by decide,by decide,by decide,by decide,by decide,fun x hx=>by
  have:x=r20_Fresh:=by simpa [begin,c0,w20_plain] using hx
  subst this;unfold i64ok;decide⟩
 rw [crew_yes (out:=[[]]) (fun p hp=>(c0_progs.2 p hp).2) c0_entry heap0 f ⟨rfl,rfl,rfl,rfl,rfl,rfl,rfl,rfl,rfl,rfl,rfl,rfl,rfl,rfl,rfl,rfl,rfl,rfl,rfl,by decide,by decide,rfl⟩,work_fresh rfl rfl]
 have a:anyT c0 (begin c0)=false:=rfl
 have b:anyL (begin c0) [[]]=false:=rfl
 rw [a,b];rfl
theorem check1:crew_Check c0 W1=some 0:=by
 have f:fewW W1:=⟨by decide,by decide,by decide,by decide,by decide,by decide,fun x hx=>by
  have:x=r20_Fresh:=by simpa [W1,begin,c0,w20_plain] using hx
  subst this;unfold i64ok;decide⟩
 rw [crew_yes (out:=[[]]) (fun p hp=>(c0_progs.2 p hp).2) c0_entry heap0 f ⟨rfl,rfl,rfl,rfl,rfl,rfl,rfl,rfl,rfl,rfl,rfl,rfl,rfl,rfl,rfl,rfl,rfl,rfl,rfl,by decide,by decide,rfl⟩,work_fresh rfl rfl]
 have a:anyT c0 W1=false:=rfl
 have b:anyL W1 [[]]=false:=rfl
 rw [a,b];rfl
theorem own0:crew_own (begin c0)=some (begin c0):=by
 have h2:∀step:Int×List api_Worker→Option ((Int×List api_Worker) ⊕ api_World),step=crew_own_s3 (begin c0) [] (begin c0).T (begin c0).Mem (begin c0).Ten [] [] [] (begin c0).W [] (begin c0).Ids.Gen (begin c0).Ids.Live (begin c0).Lists.Next (begin c0).Lists.Head (begin c0).Lists.Tail (begin c0).Idle.Is (begin c0).Idle.Stack []→whileO step (0,(begin c0).W)=some (begin c0):=fun step e=>by
  subst e
  rw [whileO_inl (s':=(1,(begin c0).W)) rfl];exact whileO_inr rfl
 have h3:crew_own (begin c0)=whileO (crew_own_s2 (begin c0) [] (begin c0).T (begin c0).Mem (begin c0).Ten [] [] [] [] (begin c0).W [] (begin c0).Ids.Gen (begin c0).Ids.Live (begin c0).Lists.Next (begin c0).Lists.Head (begin c0).Lists.Tail (begin c0).Idle.Is (begin c0).Idle.Stack) (0,[]):=rfl
 rw [h3]
 refine whileO_inr ?_
 rw [crew_own_s2,if_neg (by decide),h2 _ rfl];rfl
theorem own1:crew_own W1=some W1:=by
 have h2:∀step:Int×List api_Worker→Option ((Int×List api_Worker) ⊕ api_World),step=crew_own_s3 W1 [] W1.T W1.Mem W1.Ten [] [] [] W1.W W1.Seen W1.Ids.Gen W1.Ids.Live W1.Lists.Next W1.Lists.Head W1.Lists.Tail W1.Idle.Is W1.Idle.Stack []→whileO step (0,W1.W)=some W1:=fun step e=>by
  subst e
  rw [whileO_inl (s':=(1,W1.W)) rfl];exact whileO_inr rfl
 have h3:crew_own W1=whileO (crew_own_s2 W1 [] W1.T W1.Mem W1.Ten [] [] [] [] W1.W W1.Seen W1.Ids.Gen W1.Ids.Live W1.Lists.Next W1.Lists.Head W1.Lists.Tail W1.Idle.Is W1.Idle.Stack) (0,[]):=rfl
 rw [h3]
 refine whileO_inr ?_
 rw [crew_own_s2,if_neg (by decide),h2 _ rfl];rfl
theorem spawn0:crew_Spawn c0 (begin c0) 0 0=some (0,W1,0):=by
 have hl:lodge_Admit (begin c0).Ten 0=some ([api_Tenant.mk 1 1 1 0 0],0):=by
  unfold lodge_Admit lodge_change_1225;rw [ten_eq];rfl
 have ht:slot_Take (begin c0).Ids=some (0,api_Places.mk [0,0,0] [true,false,false],0):=by
  unfold slot_Take;rw [slot_eq]
  exact whileO_inr rfl
 have hn:life_New 0 0 0=some (api_Task.mk 0 0 0 0 0 (A4_Int.mk (-1) (-1) (-1) (-1)) 1 0,0):=by
  have hk:life_Check (api_Task.mk 0 0 0 0 0 (A4_Int.mk (-1) (-1) (-1) (-1)) 1 0)=some 0:=by rw [check_eq];rfl
  unfold life_New;rw [hk];rfl
 unfold crew_Spawn
 rw [check0,Option.bind_some,if_neg (by decide),own0,Option.bind_some,if_neg (by decide),if_neg (by decide),hl]
 simp only [Option.bind_some]
 rw [if_neg (by decide),ht]
 simp only [Option.bind_some]
 rw [if_neg (by decide),hn]
 simp only [Option.bind_some]
 rw [if_neg (by decide),if_neg (by decide),if_pos (by decide)]
 rfl
theorem spawn1:crew_Spawn c0 W1 0 0=some (0,api_World.zero,10):=by
 have hl:lodge_Admit W1.Ten 0=some ([],10):=by
  unfold lodge_Admit lodge_change_1225;rw [ten_eq];rfl
 unfold crew_Spawn
 rw [check1,Option.bind_some,if_neg (by decide),own1,Option.bind_some,if_neg (by decide),if_neg (by decide),hl]
 simp only [Option.bind_some]
 rw [if_pos (by decide)]
 rfl
theorem live_eq:w20_live=some true:=by
 unfold w20_live letO
 show (crew_Start c0).bind _=_
 rw [crew_begin c0_ok c0_entry c0_cfg]
 show (crew_Spawn c0 (begin c0) 0 0).bind _=_
 rw [spawn0]
 show (crew_Spawn c0 W1 0 0).bind _=_
 rw [spawn1]
 simp only [Option.bind_some]
 rw [if_pos (by decide),if_pos (by decide),if_pos (by decide),if_pos (by decide),if_pos (by decide),if_pos (by decide),if_pos (by decide)]
 show (crew_Check c0 W1).bind _=_
 rw [check1];rfl
end Go.Proofs.YtmlcinmdkhmjhaaGreat
namespace Go.Proofs.YtmlcinmdkhmjhaaGreat
open Go Go.AM
set_option maxRecDepth 100000
set_option maxHeartbeats 1000000
set_option linter.unusedVariables false
set_option linter.unusedSimpArgs false
theorem fewC_eq {c:api_Config} (h:c.Progs.length≤9223372036854775807) (ha:∀p∈c.Progs,∀x∈p,i64ok x.A):∃r,r19_FewConfig c=some r∧(r=true→cok c):=by
 obtain ⟨r,h1,h2⟩:=few_poks h ha
 unfold r19_FewConfig
 rw [h1,Option.bind_some]
 refine ⟨_,rfl,fun h=>?_⟩
 simp only [Bool.and_eq_true,decide_eq_true_eq] at h
 exact ⟨(h2 h.1.1.1).1,by omega,by omega,by omega⟩
theorem fewW_eq {w:api_World} (hl:w.W.length≤9223372036854775807) (hs:w.Sems.length≤9223372036854775807) (ht:w.Lists.Tail.length≤9223372036854775807) (hi:∀x∈w.W,i64ok x.Task∧i64ok x.Kid):∃r,r20_Few w=some r∧(r=true→fewW w∧fewA w):=by
 generalize hv:((((((((((((((((decide ((w.Dice.L.length:Int)≤2000))&&(decide ((w.T.length:Int)≤60)))&&(decide ((w.Mem.length:Int)≤400)))&&(decide ((w.Lists.Next.length:Int)≤100)))&&(decide ((w.Lists.Head.length:Int)≤100)))&&(decide ((w.Ten.length:Int)≤40)))&&(decide ((w.Heap.length:Int)≤100)))&&(decide ((w.Fds.length:Int)≤40)))&&(decide ((w.Sems.length:Int)≤20)))&&(decide ((w.Joins.length:Int)≤100)))&&(decide ((w.W.length:Int)≤20)))&&(decide ((w.Idle.Is.length:Int)≤70)))&&(decide ((w.Idle.Stack.length:Int)≤70)))&&(decide ((w.Seen.length:Int)≤2000)))&&(decide ((w.Ids.Gen.length:Int)≤300)))&&(decide ((w.Ids.Live.length:Int)≤300)))=v
 have h4:whileO (r20_Few_s4 w) 0=some (if w.W.any (fun x=>decide ((x.Ask.length:Int) > 100)) then false else v):=by
  rw [whileO_seek (step:=r20_Few_s4 w) (fun x=>decide ((x.Ask.length:Int) > 100)) w.W (fun _=>some false) (some v) hl (fun i hi=>by rw [r20_Few_s4,if_pos (by simpa using hi),if_pos (by omega)]) (by rw [r20_Few_s4,if_neg (by simp),hv]),seek_any]
  split<;>rfl
 have h3:r20_Few w=some (if w.Sems.any (fun x=>decide ((x.Wait.length:Int) > 300)) then false else if w.W.any (fun x=>decide ((x.Ask.length:Int) > 100)) then false else v):=by
  unfold r20_Few
  rw [whileO_seek (step:=r20_Few_s2 w) (fun x=>decide ((x.Wait.length:Int) > 300)) w.Sems (fun _=>some false) (whileO (r20_Few_s4 w) 0) hs (fun i hi=>by rw [r20_Few_s2,if_pos (by simpa using hi),if_pos (by omega)]) (by rw [r20_Few_s2,if_neg (by simp)]),h4,seek_any]
  split<;>rfl
 refine ⟨_,h3,fun h=>?_⟩
 split at h
 ·cases h
 ·rename_i ha
  split at h
  ·cases h
  ·rename_i hb
   subst h
   simp only [Bool.and_eq_true,decide_eq_true_eq] at hv
   rw [Bool.not_eq_true,List.any_eq_false] at ha hb
   have ha':∀x∈w.Sems,x.Wait.length≤9223372036854775807:=fun x hx=>by have:=ha x hx;simp at this;omega
   have hb':∀x∈w.W,x.Ask.length≤9223372036854775807:=fun x hx=>by have:=hb x hx;simp at this;omega
   exact ⟨⟨by omega,by omega,by omega,by omega,by omega,by omega,hi⟩,⟨by omega,by omega,by omega,by omega,by omega,by omega,ht,by omega,by omega,by omega,by omega,ha',by omega,by omega,by omega,by omega,hb',by omega⟩⟩
theorem sameW_refl (a:api_World):sameW a a=true:=by
 have i:∀x:Int,(x==x)=true:=fun x=>by simp
 have b:∀x:Bool,(x==x)=true:=fun x=>by simp
 have t:∀x,api_Task.beq x x=true:=fun x=>by simp [api_Task.beq]
 have n:∀x,api_Tenant.beq x x=true:=fun x=>by simp [api_Tenant.beq]
 have m:∀x,api_Timer.beq x x=true:=fun x=>by simp [api_Timer.beq]
 have f:∀x,api_Fd.beq x x=true:=fun x=>by simp [api_Fd.beq]
 have j:∀x,api_Join.beq x x=true:=fun x=>by simp [api_Join.beq]
 have e:∀x,api_Event.beq x x=true:=fun x=>by simp [api_Event.beq]
 have h:∀x,api_Hand.beq x x=true:=fun x=>by simp [api_Hand.beq]
 have s:∀x,semB x x=true:=fun x=>by unfold semB;rw [sameL_refl i];simp
 have k:∀x,workB x x=true:=fun x=>by unfold workB;rw [sameL_refl i,h];simp
 have d:dice_Same a.Dice a.Dice=true:=by simp [dice_Same,bytes_Equal]
 unfold sameW idsB chB idB heapB
 rw [sameL_refl t,sameL_refl n,sameL_refl m,sameL_refl f,sameL_refl j,sameL_refl e,sameL_refl s,sameL_refl k,d]
 simp only [sameL_refl i,sameL_refl b,i,b,Bool.and_true]
theorem fewA_zero:fewA api_World.zero:=⟨by decide,by decide,by decide,by decide,by decide,by decide,by decide,by decide,by decide,by decide,by decide,fun x hx=>by simp [api_World.zero] at hx,by decide,by decide,by decide,by decide,fun x hx=>by simp [api_World.zero] at hx,by decide⟩
theorem fewA_begin {c:api_Config} (k:cfgOk c):fewA (begin c):=by
 obtain ⟨hb1,hb2⟩:=ten_bounds k.n
 have hw:=k.w2;have ht:=k.t2;have hf:=k.f2;have hm:=k.m;have hs:=k.s
 have hten:(tens c.Weights c.Quotas).length≤1000000:=by unfold tens;rw [List.length_zipWith];omega
 refine ⟨?_,?_,?_,?_,?_,?_,?_,hten,?_,?_,?_,?_,?_,?_,?_,?_,?_,?_⟩<;>simp only [begin,List.length_replicate,List.length_nil,List.length_map]<;>try omega
 ·intro x hx
  obtain ⟨n,_,rfl⟩:=List.mem_map.1 hx
  simp
 ·intro x hx
  have:=List.eq_of_mem_replicate hx
  subst this;decide
theorem crewTells_true {c:api_Config} {w o:api_World} (hcl:c.Progs.length≤9223372036854775807) (hca:∀p∈c.Progs,∀x∈p,i64ok x.A)
 (hW:w.W.length≤9223372036854775807) (hS:w.Sems.length≤9223372036854775807) (hT:w.Lists.Tail.length≤9223372036854775807) (hi:∀x∈w.W,i64ok x.Task∧i64ok x.Kid)
 (hW2:o.W.length≤9223372036854775807) (hS2:o.Sems.length≤9223372036854775807) (hT2:o.Lists.Tail.length≤9223372036854775807) (hi2:∀x∈o.W,i64ok x.Task∧i64ok x.Kid):w20_CrewTells c w o=some true:=by
 obtain ⟨r1,a1,b1⟩:=fewC_eq hcl hca
 obtain ⟨r2,a2,b2⟩:=fewW_eq hW hS hT hi
 obtain ⟨r3,a3,b3⟩:=fewW_eq hW2 hS2 hT2 hi2
 unfold w20_CrewTells
 rw [live_eq,Option.bind_some,a1,Option.bind_some]
 cases r1 with
 | false=>rw [if_pos (by simp),w20_CrewTells_j1,if_pos rfl]
 | true =>
  rw [if_neg (by simp),a2,Option.bind_some]
  cases r2 with
  | false=>rw [w20_CrewTells_j1,if_pos (by simp)]
  | true =>
   rw [w20_CrewTells_j1,if_neg (by simp),a3,Option.bind_some]
   cases r3 with
   | false=>rw [if_pos (by simp)]
   | true =>
    rw [if_neg (by simp)]
    have hc:=b1 rfl
    have hp:∀p∈c.Progs,pok p:=fun p hp=>(hc.progs.2 p hp).2
    obtain ⟨f1,g1⟩:=b2 rfl
    obtain ⟨f2,g2⟩:=b3 rfl
    obtain ⟨s,e,s1,s2,s3⟩:=start_same hc
    have hs:fewA s:=by
     rcases s3 with ⟨rfl,k,_⟩|⟨rfl,_⟩
     ·exact fewA_begin k
     ·exact fewA_zero
    obtain ⟨q,q1,q2,_⟩:=check_same hc hp f1
    rw [s1,s2]
    simp only [Option.bind_some]
    rw [if_pos (by trivial),r20_Same_is hs hs,sameW_refl,Option.bind_some,if_pos (by trivial),if_pos (by simp),q1,q2]
    simp only [Option.bind_some]
    rw [if_pos (by simp),crew_Same_is g1 g2,r20_Same_is g1 g2]
    simp
end Go.Proofs.YtmlcinmdkhmjhaaGreat
