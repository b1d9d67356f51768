/- Helper lemmas for the claim's theorem: an abstract machine over the model, proved sound; no condition beyond each lemma's own. -/
import Derived.Test.YtmlcinmdkhmjhaaGreatL20cz0
set_option linter.unusedVariables false
set_option linter.unusedSimpArgs false
set_option linter.unnecessarySimpa false
set_option linter.unusedSectionVars false
namespace Go.Proofs.YtmlcinmdkhmjhaaGreat
open Go Go.AM
set_option maxRecDepth 100000
set_option maxHeartbeats 1000000
set_option linter.unusedVariables false
set_option linter.unusedSimpArgs false
def sameL {α:Type} (p:α→α→Bool) (a b:List α):Bool:=decide (a.length=b.length)&&!(a.zip b).any (fun q=>!p q.1 q.2)
theorem sameL_refl {α:Type} {p:α→α→Bool} (h:∀x,p x x=true) (a:List α):sameL p a a=true:=by
 unfold sameL
 simp only [decide_true,Bool.true_and,Bool.not_eq_true',List.any_eq_false]
 intro q hq
 have:q.1=q.2:=by
  induction a with
  | nil=>simp at hq
  | cons x r ih=>simp only [List.zip_cons_cons,List.mem_cons] at hq;rcases hq with rfl|hq
                 ·rfl
                 ·exact ih hq
 rw [this,h];simp
theorem same_seek {α K:Type} [Inhabited α] (p:α→α→Bool) {step:Int→Option (Int ⊕ K)} {a b:List α} {no:K} {rest:Option K} (hl:a.length≤9223372036854775807) (he:a.length=b.length)
 (hs:∀i:Nat,i < a.length→i < b.length→step i=if (!(p (gt a i) (gt b i)))=true then inrO (some no) else nextO (IntKind.i64.wrap ((i:Int)+1))) (hend:step (a.length:Int)=inrO rest) :
 whileO step 0=if sameL p a b=true then rest else some no:=by
 have hz:(a.zip b).length=a.length:=by rw [List.length_zip];omega
 rw [whileO_seek (step:=step) (fun q:α×α=>!p q.1 q.2) (a.zip b) (fun _=>some no) rest (by omega) (fun i hi=>?_) (by rw [hz];exact hend),seek_any]
 ·unfold sameL
  cases h:(a.zip b).any fun q=>!p q.1 q.2<;>simp [he]
 ·have h1:i < a.length:=by omega
  have h2:i < b.length:=by omega
  have hg:gt (a.zip b) (i:Int)=(gt a i,gt b i):=by rw [gt_nat hi,gt_nat h1,gt_nat h2,List.getElem_zip]
  rw [hg];exact hs i h1 h2
theorem same_run {α:Type} [Inhabited α] (p:α→α→Bool) {step:Int→Option (Int ⊕ Bool)} {a b:List α} (hl:a.length≤9223372036854775807)
 (hs:∀i:Nat,i < a.length→i < b.length→step i=if (!(p (gt a i) (gt b i)))=true then inrO (some false) else nextO (IntKind.i64.wrap ((i:Int)+1))) (hend:step (a.length:Int)=inrO (some true)) :
 (if ((a.length:Int) != (b.length:Int))=true then some false else whileO step 0)=some (sameL p a b):=by
 by_cases he:a.length=b.length
 ·rw [if_neg (by simp;omega),same_seek p hl he hs hend]
  cases sameL p a b<;>rfl
 ·rw [if_pos (by simp;omega),sameL,decide_eq_false he];rfl
theorem r01_Same_is {a b:List Int} (hl:a.length≤9223372036854775807):r01_Same a b=some (sameL (·==·) a b):=by
 rw [r01_Same]
 refine same_run (·==·) hl (fun i hi hj=>?_) ?_
 ·rw [r01_Same_s1,if_pos (by simpa using hi),if_pos (by omega),if_pos (by omega)]<;>rfl
 ·rw [r01_Same_s1,if_neg (by simp)]
theorem r06_SameInts_is {a b:List Int} (hl:a.length≤9223372036854775807):r06_SameInts a b=some (sameL (·==·) a b):=by
 rw [r06_SameInts]
 refine same_run (·==·) hl (fun i hi hj=>?_) ?_
 ·rw [r06_SameInts_s1,if_pos (by simpa using hi),if_pos (by omega),if_pos (by omega)]<;>rfl
 ·rw [r06_SameInts_s1,if_neg (by simp)]
theorem r18_SameTasks_is {a b:List api_Task} (hl:a.length≤9223372036854775807):r18_SameTasks a b=some (sameL api_Task.beq a b):=by
 rw [r18_SameTasks]
 refine same_run api_Task.beq hl (fun i hi hj=>?_) ?_
 ·rw [r18_SameTasks_s1,if_pos (by simpa using hi),if_pos (by omega),if_pos (by omega)]<;>rfl
 ·rw [r18_SameTasks_s1,if_neg (by simp)]
theorem r14_Same_is {a b:List api_Tenant} (hl:a.length≤9223372036854775807):r14_Same a b=some (sameL api_Tenant.beq a b):=by
 rw [r14_Same]
 refine same_run api_Tenant.beq hl (fun i hi hj=>?_) ?_
 ·rw [r14_Same_s1,if_pos (by simpa using hi),if_pos (by omega),if_pos (by omega)]<;>rfl
 ·rw [r14_Same_s1,if_neg (by simp)]
theorem r08_SameList_is {a b:List api_Timer} (hl:a.length≤9223372036854775807):r08_SameList a b=some (sameL api_Timer.beq a b):=by
 rw [r08_SameList]
 refine same_run api_Timer.beq hl (fun i hi hj=>?_) ?_
 ·rw [r08_SameList_s1,if_pos (by simpa using hi),if_pos (by omega),if_pos (by omega)]<;>rfl
 ·rw [r08_SameList_s1,if_neg (by simp)]
theorem r09_Same_is {a b:List api_Fd} (hl:a.length≤9223372036854775807):r09_Same a b=some (sameL api_Fd.beq a b):=by
 rw [r09_Same]
 refine same_run api_Fd.beq hl (fun i hi hj=>?_) ?_
 ·rw [r09_Same_s1,if_pos (by simpa using hi),if_pos (by omega),if_pos (by omega)]<;>rfl
 ·rw [r09_Same_s1,if_neg (by simp)]
theorem r11_Same_is {a b:List api_Join} (hl:a.length≤9223372036854775807):r11_Same a b=some (sameL api_Join.beq a b):=by
 rw [r11_Same]
 refine same_run api_Join.beq hl (fun i hi hj=>?_) ?_
 ·rw [r11_Same_s1,if_pos (by simpa using hi),if_pos (by omega),if_pos (by omega)]<;>rfl
 ·rw [r11_Same_s1,if_neg (by simp)]
theorem r18_Same_is {a b:List api_Event} (hl:a.length≤9223372036854775807):r18_Same a b=some (sameL api_Event.beq a b):=by
 rw [r18_Same]
 refine same_run api_Event.beq hl (fun i hi hj=>?_) ?_
 ·rw [r18_Same_s1,if_pos (by simpa using hi),if_pos (by omega),if_pos (by omega)]<;>rfl
 ·rw [r18_Same_s1,if_neg (by simp)]
theorem slices_Equal_int64_int64_is {a b:List Int} (hl:a.length≤9223372036854775807):slices_Equal_int64_int64 a b=some (sameL (·==·) a b):=by
 rw [slices_Equal_int64_int64]
 refine same_run (·==·) hl (fun i hi hj=>?_) ?_
 ·rw [slices_Equal_int64_int64_s1,if_pos (by simpa using hi),if_pos (by omega),if_pos (by omega)]<;>rfl
 ·rw [slices_Equal_int64_int64_s1,if_neg (by simp)]
theorem slices_Equal_bool_bool_is {a b:List Bool} (hl:a.length≤9223372036854775807):slices_Equal_bool_bool a b=some (sameL (·==·) a b):=by
 rw [slices_Equal_bool_bool]
 refine same_run (·==·) hl (fun i hi hj=>?_) ?_
 ·rw [slices_Equal_bool_bool_s1,if_pos (by simpa using hi),if_pos (by omega),if_pos (by omega)]<;>rfl
 ·rw [slices_Equal_bool_bool_s1,if_neg (by simp)]
theorem slices_Equal_api_Task_api_Task_is {a b:List api_Task} (hl:a.length≤9223372036854775807):slices_Equal_api_Task_api_Task a b=some (sameL api_Task.beq a b):=by
 rw [slices_Equal_api_Task_api_Task]
 refine same_run api_Task.beq hl (fun i hi hj=>?_) ?_
 ·rw [slices_Equal_api_Task_api_Task_s1,if_pos (by simpa using hi),if_pos (by omega),if_pos (by omega)]<;>rfl
 ·rw [slices_Equal_api_Task_api_Task_s1,if_neg (by simp)]
theorem slices_Equal_api_Mem_int64_is {a b:List Int} (hl:a.length≤9223372036854775807):slices_Equal_api_Mem_int64 a b=some (sameL (·==·) a b):=by
 rw [slices_Equal_api_Mem_int64]
 refine same_run (·==·) hl (fun i hi hj=>?_) ?_
 ·rw [slices_Equal_api_Mem_int64_s1,if_pos (by simpa using hi),if_pos (by omega),if_pos (by omega)]<;>rfl
 ·rw [slices_Equal_api_Mem_int64_s1,if_neg (by simp)]
theorem slices_Equal_int_int_is {a b:List Int} (hl:a.length≤9223372036854775807):slices_Equal_int_int a b=some (sameL (·==·) a b):=by
 rw [slices_Equal_int_int]
 refine same_run (·==·) hl (fun i hi hj=>?_) ?_
 ·rw [slices_Equal_int_int_s1,if_pos (by simpa using hi),if_pos (by omega),if_pos (by omega)]<;>rfl
 ·rw [slices_Equal_int_int_s1,if_neg (by simp)]
theorem slices_Equal_api_Tenant_api_Tenant_is {a b:List api_Tenant} (hl:a.length≤9223372036854775807):slices_Equal_api_Tenant_api_Tenant a b=some (sameL api_Tenant.beq a b):=by
 rw [slices_Equal_api_Tenant_api_Tenant]
 refine same_run api_Tenant.beq hl (fun i hi hj=>?_) ?_
 ·rw [slices_Equal_api_Tenant_api_Tenant_s1,if_pos (by simpa using hi),if_pos (by omega),if_pos (by omega)]<;>rfl
 ·rw [slices_Equal_api_Tenant_api_Tenant_s1,if_neg (by simp)]
theorem slices_Equal_api_Timer_api_Timer_is {a b:List api_Timer} (hl:a.length≤9223372036854775807):slices_Equal_api_Timer_api_Timer a b=some (sameL api_Timer.beq a b):=by
 rw [slices_Equal_api_Timer_api_Timer]
 refine same_run api_Timer.beq hl (fun i hi hj=>?_) ?_
 ·rw [slices_Equal_api_Timer_api_Timer_s1,if_pos (by simpa using hi),if_pos (by omega),if_pos (by omega)]<;>rfl
 ·rw [slices_Equal_api_Timer_api_Timer_s1,if_neg (by simp)]
theorem slices_Equal_api_Fd_api_Fd_is {a b:List api_Fd} (hl:a.length≤9223372036854775807):slices_Equal_api_Fd_api_Fd a b=some (sameL api_Fd.beq a b):=by
 rw [slices_Equal_api_Fd_api_Fd]
 refine same_run api_Fd.beq hl (fun i hi hj=>?_) ?_
 ·rw [slices_Equal_api_Fd_api_Fd_s1,if_pos (by simpa using hi),if_pos (by omega),if_pos (by omega)]<;>rfl
 ·rw [slices_Equal_api_Fd_api_Fd_s1,if_neg (by simp)]
theorem slices_Equal_api_Join_api_Join_is {a b:List api_Join} (hl:a.length≤9223372036854775807):slices_Equal_api_Join_api_Join a b=some (sameL api_Join.beq a b):=by
 rw [slices_Equal_api_Join_api_Join]
 refine same_run api_Join.beq hl (fun i hi hj=>?_) ?_
 ·rw [slices_Equal_api_Join_api_Join_s1,if_pos (by simpa using hi),if_pos (by omega),if_pos (by omega)]<;>rfl
 ·rw [slices_Equal_api_Join_api_Join_s1,if_neg (by simp)]
theorem slices_Equal_api_Event_api_Event_is {a b:List api_Event} (hl:a.length≤9223372036854775807):slices_Equal_api_Event_api_Event a b=some (sameL api_Event.beq a b):=by
 rw [slices_Equal_api_Event_api_Event]
 refine same_run api_Event.beq hl (fun i hi hj=>?_) ?_
 ·rw [slices_Equal_api_Event_api_Event_s1,if_pos (by simpa using hi),if_pos (by omega),if_pos (by omega)]<;>rfl
 ·rw [slices_Equal_api_Event_api_Event_s1,if_neg (by simp)]
def semB (x y:api_Sem):Bool:=(x.Free==y.Free)&&sameL (·==·) x.Wait y.Wait
theorem r10_Same_is {x y:api_Sem} (h:x.Wait.length≤9223372036854775807):r10_Same x y=some (semB x y):=by
 rw [r10_Same,r01_Same_is h,semB];cases x.Free==y.Free<;>rfl
theorem sema_Same_is {x y:api_Sem} (h:x.Wait.length≤9223372036854775807):sema_Same x y=some (semB x y):=by
 rw [sema_Same,slices_Equal_int64_int64_is h,semB];cases x.Free==y.Free<;>rfl
def workB (x y:api_Worker):Bool:=sameL (·==·) x.Ask y.Ask&&(((((((x.Do==y.Do)&&(api_Hand.beq x.Hand y.Hand))&&(x.At==y.At))&&(x.Task==y.Task))&&(x.Left==y.Left))&&(x.Kid==y.Kid))&&(x.Spill==y.Spill))
theorem crew_sameWorker_is {x y:api_Worker} (h:x.Ask.length≤9223372036854775807):crew_sameWorker x y=some (workB x y):=by
 rw [crew_sameWorker,slices_Equal_int_int_is h,workB];cases sameL (·==·) x.Ask y.Ask<;>rfl
theorem r20_sameWorker_is {x y:api_Worker} (h:x.Ask.length≤9223372036854775807):r20_sameWorker x y=some (workB x y):=by
 rw [r20_sameWorker,r06_SameInts_is h,workB]
 generalize sameL (·==·) x.Ask y.Ask=s
 generalize (x.Do==y.Do)=a;generalize api_Hand.beq x.Hand y.Hand=b;generalize (x.At==y.At)=c
 simp only [Option.bind_some,r20_sameWorker_j1]
 cases s<;>cases a<;>cases b<;>cases c<;>simp
theorem sems_is {a b:List api_Sem} (hl:a.length≤9223372036854775807) (h:∀x∈a,x.Wait.length≤9223372036854775807):slices_EqualFunc_api_Sem_api_Sem_api_Sem_api_Sem_Same73 a b=some (sameL semB a b):=by
 rw [slices_EqualFunc_api_Sem_api_Sem_api_Sem_api_Sem_Same73]
 refine same_run semB hl (fun i hi hj=>?_) ?_
 ·rw [slices_EqualFunc_api_Sem_api_Sem_api_Sem_api_Sem_Same73_s1,if_pos (by simpa using hi),if_pos (by omega),if_pos (by omega),sema_Same_is (h _ (by rw [gt_nat hi];exact List.getElem_mem hi))];rfl
 ·rw [slices_EqualFunc_api_Sem_api_Sem_api_Sem_api_Sem_Same73_s1,if_neg (by simp)]
theorem works_is {a b:List api_Worker} (hl:a.length≤9223372036854775807) (h:∀x∈a,x.Ask.length≤9223372036854775807):slices_EqualFunc_api_Worker_api_Worker_api_Worker_api_Worker_sameWorker77 a b=some (sameL workB a b):=by
 rw [slices_EqualFunc_api_Worker_api_Worker_api_Worker_api_Worker_sameWorker77]
 refine same_run workB hl (fun i hi hj=>?_) ?_
 ·rw [slices_EqualFunc_api_Worker_api_Worker_api_Worker_api_Worker_sameWorker77_s1,if_pos (by simpa using hi),if_pos (by omega),if_pos (by omega),crew_sameWorker_is (h _ (by rw [gt_nat hi];exact List.getElem_mem hi))];rfl
 ·rw [slices_EqualFunc_api_Worker_api_Worker_api_Worker_api_Worker_sameWorker77_s1,if_neg (by simp)]
theorem copy_loop {K:Type} {xs:List api_Timer} (hl:xs.length≤900) {step:Int×List api_Timer→Option ((Int×List api_Timer) ⊕ K)} {fin:List api_Timer→Option K}
 (hs:∀(i:Nat) v,i < xs.length→v.length≤900→step (i,v)=if few (v++[gt xs i]).length then nextO (IntKind.i64.wrap ((i:Int)+1),v++[gt xs i]) else none) (he:step ((xs.length:Int),xs)=inrO (fin xs)):whileO step (0,[])=fin xs:=by
 have h:=whileO_run (step:=step) (fun i=>((i:Int),xs.take i)) xs.length (fun i hi=>by
  rw [hs i _ hi (by rw [List.length_take];omega),if_pos (fewN (by simp;omega)),gt_nat hi,w64_nat (by omega),List.take_succ_eq_append_getElem hi];rfl)
 simp only [List.take_zero] at h
 have h0:((0:Int),([]:List api_Timer))=(((0:Nat):Int),[]):=rfl
 rw [h0,h,List.take_of_length_le (Nat.le_refl _)]
 cases hf:fin xs with
 | none=>exact whileO_none (by rw [he,hf];rfl)
 | some k=>exact whileO_inr (by rw [he,hf];rfl)
def heapB (a b:List api_Timer):Bool:=sameL api_Timer.beq (H8.srt a) (H8.srt b)
theorem srt_len (a:List api_Timer):(H8.srt a).length=a.length:=(H8.srt_perm a).length_eq
theorem heap_is {a b:List api_Timer} (ha:a.length≤900) (hb:b.length≤900):heap_Same a b=some (heapB a b):=by
 rw [heap_Same,copy_loop (xs:=a) ha (fin:=fun v=>(sortO heap_order v).bind fun s=>whileO (heap_Same_s16 b s) (0,[])) (fun i v hi hv=>by rw [heap_Same_s8,if_pos (by simpa using hi),if_pos (by omega)]) (by rw [heap_Same_s8,if_neg (by simp)]),H8.sort_is ha,Option.bind_some]
 rw [copy_loop (xs:=b) hb (fin:=fun v=>(sortO heap_order v).bind fun s=>(slices_Equal_api_Timer_api_Timer (H8.srt a) s).bind fun x=>some x) (fun i v hi hv=>by rw [heap_Same_s16,if_pos (by simpa using hi),if_pos (by omega)]) (by rw [heap_Same_s16,if_neg (by simp)]),H8.sort_is hb,Option.bind_some,slices_Equal_api_Timer_api_Timer_is (by rw [srt_len];omega)]
 rfl
theorem rheap_is {a b:List api_Timer} (ha:a.length≤900) (hb:b.length≤900):r08_Same a b=some (heapB a b):=by
 rw [r08_Same,H8.ord_is ha,Option.bind_some,H8.ord_is hb,Option.bind_some,r08_SameList_is (by rw [srt_len];omega)];rfl
structure fewA (w:api_World):Prop where
 gen:w.Ids.Gen.length≤1000000
 live:w.Ids.Live.length≤1000000
 t:w.T.length≤1000000
 mem:w.Mem.length≤1000000
 next:w.Lists.Next.length≤1000000
 head:w.Lists.Head.length≤1000000
 tail:w.Lists.Tail.length≤9223372036854775807
 ten:w.Ten.length≤1000000
 heap:w.Heap.length≤900
 fds:w.Fds.length≤1000000
 sems:w.Sems.length≤1000000
 wait:∀x∈w.Sems,x.Wait.length≤9223372036854775807
 joins:w.Joins.length≤1000000
 is:w.Idle.Is.length≤1000000
 stack:w.Idle.Stack.length≤1000000
 ws:w.W.length≤1000000
 ask:∀x∈w.W,x.Ask.length≤9223372036854775807
 seen:w.Seen.length≤1000000
def idsB (a b:api_Places):Bool:=sameL (·==·) a.Gen b.Gen&&sameL (·==·) a.Live b.Live
def chB (a b:api_Chains):Bool:=sameL (·==·) a.Next b.Next&&sameL (·==·) a.Head b.Head&&sameL (·==·) a.Tail b.Tail
def idB (a b:api_Idle):Bool:=sameL (·==·) a.Is b.Is&&sameL (·==·) a.Stack b.Stack
def sameW (a b:api_World):Bool:=(a.Now==b.Now)&&(a.Down==b.Down)&&dice_Same a.Dice b.Dice&&idsB a.Ids b.Ids&&sameL api_Task.beq a.T b.T&&sameL (·==·) a.Mem b.Mem&&chB a.Lists b.Lists&&sameL api_Tenant.beq a.Ten b.Ten&&heapB a.Heap b.Heap&&sameL api_Fd.beq a.Fds b.Fds&&sameL semB a.Sems b.Sems&&sameL api_Join.beq a.Joins b.Joins&&idB a.Idle b.Idle&&sameL workB a.W b.W&&sameL api_Event.beq a.Seen b.Seen
theorem slot_Same_is {a b:api_Places} (h1:a.Gen.length≤1000000) (h2:a.Live.length≤1000000):slot_Same a b=some (idsB a b):=by
 rw [slot_Same,slices_Equal_int64_int64_is (by omega),slices_Equal_bool_bool_is (by omega),idsB];cases sameL (·==·) a.Gen b.Gen<;>rfl
theorem r05_Same_is {a b:api_Places} (h1:a.Gen.length≤1000000) (h2:a.Live.length≤1000000):r05_Same a b=some (idsB a b):=by
 rw [r05_Same,r01_Same_is (by omega),Option.bind_some,idsB]
 have h:=same_run (·==·) (step:=r05_Same_s1 a b) (a:=a.Live) (b:=b.Live) (by omega) (fun i hi hj=>by rw [r05_Same_s1,if_pos (by simpa using hi),if_pos (by omega),if_pos (by omega)]) (by rw [r05_Same_s1,if_neg (by simp)])
 cases sameL (·==·) a.Gen b.Gen with
 | false=>rfl
 | true=>simp only [Bool.not_true,Bool.false_or,Bool.true_and];exact h
theorem chain_Same_is {a b:api_Chains} (h1:a.Next.length≤1000000) (h2:a.Head.length≤1000000) (h3:a.Tail.length≤9223372036854775807):chain_Same a b=some (chB a b):=by
 simp only [chain_Same,chain_Same_j1,slices_Equal_int_int_is (show a.Next.length≤9223372036854775807 by omega),slices_Equal_int_int_is (show a.Head.length≤9223372036854775807 by omega),slices_Equal_int_int_is h3,chB,Option.bind_some]
 cases sameL (·==·) a.Next b.Next<;>cases sameL (·==·) a.Head b.Head<;>simp
theorem r06_Same_is {a b:api_Chains} (h1:a.Next.length≤1000000) (h2:a.Head.length≤1000000) (h3:a.Tail.length≤9223372036854775807):r06_Same a b=some (chB a b):=by
 simp only [r06_Same,r06_Same_j1,r06_SameInts_is (show a.Next.length≤9223372036854775807 by omega),r06_SameInts_is (show a.Head.length≤9223372036854775807 by omega),r06_SameInts_is h3,chB,Option.bind_some]
 cases sameL (·==·) a.Next b.Next<;>cases sameL (·==·) a.Head b.Head<;>simp
theorem idle_Same_is {a b:api_Idle} (h1:a.Is.length≤1000000) (h2:a.Stack.length≤1000000):idle_Same a b=some (idB a b):=by
 rw [idle_Same,slices_Equal_int_int_is (by omega),slices_Equal_int_int_is (by omega),idB];cases sameL (·==·) a.Is b.Is<;>rfl
theorem r17_Same_is {a b:api_Idle} (h1:a.Is.length≤1000000) (h2:a.Stack.length≤1000000):r17_Same a b=some (idB a b):=by
 rw [r17_Same,r06_SameInts_is (by omega),r06_SameInts_is (by omega),idB];cases sameL (·==·) a.Is b.Is<;>rfl
theorem crew_Same_is {a b:api_World} (f:fewA a) (g:fewA b):crew_Same a b=some (sameW a b):=by
 have h:=f
 obtain ⟨h1,h2,h3,h4,h5,h6,h7,h8,h9,h10,h11,h12,h13,h14,h15,h16,h17,h18⟩:=f
 unfold crew_Same
 simp only [crew_Same_j6,crew_Same_j7,crew_Same_j8,crew_Same_j9,crew_Same_j10,cell_Same,lodge_Same,poll_Same,joins_Same,slot_Same_is h1 h2,slices_Equal_api_Task_api_Task_is (show a.T.length≤9223372036854775807 by omega),slices_Equal_api_Mem_int64_is (show a.Mem.length≤9223372036854775807 by omega),chain_Same_is h5 h6 h7,
  slices_Equal_api_Tenant_api_Tenant_is (show a.Ten.length≤9223372036854775807 by omega),heap_is h9 g.heap,slices_Equal_api_Fd_api_Fd_is (show a.Fds.length≤9223372036854775807 by omega),sems_is (show a.Sems.length≤9223372036854775807 by omega) h12,slices_Equal_api_Join_api_Join_is (show a.Joins.length≤9223372036854775807 by omega),idle_Same_is h14 h15,works_is (show a.W.length≤9223372036854775807 by omega) h17,slices_Equal_api_Event_api_Event_is (show a.Seen.length≤9223372036854775807 by omega),Option.bind_some,bne]
 unfold sameW
 generalize (a.Now==b.Now)=z1
 generalize (a.Down==b.Down)=z2
 generalize dice_Same a.Dice b.Dice=z3
 generalize idsB a.Ids b.Ids=z4
 generalize sameL api_Task.beq a.T b.T=z5
 generalize sameL (·==·) a.Mem b.Mem=z6
 generalize chB a.Lists b.Lists=z7
 generalize sameL api_Tenant.beq a.Ten b.Ten=z8
 generalize heapB a.Heap b.Heap=z9
 generalize sameL api_Fd.beq a.Fds b.Fds=y1
 generalize sameL semB a.Sems b.Sems=y2
 generalize sameL api_Join.beq a.Joins b.Joins=y3
 generalize idB a.Idle b.Idle=y4
 generalize sameL workB a.W b.W=y5
 generalize sameL api_Event.beq a.Seen b.Seen=y6
 cases z1 with
 | false=>rfl
 | true=>cases z2 with
  | false=>rfl
  | true=>cases z3 with
   | false=>rfl
   | true=>cases z4 with
    | false=>rfl
    | true=>cases z5 with
     | false=>rfl
     | true=>cases z6 with
      | false=>rfl
      | true=>cases z7 with
       | false=>rfl
       | true=>cases z8 with
        | false=>rfl
        | true=>cases z9 with
         | false=>rfl
         | true=>cases y1 with
          | false=>rfl
          | true=>cases y2 with
           | false=>rfl
           | true=>cases y3 with
            | false=>rfl
            | true=>cases y4 with
             | false=>rfl
             | true=>cases y5 with
              | false=>rfl
              | true=>cases y6<;>rfl
theorem dice_eq {a b:api_Dice}:r03_Same a b=dice_Same a b:=by unfold r03_Same dice_Same bytes_Equal;exact Bool.and_comm ..
theorem sameL_ne {α:Type} {p:α→α→Bool} {a b:List α} (h:a.length≠b.length):sameL p a b=false:=by rw [sameL,decide_eq_false h];rfl
theorem r20_Same_is {a b:api_World} (f:fewA a) (g:fewA b):r20_Same a b=some (sameW a b):=by
 obtain ⟨h1,h2,h3,h4,h5,h6,h7,h8,h9,h10,h11,h12,h13,h14,h15,h16,h17,h18⟩:=f
 unfold r20_Same
 by_cases hS:a.Sems.length=b.Sems.length
 ·by_cases hW:a.W.length=b.W.length
  ·rw [if_neg (by simp;omega)]
   rw [same_seek semB (step:=r20_Same_s2 a b) (a:=a.Sems) (b:=b.Sems) (no:=false) (rest:=whileO (r20_Same_s4 a b) 0) (by omega) hS (fun i hi hj=>by
    rw [r20_Same_s2,if_pos (by simpa using hi),if_pos (by omega),if_pos (by omega),r10_Same_is (h12 _ (by rw [gt_nat hi];exact List.getElem_mem hi))];rfl) (by rw [r20_Same_s2,if_neg (by simp)])]
   rw [same_seek workB (step:=r20_Same_s4 a b) (a:=a.W) (b:=b.W) (no:=false) (rest:=some ((a.Now==b.Now)&&(a.Down==b.Down)&&dice_Same a.Dice b.Dice&&idsB a.Ids b.Ids&&sameL api_Task.beq a.T b.T&&sameL (·==·) a.Mem b.Mem&&chB a.Lists b.Lists&&sameL api_Tenant.beq a.Ten b.Ten&&heapB a.Heap b.Heap&&sameL api_Fd.beq a.Fds b.Fds&&sameL api_Join.beq a.Joins b.Joins&&idB a.Idle b.Idle&&sameL api_Event.beq a.Seen b.Seen)) (by omega) hW (fun i hi hj=>by
    rw [r20_Same_s4,if_pos (by simpa using hi),if_pos (by omega),if_pos (by omega),r20_sameWorker_is (h17 _ (by rw [gt_nat hi];exact List.getElem_mem hi))];rfl) ?_]
   ·unfold sameW
    generalize sameL semB a.Sems b.Sems=s
    generalize sameL workB a.W b.W=v
    cases s with
    | false=>simp
    | true=>cases v with
     | false=>simp
     | true=>simp
   ·rw [r20_Same_s4,if_neg (by simp)]
    simp only [r20_Same_j5,r20_Same_j6,r20_Same_j7,r20_Same_j8,r20_Same_j9,r20_Same_j10,r20_Same_j11,r20_Same_j12,r20_Same_j13,dice_eq,r05_Same_is h1 h2,r18_SameTasks_is (show a.T.length≤9223372036854775807 by omega),r01_Same_is (show a.Mem.length≤9223372036854775807 by omega),r06_Same_is h5 h6 h7,r14_Same_is (show a.Ten.length≤9223372036854775807 by omega),rheap_is h9 g.heap,r09_Same_is (show a.Fds.length≤9223372036854775807 by omega),r11_Same_is (show a.Joins.length≤9223372036854775807 by omega),r17_Same_is h14 h15,r18_Same_is (show a.Seen.length≤9223372036854775807 by omega),Option.bind_some]
    generalize (a.Now==b.Now)=z1
    generalize (a.Down==b.Down)=z2
    generalize dice_Same a.Dice b.Dice=z3
    generalize idsB a.Ids b.Ids=z4
    generalize sameL api_Task.beq a.T b.T=z5
    generalize sameL (·==·) a.Mem b.Mem=z6
    generalize chB a.Lists b.Lists=z7
    generalize sameL api_Tenant.beq a.Ten b.Ten=z8
    generalize heapB a.Heap b.Heap=z9
    generalize sameL api_Fd.beq a.Fds b.Fds=y1
    generalize sameL api_Join.beq a.Joins b.Joins=y3
    generalize idB a.Idle b.Idle=y4
    generalize sameL api_Event.beq a.Seen b.Seen=y6
    congr 1
    cases z1 with
    | false=>rfl
    | true=>cases z3 with
     | false=>cases z2<;>rfl
     | true=>cases z4 with
      | false=>cases z2<;>rfl
      | true=>cases z5 with
       | false=>cases z2<;>rfl
       | true=>cases z6 with
        | false=>cases z2<;>rfl
        | true=>cases z7 with
         | false=>cases z2<;>rfl
         | true=>cases z8 with
          | false=>cases z2<;>rfl
          | true=>cases z9 with
           | false=>cases z2<;>rfl
           | true=>cases y1 with
            | false=>cases z2<;>rfl
            | true=>cases y3 with
             | false=>cases z2<;>rfl
             | true=>cases y4<;>cases z2<;>cases y6<;>rfl
  ·rw [if_pos (by simp;omega),sameW,sameL_ne (p:=workB) hW];simp
 ·rw [if_pos (by simp;omega),sameW,sameL_ne (p:=semB) hS];simp
end Go.Proofs.YtmlcinmdkhmjhaaGreat
