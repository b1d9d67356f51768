/- Helper lemmas for the claim's theorem: an abstract machine over the model, proved sound; no condition beyond each lemma's own. -/
import Derived.Test.YtmlcinmdkhmjhaaGreatL20cs
set_option linter.unusedVariables false
set_option linter.unusedSimpArgs false
set_option linter.unnecessarySimpa false
set_option linter.unusedSectionVars false
namespace Go.Proofs.YtmlcinmdkhmjhaaGreat
open Go Go.AM
set_option maxRecDepth 100000
set_option maxHeartbeats 1000000
set_option linter.unusedVariables false
set_option linter.unusedSimpArgs false
theorem ite01 (b:Bool):((if b=true then (0:Int) else 1) != 0)=!b:=by cases b<;>rfl
theorem sems_odd (l:List api_Sem) (hl:l.length≤1000):slices_ContainsFunc_api_Sem_api_Sem_1120 l=some (l.any fun s=>!ckSem s):=by
 unfold slices_ContainsFunc_api_Sem_api_Sem_1120 slices_IndexFunc_api_Sem_api_Sem_1120
 rw [whileO_index (step:=slices_IndexFunc_api_Sem_api_Sem_1120_s1 l) (fun s=>!ckSem s) l (by omega) (fun v=>by
  rw [slices_IndexFunc_api_Sem_api_Sem_1120_s1]
  unfold crew_checker_parts_1
  rw [sema_eq]
  simp only [Option.bind_some,ite01]),Option.bind_some,idxOf_any]
def nineB (c:api_Config) (w:api_World) (ec eh:Int):Bool :=
 (ec==0)&&((dice_Check w.Dice==0)&&(ckSlot w.Ids&&((okC w.Lists).isSome&&(ckTen w.Ten&&((eh==0)&&(ckFds w.Fds&&(ckJ w.Joins&&ckIdle w.Idle)))))))
def tenB (c:api_Config) (w:api_World):Bool :=
 ((w.Ids.Gen.length:Int)==c.Tasks)&&(((w.T.length:Int)==c.Tasks)&&(((w.Lists.Next.length:Int)==c.Tasks)&&(((w.Lists.Head.length:Int)==(c.Weights.length:Int))&&(((w.Mem.length:Int)==IntKind.i64.wrap (c.Workers*(IntKind.i64.wrap (c.Cap+2))))&&(((w.Ten.length:Int)==(c.Weights.length:Int))&&(((w.Fds.length:Int)==c.Fds)&&(((w.Sems.length:Int)==(c.Sems.length:Int))&&(((w.Idle.Is.length:Int)==c.Workers)&&((w.W.length:Int)==c.Workers)))))))))
def restB (w:api_World):Bool:=(((decide (w.Now≥0))&&(decide (w.Now≤1125899906842624)))&&(decide ((w.Seen.length:Int)≤65536)))&&!(w.Sems.any fun s=>!ckSem s)
structure fewW (w:api_World):Prop where
 sems:w.Sems.length≤1000
 fds:w.Fds.length≤1000
 joins:w.Joins.length≤1000
 is:w.Idle.Is.length≤1000
 ws:w.W.length≤1000
 ten:w.Ten.length≤1000
 ids:∀x∈w.W,i64ok x.Task∧i64ok x.Kid
theorem parts_eq {c:api_Config} {w:api_World} {ec eh:Int} (h1:entry_Config c=some ec) (h2:heap_Check w.Heap=some eh) (f:fewW w):crew_checker_parts ⟨c,w⟩=some (nineB c w ec eh&&(tenB c w&&restB w)):=by
 have hf:=f.fds;have hj:=f.joins;have hi:=f.is
 have h4:whileO (crew_checker_parts_s4 ⟨c,w⟩) 0=some (tenB c w&&restB w):=by
  rw [whileO_seek (step:=crew_checker_parts_s4 ⟨c,w⟩) (fun b:Bool=>b)
   [((w.Ids.Gen.length:Int) != c.Tasks),((w.T.length:Int) != c.Tasks),((w.Lists.Next.length:Int) != c.Tasks),((w.Lists.Head.length:Int) != (c.Weights.length:Int)),((w.Mem.length:Int) != IntKind.i64.wrap (c.Workers*(IntKind.i64.wrap (c.Cap+2)))),((w.Ten.length:Int) != (c.Weights.length:Int)),((w.Fds.length:Int) != c.Fds),((w.Sems.length:Int) != (c.Sems.length:Int)),((w.Idle.Is.length:Int) != c.Workers),((w.W.length:Int) != c.Workers)]
   (fun _=>some false) (some (restB w)) (by simp),seek_any]
  ·have key:([((w.Ids.Gen.length:Int) != c.Tasks),((w.T.length:Int) != c.Tasks),((w.Lists.Next.length:Int) != c.Tasks),((w.Lists.Head.length:Int) != (c.Weights.length:Int)),((w.Mem.length:Int) != IntKind.i64.wrap (c.Workers*(IntKind.i64.wrap (c.Cap+2)))),((w.Ten.length:Int) != (c.Weights.length:Int)),((w.Fds.length:Int) != c.Fds),((w.Sems.length:Int) != (c.Sems.length:Int)),((w.Idle.Is.length:Int) != c.Workers),((w.W.length:Int) != c.Workers)].any fun b:Bool=>b)=!tenB c w:=by
    unfold tenB
    simp only [List.any_cons,List.any_nil,bne,Bool.not_and,Bool.or_false]
   rw [key]
   cases tenB c w<;>rfl
  ·intro i hi
   have hq:i=0∨i=1∨i=2∨i=3∨i=4∨i=5∨i=6∨i=7∨i=8∨i=9:=by simp at hi;omega
   rw [crew_checker_parts_s4]
   rcases hq with rfl|rfl|rfl|rfl|rfl|rfl|rfl|rfl|rfl|rfl<;>rfl
  ·rw [crew_checker_parts_s4,if_neg (by simp)]
   unfold restB
   rw [sems_odd _ f.sems,Option.bind_some]
   cases (((decide (w.Now≥0))&&(decide (w.Now≤1125899906842624)))&&(decide ((w.Seen.length:Int)≤65536)))<;>rfl
 unfold crew_checker_parts
 simp only
 rw [h1,slot_eq,(chain_eq w.Lists).1,ten_eq,h2,fds_eq (by omega),joins_eq (by omega),idle_eq w.Idle (by omega)]
 simp only [Option.bind_some]
 rw [whileO_seek (step:=crew_checker_parts_s2 ⟨c,w⟩ ec (if ckSlot w.Ids=true then 0 else 1) (if (okC w.Lists).isSome=true then 0 else 1) (if ckTen w.Ten=true then 0 else 1) eh (if ckFds w.Fds=true then 0 else 1) (if ckJ w.Joins=true then 0 else 1) (if ckIdle w.Idle=true then 0 else 1)) (fun b:Bool=>b)
  [(ec != 0),(dice_Check w.Dice != 0),((if ckSlot w.Ids=true then (0:Int) else 1) != 0),((if (okC w.Lists).isSome=true then (0:Int) else 1) != 0),((if ckTen w.Ten=true then (0:Int) else 1) != 0),(eh != 0),((if ckFds w.Fds=true then (0:Int) else 1) != 0),((if ckJ w.Joins=true then (0:Int) else 1) != 0),((if ckIdle w.Idle=true then (0:Int) else 1) != 0)]
  (fun _=>some false) (whileO (crew_checker_parts_s4 ⟨c,w⟩) 0) (by simp),seek_any,h4]
 ·have key:([(ec != 0),(dice_Check w.Dice != 0),((if ckSlot w.Ids=true then (0:Int) else 1) != 0),((if (okC w.Lists).isSome=true then (0:Int) else 1) != 0),((if ckTen w.Ten=true then (0:Int) else 1) != 0),(eh != 0),((if ckFds w.Fds=true then (0:Int) else 1) != 0),((if ckJ w.Joins=true then (0:Int) else 1) != 0),((if ckIdle w.Idle=true then (0:Int) else 1) != 0)].any fun b:Bool=>b)=!nineB c w ec eh:=by
   unfold nineB
   simp only [List.any_cons,List.any_nil,ite01,Bool.not_and,Bool.or_false]
   rfl
  rw [key]
  cases nineB c w ec eh<;>rfl
 ·intro i hi
  have hq:i=0∨i=1∨i=2∨i=3∨i=4∨i=5∨i=6∨i=7∨i=8:=by simp at hi;omega
  rw [crew_checker_parts_s2]
  rcases hq with rfl|rfl|rfl|rfl|rfl|rfl|rfl|rfl|rfl<;>rfl
 ·rw [crew_checker_parts_s2,if_neg (by simp)]
end Go.Proofs.YtmlcinmdkhmjhaaGreat
namespace Go.Proofs.YtmlcinmdkhmjhaaGreat
open Go Go.AM
set_option maxRecDepth 100000
set_option maxHeartbeats 1000000
set_option linter.unusedVariables false
set_option linter.unusedSimpArgs false
def partsB (c:api_Config) (w:api_World) (ec eh:Int):Bool:=nineB c w ec eh&&(tenB c w&&restB w)
def anyT (c:api_Config) (w:api_World):Bool:=(List.range w.T.length).any (badT c w)
def anyL (w:api_World) (out:List (List Int)):Bool:=(List.range out.length).any (fun t=>(gt out (t:Int)).any (badL w (t:Int)))
noncomputable def anyW (c:api_Config) (w:api_World):Bool:=(List.range w.W.length).any (fun i=>!workOk c w i||crewDup w i)
structure PartsIs (c:api_Config) (w:api_World) (ec eh:Int) (out:List (List Int)):Prop where
 e1:ec=0
 e2:dice_Check w.Dice=0
 e3:ckSlot w.Ids=true
 e4:okC w.Lists=some out
 e5:ckTen w.Ten=true
 e6:eh=0
 e7:ckFds w.Fds=true
 e8:ckJ w.Joins=true
 e9:ckIdle w.Idle=true
 n0:(w.Ids.Gen.length:Int)=c.Tasks
 n1:(w.T.length:Int)=c.Tasks
 n2:(w.Lists.Next.length:Int)=c.Tasks
 n3:(w.Lists.Head.length:Int)=(c.Weights.length:Int)
 n4:(w.Mem.length:Int)=IntKind.i64.wrap (c.Workers*(IntKind.i64.wrap (c.Cap+2)))
 n5:(w.Ten.length:Int)=(c.Weights.length:Int)
 n6:(w.Fds.length:Int)=c.Fds
 n7:(w.Sems.length:Int)=(c.Sems.length:Int)
 n8:(w.Idle.Is.length:Int)=c.Workers
 n9:(w.W.length:Int)=c.Workers
 r1:0≤w.Now∧w.Now≤1125899906842624
 r2:(w.Seen.length:Int)≤65536
 r3:(w.Sems.any fun s=>!ckSem s)=false
theorem parts_iff {c:api_Config} {w:api_World} {ec eh:Int}:partsB c w ec eh=true↔∃out,PartsIs c w ec eh out:=by
 unfold partsB nineB tenB restB
 simp only [Bool.and_eq_true,beq_iff_eq,decide_eq_true_eq,Bool.not_eq_true',Option.isSome_iff_exists]
 constructor
 ·rintro ⟨⟨a1,a2,a3,⟨out,a4⟩,a5,a6,a7,a8,a9⟩,⟨b0,b1,b2,b3,b4,b5,b6,b7,b8,b9⟩,⟨⟨c1,c2⟩,c3⟩,c4⟩
  exact ⟨out,a1,a2,a3,a4,a5,a6,a7,a8,a9,b0,b1,b2,b3,b4,b5,b6,b7,b8,b9,⟨c1,c2⟩,c3,c4⟩
 ·rintro ⟨out,a1,a2,a3,a4,a5,a6,a7,a8,a9,b0,b1,b2,b3,b4,b5,b6,b7,b8,b9,⟨c1,c2⟩,c3,c4⟩
  exact ⟨⟨a1,a2,a3,⟨out,a4⟩,a5,a6,a7,a8,a9⟩,⟨b0,b1,b2,b3,b4,b5,b6,b7,b8,b9⟩,⟨⟨c1,c2⟩,c3⟩,c4⟩
theorem idle_four {d:api_Idle} (h:ckIdle d=true):d.Is.all inFour=true:=by
 unfold ckIdle at h
 simp only [Bool.and_eq_true] at h
 exact h.2.2.1
theorem crew_no {c:api_Config} {w:api_World} {ec eh:Int} (h1:entry_Config c=some ec) (h2:heap_Check w.Heap=some eh) (f:fewW w) (h:partsB c w ec eh=false):crew_Check c w=some 1:=by
 unfold crew_Check
 rw [parts_eq h1 h2 f,Option.bind_some]
 unfold partsB at h
 rw [h];rfl
theorem crew_yes {c:api_Config} {w:api_World} {ec eh:Int} {out:List (List Int)} (hp:∀p∈c.Progs,pok p) (h1:entry_Config c=some ec) (h2:heap_Check w.Heap=some eh) (f:fewW w) (h:PartsIs c w ec eh out) :
 crew_Check c w=some (if (anyT c w||(anyL w out||anyW c w))=true then 1 else 0):=by
 have hpb:partsB c w ec eh=true:=parts_iff.2 ⟨out,h⟩
 have hs:=ckSlot_is h.e3
 have ho:=okC_is h.e4
 have hn0:=h.n0;have hn1:=h.n1;have hn2:=h.n2;have hn3:=h.n3;have hn5:=h.n5;have hn8:=h.n8;have hn9:=h.n9
 have hws:=f.ws;have hten:=f.ten
 unfold crew_Check
 rw [parts_eq h1 h2 f,Option.bind_some]
 unfold partsB at hpb
 rw [hpb]
 simp only [Bool.not_true,Bool.false_eq_true,if_false]
 have h7:whileO (crew_Check_s7 c w) (0,[])=some (if anyW c w=true then 1 else 0):=by
  have:=crew_workers (c:=c) (w:=w) (by omega) (fun i hi=>worker_eq h.e3 (by omega) (by omega) (idle_four h.e9) f.ids hi) w.W.length 0 [] (by omega) (fun k=>by simp [mget,seenW])
  rw [List.drop_zero] at this
  exact this
 have h4:whileO (crew_Check_s4 c w) 0=some (if (anyL w out||anyW c w)=true then 1 else 0):=by
  rw [whileO_seek (step:=crew_Check_s4 c w) (fun t:Nat=>(gt out (t:Int)).any (badL w (t:Int))) (List.range w.Ten.length) (fun _=>some 1) (some (if anyW c w=true then 1 else 0)) (by simp;omega),seek_any]
  ·unfold anyL
   rw [show w.Ten.length=out.length by omega]
   cases (List.range out.length).any (fun t=>(gt out (t:Int)).any (badL w (t:Int)))<;>rfl
  ·intro t ht
   rw [List.length_range] at ht
   have hgi:gt (List.range w.Ten.length) (t:Int)=t:=by rw [gt_nat (by simpa using ht),List.getElem_range]
   rw [hgi,crew_Check_s4,if_pos (by simpa using ht),list_eq h.e4 (by omega) (by omega) (by omega),Option.bind_some,Bool.not_not]
  ·rw [List.length_range,crew_Check_s4,if_neg (by simp),h7]
 rw [whileO_seek (step:=crew_Check_s2 c w) (badT c w) (List.range w.T.length) (fun _=>some 1) (some (if (anyL w out||anyW c w)=true then 1 else 0)) (by simp;omega),seek_any]
 ·unfold anyT
  cases (List.range w.T.length).any (badT c w)<;>rfl
 ·intro i hi
  rw [List.length_range] at hi
  have hgi:gt (List.range w.T.length) (i:Int)=i:=by rw [gt_nat (by simpa using hi),List.getElem_range]
  rw [hgi,crew_Check_s2,if_pos (by simpa using hi),task_eq hp (by omega) (by omega) hi,Option.bind_some,Bool.not_not]
 ·rw [List.length_range,crew_Check_s2,if_neg (by simp),h4]
theorem j6t (c:api_Config) (w:api_World):r20_Check_j6 c w true=some 1:=by rw [r20_Check_j6,if_pos (by simp)]
theorem j5t (c:api_Config) (w:api_World):r20_Check_j5 c w true=some 1:=by rw [r20_Check_j5,if_pos rfl,j6t]
theorem j4t (c:api_Config) (w:api_World):r20_Check_j4 c w true=some 1:=by rw [r20_Check_j4,if_pos (by simp),j5t]
theorem j3t (c:api_Config) (w:api_World):r20_Check_j3 c w true=some 1:=by rw [r20_Check_j3,if_pos rfl,j4t]
theorem j2t (c:api_Config) (w:api_World):r20_Check_j2 c w true=some 1:=by rw [r20_Check_j2,if_pos (by simp),j3t]
theorem j1t (c:api_Config) (w:api_World):r20_Check_j1 c w true=some 1:=by rw [r20_Check_j1,if_pos rfl]
theorem ref_workers {c:api_Config} {w:api_World} (hp:ckSlot w.Ids=true) (hT:w.T.length=w.Ids.Gen.length) (hI:w.Idle.Is.length=w.W.length) (hl:w.W.length≤1000000):whileO (r20_Check_s9 c w) 0=some (if anyW c w=true then 1 else 0):=by
 rw [whileO_seek (step:=r20_Check_s9 c w) (fun i:Nat=>!(workOk c w i&&!dupAt w i)) (List.range w.W.length) (fun _=>some 1) (some 0) (by simp;omega),seek_any]
 ·have hw:∀i:Nat,workOk c w i=true→(gt w.W (i:Int)).Task≥-1∧(gt w.W (i:Int)).Kid≥-1:=fun i h=>by
   unfold workOk at h
   simp only [Bool.and_eq_true] at h
   obtain ⟨_,_,_,_,_,_,_,h8,h9,_⟩:=h
   exact ⟨(holds_is hp hT _ _).2 h8,(holds_is hp hT _ _).2 h9⟩
  have e:(List.range w.W.length).any (fun i:Nat=>!(workOk c w i&&!dupAt w i))=anyW c w:=by
   unfold anyW
   by_cases hall:∀i:Nat,i < w.W.length→workOk c w i=true
   ·have e1:(List.range w.W.length).any (fun i:Nat=>!(workOk c w i&&!dupAt w i))=(List.range w.W.length).any (dupAt w):=any_congr fun i hi=>by rw [hall i hi];simp
    have e2:(List.range w.W.length).any (fun i=>!workOk c w i||crewDup w i)=(List.range w.W.length).any (crewDup w):=any_congr fun i hi=>by rw [hall i hi];simp
    rw [e1,e2,dup_same (fun i hi=>hw i (hall i hi))]
   ·rw [Classical.not_forall] at hall
    obtain ⟨i,hi⟩:=hall
    rw [Classical.not_imp,Bool.not_eq_true] at hi
    have a1:(List.range w.W.length).any (fun i:Nat=>!(workOk c w i&&!dupAt w i))=true:=List.any_eq_true.2 ⟨i,by simpa using hi.1,by simp [hi.2]⟩
    have a2:(List.range w.W.length).any (fun i=>!workOk c w i||crewDup w i)=true:=List.any_eq_true.2 ⟨i,by simpa using hi.1,by simp [hi.2]⟩
    rw [a1,a2]
  rw [e]
  cases anyW c w<;>rfl
 ·intro i hi
  rw [List.length_range] at hi
  have hgi:gt (List.range w.W.length) (i:Int)=i:=by rw [gt_nat (by simpa using hi),List.getElem_range]
  rw [hgi,r20_Check_s9,if_pos (by simpa using hi),rworker_eq hp hT hI hl hi,Option.bind_some]
 ·rw [List.length_range,r20_Check_s9,if_neg (by simp)]
theorem ref_sems {c:api_Config} {w:api_World} (hl:w.Sems.length≤1000):whileO (r20_Check_s8 c w) 0=if (w.Sems.any fun s=>!ckSem s)=true then some 1 else whileO (r20_Check_s9 c w) 0:=by
 rw [whileO_seek (step:=r20_Check_s8 c w) (fun s=>!ckSem s) w.Sems (fun _=>some 1) (whileO (r20_Check_s9 c w) 0) (by omega),seek_any]
 ·intro i hi
  rw [r20_Check_s8,if_pos (by simpa using hi),if_pos (by omega),rsema_eq,Option.bind_some,ite01]
 ·rw [r20_Check_s8,if_neg (by simp)]
end Go.Proofs.YtmlcinmdkhmjhaaGreat
