/- Helper lemmas for the claim's theorem: an abstract machine over the model, proved sound; no condition beyond each lemma's own. -/
import Derived.Test.YtkkimimkcchlnaaGreatL24ts
set_option linter.unusedVariables false
set_option linter.unusedSimpArgs false
set_option linter.unnecessarySimpa false
set_option linter.unusedSectionVars false
namespace Go.Proofs.YtkkimimkcchlnaaGreat
open Go Go.AM
set_option maxRecDepth 100000
set_option maxHeartbeats 1000000
set_option linter.unusedVariables false
set_option linter.unusedSimpArgs false
theorem ite01 (b:Bool):((if b=true then (0:Int) else 1) != 0)=!b:=by cases b<;>rfl
theorem sems_odd (l:List api_Sem) (hl:l.length≤1000):slices_ContainsFunc_api_Sem_api_Sem_169 l=some (l.any fun s=>!ckSem s):=by
 unfold slices_ContainsFunc_api_Sem_api_Sem_169 slices_IndexFunc_api_Sem_api_Sem_169
 rw [whileO_index (step:=slices_IndexFunc_api_Sem_api_Sem_169_s1 l) (fun s=>!ckSem s) l (by omega) (fun v=>by
  rw [slices_IndexFunc_api_Sem_api_Sem_169_s1]
  unfold crew_checker_parts_1
  rw [sema_eq]
  simp only [Option.bind_some,ite01]),Option.bind_some,idxOf_any]
def nineB (c:api_Config) (w:api_World) (ec eh:Int):Bool :=
 (ec==0)&&((dice_Check w.Dice==0)&&(ckSlot w.Ids&&((okC w.Lists).isSome&&(ckTen w.Ten&&((eh==0)&&(ckFds w.Fds&&(ckJ w.Joins&&ckIdle w.Idle)))))))
def tenB (c:api_Config) (w:api_World):Bool :=
 ((w.Ids.Gen.length:Int)==c.Tasks)&&(((w.T.length:Int)==c.Tasks)&&(((w.Lists.Next.length:Int)==c.Tasks)&&(((w.Lists.Head.length:Int)==(c.Weights.length:Int))&&(((w.Mem.length:Int)==IntKind.i64.wrap (c.Workers*(IntKind.i64.wrap (c.Cap+2))))&&(((w.Ten.length:Int)==(c.Weights.length:Int))&&(((w.Fds.length:Int)==c.Fds)&&(((w.Sems.length:Int)==(c.Sems.length:Int))&&(((w.Idle.Is.length:Int)==c.Workers)&&((w.W.length:Int)==c.Workers)))))))))
def restB (w:api_World):Bool:=(((decide (w.Now≥0))&&(decide (w.Now≤1125899906842624)))&&(decide ((w.Seen.length:Int)≤65536)))&&!(w.Sems.any fun s=>!ckSem s)
structure fewW (w:api_World):Prop where
 sems:w.Sems.length≤1000
 fds:w.Fds.length≤1000
 joins:w.Joins.length≤1000
 is:w.Idle.Is.length≤1000
 ws:w.W.length≤1000
 ten:w.Ten.length≤1000
 ids:∀x∈w.W,i64ok x.Task∧i64ok x.Kid
theorem parts_eq {c:api_Config} {w:api_World} {ec eh:Int} (h1:entry_Config c=some ec) (h2:heap_Check w.Heap=some eh) (f:fewW w):crew_checker_parts ⟨c,w⟩=some (nineB c w ec eh&&(tenB c w&&restB w)):=by
 have hf:=f.fds;have hj:=f.joins;have hi:=f.is
 have h4:whileO (crew_checker_parts_s4 ⟨c,w⟩) 0=some (tenB c w&&restB w):=by
  rw [whileO_seek (step:=crew_checker_parts_s4 ⟨c,w⟩) (fun b:Bool=>b)
   [((w.Ids.Gen.length:Int) != c.Tasks),((w.T.length:Int) != c.Tasks),((w.Lists.Next.length:Int) != c.Tasks),((w.Lists.Head.length:Int) != (c.Weights.length:Int)),((w.Mem.length:Int) != IntKind.i64.wrap (c.Workers*(IntKind.i64.wrap (c.Cap+2)))),((w.Ten.length:Int) != (c.Weights.length:Int)),((w.Fds.length:Int) != c.Fds),((w.Sems.length:Int) != (c.Sems.length:Int)),((w.Idle.Is.length:Int) != c.Workers),((w.W.length:Int) != c.Workers)]
   (fun _=>some false) (some (restB w)) (by simp),seek_any]
  ·have key:([((w.Ids.Gen.length:Int) != c.Tasks),((w.T.length:Int) != c.Tasks),((w.Lists.Next.length:Int) != c.Tasks),((w.Lists.Head.length:Int) != (c.Weights.length:Int)),((w.Mem.length:Int) != IntKind.i64.wrap (c.Workers*(IntKind.i64.wrap (c.Cap+2)))),((w.Ten.length:Int) != (c.Weights.length:Int)),((w.Fds.length:Int) != c.Fds),((w.Sems.length:Int) != (c.Sems.length:Int)),((w.Idle.Is.length:Int) != c.Workers),((w.W.length:Int) != c.Workers)].any fun b:Bool=>b)=!tenB c w:=by
    unfold tenB
    simp only [List.any_cons,List.any_nil,bne,Bool.not_and,Bool.or_false]
   rw [key]
   cases tenB c w<;>rfl
  ·intro i hi
   have hq:i=0∨i=1∨i=2∨i=3∨i=4∨i=5∨i=6∨i=7∨i=8∨i=9:=by simp at hi;omega
   rw [crew_checker_parts_s4]
   rcases hq with rfl|rfl|rfl|rfl|rfl|rfl|rfl|rfl|rfl|rfl<;>rfl
  ·rw [crew_checker_parts_s4,if_neg (by simp)]
   unfold restB
   rw [sems_odd _ f.sems,Option.bind_some]
   cases (((decide (w.Now≥0))&&(decide (w.Now≤1125899906842624)))&&(decide ((w.Seen.length:Int)≤65536)))<;>rfl
 unfold crew_checker_parts
 simp only
 rw [h1,slot_eq,(chain_eq w.Lists).1,ten_eq,h2,fds_eq (by omega),joins_eq (by omega),idle_eq w.Idle (by omega)]
 simp only [Option.bind_some]
 rw [whileO_seek (step:=crew_checker_parts_s2 ⟨c,w⟩ ec (if ckSlot w.Ids=true then 0 else 1) (if (okC w.Lists).isSome=true then 0 else 1) (if ckTen w.Ten=true then 0 else 1) eh (if ckFds w.Fds=true then 0 else 1) (if ckJ w.Joins=true then 0 else 1) (if ckIdle w.Idle=true then 0 else 1)) (fun b:Bool=>b)
  [(ec != 0),(dice_Check w.Dice != 0),((if ckSlot w.Ids=true then (0:Int) else 1) != 0),((if (okC w.Lists).isSome=true then (0:Int) else 1) != 0),((if ckTen w.Ten=true then (0:Int) else 1) != 0),(eh != 0),((if ckFds w.Fds=true then (0:Int) else 1) != 0),((if ckJ w.Joins=true then (0:Int) else 1) != 0),((if ckIdle w.Idle=true then (0:Int) else 1) != 0)]
  (fun _=>some false) (whileO (crew_checker_parts_s4 ⟨c,w⟩) 0) (by simp),seek_any,h4]
 ·have key:([(ec != 0),(dice_Check w.Dice != 0),((if ckSlot w.Ids=true then (0:Int) else 1) != 0),((if (okC w.Lists).isSome=true then (0:Int) else 1) != 0),((if ckTen w.Ten=true then (0:Int) else 1) != 0),(eh != 0),((if ckFds w.Fds=true then (0:Int) else 1) != 0),((if ckJ w.Joins=true then (0:Int) else 1) != 0),((if ckIdle w.Idle=true then (0:Int) else 1) != 0)].any fun b:Bool=>b)=!nineB c w ec eh:=by
   unfold nineB
   simp only [List.any_cons,List.any_nil,ite01,Bool.not_and,Bool.or_false]
   rfl
  rw [key]
  cases nineB c w ec eh<;>rfl
 ·intro i hi
  have hq:i=0∨i=1∨i=2∨i=3∨i=4∨i=5∨i=6∨i=7∨i=8:=by simp at hi;omega
  rw [crew_checker_parts_s2]
  rcases hq with rfl|rfl|rfl|rfl|rfl|rfl|rfl|rfl|rfl<;>rfl
 ·rw [crew_checker_parts_s2,if_neg (by simp)]
end Go.Proofs.YtkkimimkcchlnaaGreat
