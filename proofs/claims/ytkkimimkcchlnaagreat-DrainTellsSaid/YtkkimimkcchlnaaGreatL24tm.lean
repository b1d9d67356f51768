/- Helper lemmas for the claim's theorem: an abstract machine over the model, proved sound; no condition beyond each lemma's own. -/
import Derived.Test.YtkkimimkcchlnaaGreatL24tl
set_option linter.unusedVariables false
set_option linter.unusedSimpArgs false
set_option linter.unnecessarySimpa false
set_option linter.unusedSectionVars false
namespace Go.Proofs.YtkkimimkcchlnaaGreat
open Go Go.AM
set_option maxRecDepth 100000
set_option maxHeartbeats 1000000
set_option linter.unusedVariables false
set_option linter.unusedSimpArgs false
theorem chkE_ne (t:api_Task):(chkE t != 0)=!chk t:=by unfold chkE;cases chk t<;>rfl
def insN (t:api_Task) (p:List api_Instr):api_Instr:=if t.Pc < p.length then gt p t.Pc else api_Instr.mk 9 0 0
def fitB (t:api_Task) (p:List api_Instr):Bool:=chk t&&(chkP p&&(decide (t.Pc≤p.length)&&(decide (t.Unit=0)||(decide (t.Pc < p.length)&&(decide ((gt p t.Pc).Op=1)&&decide (t.Unit < (gt p t.Pc).A))))))
theorem chk_bounds {t:api_Task} (h:chk t=true):t.Id≥0∧(0≤t.Pc∧t.Pc≤32)∧(0≤t.Unit∧t.Unit≤99)∧(0≤t.Ran∧t.Ran≤1099511627776):=by
 unfold chk at h
 simp [life_below] at h
 omega
theorem next_eq {t:api_Task} {p:List api_Instr} (hp:pok p):step_Next t p=some (if fitB t p then (insN t p,0) else (api_Instr.zero,1)):=by
 unfold step_Next
 rw [check_eq,Option.bind_some,chkE_ne,codeCheck_eq hp,Option.bind_some]
 unfold fitB
 cases hc:chk t with
 | false=>simp [step_Next_j1]
 | true =>
  obtain ⟨-,hpc,hun,-⟩:=chk_bounds hc
  simp only [Bool.not_true,Bool.false_eq_true,if_false,Bool.true_and]
  cases hk:chkP p with
  | false=>simp [step_Next_j1]
  | true =>
   simp only [if_true,Bool.true_and]
   unfold step_Next_j1 insN
   by_cases h1:t.Pc≤p.length
   ·rw [if_neg (by simp;omega)]
    by_cases h2:t.Pc < p.length
    ·rw [if_pos (by simpa using h2),if_pos (by omega)]
     unfold step_Next_j2
     by_cases h3:t.Unit=0
     ·rw [if_neg (by simp [h3])];simp [h1,h2,h3]
     ·by_cases h4:(gt p t.Pc).Op=1∧t.Unit < (gt p t.Pc).A
      ·rw [if_neg (by simp [h4.1];omega),if_pos (by simp [h1,h2,h3,h4.1,h4.2]),if_pos h2]
      ·rw [if_pos (by simp;omega)]
       rw [if_neg]
       simp [h1,h2,h3];omega
    ·rw [if_neg (by simpa using h2)]
     unfold step_Next_j2
     by_cases h3:t.Unit=0
     ·rw [if_neg (by simp [h3])];simp [h1,h2,h3]
     ·rw [if_pos (by simp;omega)];simp [h1,h2,h3]
   ·rw [if_pos (by simp;omega)];simp [h1]
theorem fits_eq {t:api_Task} {p:List api_Instr} (hp:pok p):r13_Fits t p=some (fitB t p):=by
 unfold r13_Fits
 rw [rcheck_eq,Option.bind_some,chkE_ne,rcodeCheck_eq hp.1,Option.bind_some]
 unfold fitB
 cases hc:chk t with
 | false=>simp [r13_Fits_j1]
 | true =>
  obtain ⟨-,hpc,hun,-⟩:=chk_bounds hc
  simp only [Bool.not_true,Bool.false_eq_true,if_false,Bool.true_and]
  cases hk:chkP p with
  | false=>simp [r13_Fits_j1]
  | true =>
   simp only [if_true,Bool.true_and]
   unfold r13_Fits_j1
   by_cases h1:t.Pc≤p.length
   ·rw [if_neg (by simp;omega)]
    by_cases h3:t.Unit=0
    ·rw [if_pos (by simp [h3])];simp [h1,h3]
    ·rw [if_neg (by simp [h3])]
     by_cases h2:t.Pc < p.length
     ·rw [if_pos (by simpa using h2),if_pos (by omega)]
      by_cases h4:(gt p t.Pc).Op=1
      ·rw [if_pos (by simp [h4]),if_pos (by omega)];simp [h1,h2,h3,h4]
      ·rw [if_neg (by simp [h4])];simp [h3,h4]
     ·rw [if_neg (by simpa using h2)];simp [h2,h3]
   ·rw [if_pos (by simp;omega)];simp [h1]
theorem fit_parts {t:api_Task} {p:List api_Instr} (h:fitB t p=true):chk t=true∧chkP p=true∧t.Pc≤p.length∧(t.Unit=0∨(t.Pc < p.length∧(gt p t.Pc).Op=1∧t.Unit < (gt p t.Pc).A)):=by
 unfold fitB at h
 simpa [and_assoc] using h
def leftV (t:api_Task) (p:List api_Instr):Int:=if (p.take t.Pc.toNat).any isX then 0 else un (p.drop t.Pc.toNat) - t.Unit
def leftR (t:api_Task) (p:List api_Instr):Int×Int:=if fitB t p then (leftV t p,0) else (0,1)
theorem pok_drop {p:List api_Instr} (h:pok p) (n:Nat):pok (p.drop n):=⟨by rw [List.length_drop];have:=h.1;omega,fun x hx=>h.2 x (List.mem_of_mem_drop hx)⟩
theorem chkP_drop {p:List api_Instr} (h:chkP p=true) {n:Nat} (hn:n < p.length):chkP (p.drop n)=true:=by
 obtain ⟨h1,h2,h3⟩:=chkP_parts h
 unfold chkP
 simp only [Bool.and_eq_true,decide_eq_true_eq,List.all_eq_true,List.length_drop]
 exact ⟨⟨by omega,by omega⟩,fun x hx=>h3 x (List.mem_of_mem_drop hx)⟩
theorem left_eq {t:api_Task} {p:List api_Instr} (hp:pok p):step_Left t p=some (leftR t p):=by
 unfold step_Left
 rw [next_eq hp,Option.bind_some]
 unfold leftR
 cases hf:fitB t p with
 | false=>simp
 | true =>
  obtain ⟨hc,hk,hl,hu⟩:=fit_parts hf
  obtain ⟨-,hpc,hun,hran⟩:=chk_bounds hc
  obtain ⟨k1,k2,k3⟩:=chkP_parts hk
  simp only [if_true]
  rw [if_neg (by simp)]
  unfold leftV
  by_cases he:t.Pc=p.length
  ·rw [if_pos (by simp [he])]
   have h0:t.Unit=0:=by rcases hu with h|h;exact h;omega
   have hd:p.drop t.Pc.toNat=[]:=by rw [List.drop_eq_nil_iff];omega
   rw [hd,h0]
   split<;>rfl
  ·rw [if_neg (by simp [he]),if_pos (by omega),sub_take]
   unfold slices_ContainsFunc_api_Instr_api_Instr_137 slices_IndexFunc_api_Instr_api_Instr_137
   rw [whileO_index (step:=slices_IndexFunc_api_Instr_api_Instr_137_s1 (p.take t.Pc.toNat)) isX _ (by rw [List.length_take];omega) (fun v=>rfl)]
   simp only [Option.bind_some]
   rw [idxOf_any]
   cases hx:(p.take t.Pc.toNat).any isX with
   | true=>rfl
   | false =>
    simp only [Bool.false_eq_true,if_false]
    rw [if_pos (by omega),sub_drop,units_eq (pok_drop hp _),chkP_drop hk (by omega)]
    have:=un_bounds (p:=p.drop t.Pc.toNat) (fun x hx=>k3 x (List.mem_of_mem_drop hx)) (by rw [List.length_drop];omega)
    simp only [if_true,Option.bind_some]
    rw [if_neg (by decide),w64_id (by omega) (by omega)]
theorem rleft_loop (l:List api_Instr) (hl:l.length≤1000) (hm:∀x∈l,r04_may x=true):∀(m i:Nat) (n:Int),i+m=l.length→-1000≤n→n≤100*i→whileO (r13_Left_s3 l) (n,(i:Int))=some (n+sumU (l.drop i),0)
 | 0,i,n,h,_,_=>by
  have:i=l.length:=by omega
  subst this
  rw [whileO_inr (k:=(n,0)),List.drop_length]
  ·simp [sumU]
  ·rw [r13_Left_s3,if_neg (by simp)];rfl
 | m+1,i,n,h,h0,h1=>by
  have hi:i < l.length:=by omega
  have hb:=u1_bounds (hm _ (List.getElem_mem hi))
  rw [List.drop_eq_getElem_cons hi,sumU,whileO_inl (s':=(n+u1 l[i],((i+1:Nat):Int))),rleft_loop l hl hm m (i+1) _ (by omega) (by omega) (by omega),Int.add_assoc]
  rw [r13_Left_s3,if_pos (by simpa using hi),if_pos (by omega),gt_nat hi,w64_nat (by omega)]
  unfold u1 at hb ⊢
  by_cases hx:l[i].Op=1
  ·rw [if_pos (by simp [hx])]
   rw [if_pos hx] at hb ⊢
   rw [w64_id (by omega) (by omega)];rfl
  ·rw [if_neg (by simp [hx])]
   rw [if_neg hx] at hb ⊢
   rw [w64_id (by omega) (by omega)];rfl
theorem rleft_eq {t:api_Task} {p:List api_Instr} (hp:pok p):r13_Left t p=some (leftR t p):=by
 unfold r13_Left
 rw [fits_eq hp,Option.bind_some]
 unfold leftR
 cases hf:fitB t p with
 | false=>rfl
 | true =>
  obtain ⟨hc,hk,hl,hu⟩:=fit_parts hf
  obtain ⟨-,hpc,hun,hran⟩:=chk_bounds hc
  obtain ⟨k1,k2,k3⟩:=chkP_parts hk
  rw [if_neg (by simp),if_pos (by omega)]
  simp only [if_true]
  unfold leftV
  have hrest:(if 0≤t.Pc∧t.Pc≤(p.length:Int) then (r04_Run (sub p t.Pc (p.length:Int))).bind fun x=>whileO (r13_Left_s3 x) (IntKind.i64.wrap (0 - t.Unit),0) else none)=some (un (p.drop t.Pc.toNat) - t.Unit,0):=by
   rw [if_pos (by omega),sub_drop,run_eq (by rw [List.length_drop];omega),Option.bind_some,w64_id (by omega) (by omega)]
   have hr:=reach_len (p.drop t.Pc.toNat)
   rw [List.length_drop] at hr
   have:=rleft_loop (reach (p.drop t.Pc.toNat)) (by omega) (fun x hx=>k3 x (List.mem_of_mem_drop (reach_mem hx))) _ 0 (0 - t.Unit) (Nat.zero_add _) (by omega) (by omega)
   rw [List.drop_zero] at this
   rw [show (0:Int)=((0:Nat):Int) from rfl] at this ⊢
   rw [this]
   unfold un
   congr 2;omega
  rw [whileO_seek (step:=r13_Left_s2 t p) isX (sub p 0 t.Pc) (fun _=>some (0,0)) (some (un (p.drop t.Pc.toNat) - t.Unit,0)) (by rw [sub_take,List.length_take];omega)]
  ·rw [seek_any,sub_take]
   split<;>rfl
  ·intro i hi
   rw [r13_Left_s2,if_pos (by simpa using hi),if_pos (by omega)];rfl
  ·rw [r13_Left_s2,if_neg (by simp),hrest]
def badT (c:api_Config) (w:api_World) (i:Nat):Bool :=
 if (!(gt w.Ids.Live (i:Int)))=true then !(api_Task.beq (gt w.T (i:Int)) api_Task.zero) else
  (!chk (gt w.T (i:Int))||(((gt w.T (i:Int)).State==7)||(((gt w.T (i:Int)).Id != (IntKind.i64.wrap ((IntKind.i64.wrap ((gt w.Ids.Gen (i:Int))*256))+(i:Int))))||(decide ((gt w.T (i:Int)).Tenant≥(c.Weights.length:Int))||(decide ((gt w.T (i:Int)).Prog≥(c.Progs.length:Int))||!fitB (gt w.T (i:Int)) (gt c.Progs (gt w.T (i:Int)).Prog))))))
theorem task_eq {c:api_Config} {w:api_World} (hp:∀p∈c.Progs,pok p) (hL:w.Ids.Live.length=w.T.length) (hG:w.Ids.Gen.length=w.T.length) {i:Nat} (hi:i < w.T.length):crew_checker_task ⟨c,w⟩ (i:Int)=some (!badT c w i):=by
 unfold crew_checker_task badT
 simp only
 rw [if_pos (by omega),if_pos (by omega)]
 cases hl:gt w.Ids.Live (i:Int) with
 | false =>
  rw [if_pos (show (!false)=true from rfl),if_pos (show (!false)=true from rfl),Bool.not_not]
 | true =>
  simp only [Bool.not_true,Bool.false_eq_true,if_false]
  rw [check_eq,Option.bind_some,chkE_ne]
  generalize gt w.T (i:Int)=t
  cases hc:chk t with
  | false=>rfl
  | true =>
   rw [if_neg (by simp)]
   have hb:=(chk_bounds hc)
   have hpr:0≤t.Prog:=by
    unfold chk at hc
    simp only [Bool.and_eq_true,decide_eq_true_eq,life_below] at hc
    omega
   cases h7:t.State==7 with
   | true=>simp
   | false =>
    rw [if_neg (by simp),if_pos (by omega)]
    cases hid:t.Id != (IntKind.i64.wrap ((IntKind.i64.wrap ((gt w.Ids.Gen (i:Int))*256))+(i:Int))) with
    | true=>simp
    | false =>
     rw [if_neg (by simp)]
     cases hte:decide (t.Tenant≥(c.Weights.length:Int)) with
     | true=>simp
     | false =>
      rw [if_neg (by simp)]
      cases hpg:decide (t.Prog≥(c.Progs.length:Int)) with
      | true=>simp
      | false =>
       rw [decide_eq_false_iff_not] at hpg
       rw [if_neg (by simp),if_pos (by omega)]
       obtain ⟨q,hq⟩:∃q:Nat,t.Prog=(q:Int):=⟨t.Prog.toNat,by omega⟩
       have hql:q < c.Progs.length:=by omega
       rw [hq,gt_nat hql,next_eq (hp _ (List.getElem_mem hql)),Option.bind_some]
       cases fitB t c.Progs[q]<;>rfl
theorem rtasks_eq {c:api_Config} {w:api_World} (hp:∀p∈c.Progs,pok p):r20_tasks c w=some (ckSlot w.Ids&&(((w.Ids.Gen.length:Int)==c.Tasks)&&(((w.T.length:Int)==c.Tasks)&&!(List.range w.T.length).any (badT c w)))):=by
 unfold r20_tasks
 rw [rslot_eq,Option.bind_some]
 cases hs:ckSlot w.Ids with
 | false=>rfl
 | true =>
  have hsl:=ckSlot_is hs
  by_cases h1:(w.Ids.Gen.length:Int)=c.Tasks
  ·by_cases h2:(w.T.length:Int)=c.Tasks
   ·have e1:((w.Ids.Gen.length:Int)==c.Tasks)=true:=by simpa using h1
    have e2:((w.T.length:Int)==c.Tasks)=true:=by simpa using h2
    rw [e1,e2,if_neg (by simp [h1,h2])]
    rw [whileO_seek (step:=r20_tasks_s1 c w) (badT c w) (List.range w.T.length) (fun _=>some false) (some true) (by simp;omega),seek_any]
    ·cases (List.range w.T.length).any (badT c w)<;>rfl
    ·intro i hi
     rw [List.length_range] at hi
     have hgi:gt (List.range w.T.length) (i:Int)=i:=by rw [gt_nat (by simpa using hi),List.getElem_range]
     rw [hgi,r20_tasks_s1,if_pos (by simpa using hi),if_pos (by omega),if_pos (by omega)]
     unfold badT
     cases hl:gt w.Ids.Live (i:Int) with
     | false =>
      rw [if_pos (show (!false)=true from rfl),if_pos (show (!false)=true from rfl)]
     | true =>
      simp only [Bool.not_true,Bool.false_eq_true,if_false]
      rw [rcheck_eq,Option.bind_some,chkE_ne]
      generalize gt w.T (i:Int)=t
      cases hc:chk t with
      | false=>rfl
      | true =>
       rw [if_neg (by simp)]
       have hpr:0≤t.Prog:=by
        unfold chk at hc
        simp only [Bool.and_eq_true,decide_eq_true_eq,life_below] at hc
        omega
       cases h7:t.State==7 with
       | true=>simp
       | false =>
        rw [if_neg (by simp),if_pos (by omega),Int.mul_comm 256]
        cases hid:t.Id != (IntKind.i64.wrap ((IntKind.i64.wrap ((gt w.Ids.Gen (i:Int))*256))+(i:Int))) with
        | true=>simp
        | false =>
         rw [if_neg (by simp)]
         cases hte:decide (t.Tenant≥(c.Weights.length:Int)) with
         | true=>simp
         | false =>
          rw [if_neg (by simp)]
          cases hpg:decide (t.Prog≥(c.Progs.length:Int)) with
          | true=>simp
          | false =>
           rw [decide_eq_false_iff_not] at hpg
           rw [if_neg (by simp),if_pos (by omega)]
           obtain ⟨q,hq⟩:∃q:Nat,t.Prog=(q:Int):=⟨t.Prog.toNat,by omega⟩
           have hql:q < c.Progs.length:=by omega
           rw [hq,gt_nat hql,fits_eq (hp _ (List.getElem_mem hql)),Option.bind_some]
           cases fitB t c.Progs[q]<;>rfl
    ·rw [List.length_range,r20_tasks_s1,if_neg (by simp)]
   ·have e2:((w.T.length:Int)==c.Tasks)=false:=by simpa using h2
    rw [e2,if_pos (by simp [h2])];simp
  ·have e1:((w.Ids.Gen.length:Int)==c.Tasks)=false:=by simpa using h1
   rw [e1,if_pos (by simp [h1])];simp
end Go.Proofs.YtkkimimkcchlnaaGreat
