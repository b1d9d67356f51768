/- Helper lemmas for the claim's theorem: an abstract machine over the model, proved sound; no condition beyond each lemma's own. -/
import Derived.Test.YtmlcinmdkhmjhaaGreatL20cq
set_option linter.unusedVariables false
set_option linter.unusedSimpArgs false
set_option linter.unnecessarySimpa false
set_option linter.unusedSectionVars false
namespace Go.Proofs.YtmlcinmdkhmjhaaGreat
open Go Go.AM
set_option maxRecDepth 100000
set_option maxHeartbeats 1000000
set_option linter.unusedVariables false
set_option linter.unusedSimpArgs false
def tens (ws qs:List Int):List api_Tenant:=List.zipWith (fun w q=>api_Tenant.mk w q 0 0 0) ws qs
theorem tens_len {ws qs:List Int} (h:ws.length=qs.length):(tens ws qs).length=ws.length:=by unfold tens;rw [List.length_zipWith];omega
theorem tens_get {ws qs:List Int} {i:Nat} (h1:i < ws.length) (h2:i < qs.length):(tens ws qs)[i]'(by unfold tens;rw [List.length_zipWith];omega)=api_Tenant.mk ws[i] qs[i] 0 0 0:=by unfold tens;rw [List.getElem_zipWith]
def ckT (l:List api_Tenant):Bool:=!((decide ((l.length:Int) < 1))||(decide ((l.length:Int) > 16)))&&!l.any lodge_odd
theorem lodgeCheck_eq {l:List api_Tenant} (h:l.length≤1000000):lodge_Check l=some (if ckT l then 0 else 1):=by
 unfold lodge_Check ckT
 by_cases hl:((decide ((l.length:Int) < 1))||(decide ((l.length:Int) > 16)))=true
 ·rw [if_pos hl,hl];rfl
 ·rw [if_neg hl]
  unfold slices_ContainsFunc_api_Tenant_api_Tenant_odd182 slices_IndexFunc_api_Tenant_api_Tenant_odd182
  rw [whileO_index (step:=slices_IndexFunc_api_Tenant_api_Tenant_odd182_s1 l) lodge_odd l (by omega) (fun v=>rfl)]
  simp only [Option.bind_some]
  rw [idxOf_any]
  rw [Bool.not_eq_true] at hl
  rw [hl]
  cases l.any lodge_odd<;>rfl
theorem rodd_eq (x:api_Tenant):((((((!(r14_in (x.Weight) 1 16))||(!(r14_in (x.Quota) 0 256)))||(decide ((x.Live) < 0)))||(decide ((x.Live) > (x.Quota))))||(!(r14_in (x.Tag) 0 1152921504606846976)))||(!(r14_in (x.Ran) 0 1099511627776)))=lodge_odd x:=by
 unfold lodge_odd lodge_within_int lodge_within_int64 r14_in
 rw [Bool.eq_iff_iff];simp;omega
theorem tenCheck_eq {l:List api_Tenant} (h:l.length≤1000000):r14_Check l=some (if ckT l then 0 else 1):=by
 unfold r14_Check ckT
 by_cases hl:((decide ((l.length:Int) < 1))||(decide ((l.length:Int) > 16)))=true
 ·rw [if_pos hl,hl];rfl
 ·rw [if_neg hl]
  rw [whileO_seek (step:=r14_Check_s1 l) lodge_odd l (fun _=>some 1) (some 0) (by omega),seek_any]
  ·rw [Bool.not_eq_true] at hl
   rw [hl]
   cases l.any lodge_odd<;>rfl
  ·intro i hi
   rw [r14_Check_s1,if_pos (by simpa using hi),if_pos (by omega),rodd_eq]
  ·rw [r14_Check_s1,if_neg (by simp)]
def nwE (ws qs:List Int):Int:=if ws.length=qs.length∧ckT (tens ws qs)=true then 0 else 1
theorem ckT_len {l:List api_Tenant} (h:l.length > 16):ckT l=false:=by unfold ckT;simp;omega
theorem lodgeNew_eq {ws qs:List Int} (hw:ws.length≤100) (hq:qs.length≤100):∃r,lodge_New ws qs=some (r,nwE ws qs):=by
 unfold lodge_New nwE
 by_cases he:ws.length=qs.length
 ·by_cases hl:ws.length≤16
  ·have htl:=tens_len he
   rw [if_neg (by simp;omega),if_pos (by omega),Int.toNat_natCast]
   have hrep:(List.replicate ws.length api_Tenant.zero).length=ws.length:=List.length_replicate
   have hstep:∀i,i < ws.length→lodge_New_s2 ws qs ((tens ws qs).take i++List.replicate (ws.length - i) api_Tenant.zero,(i:Int))=some (.inl ((tens ws qs).take (i+1)++List.replicate (ws.length - (i+1)) api_Tenant.zero,((i+1:Nat):Int))):=fun i hi=>by
    have hi2:i < qs.length:=by omega
    have hi3:i < (tens ws qs).length:=by omega
    rw [lodge_New_s2,Int.toNat_natCast,hrep,if_pos (by simpa using hi),if_pos (by omega),if_pos (by omega),if_pos (by simp;omega),gt_nat hi,gt_nat hi2,w64_nat (by omega)]
    have e:List.replicate (ws.length - i) api_Tenant.zero=api_Tenant.zero::List.replicate (ws.length - (i+1)) api_Tenant.zero:=by
     rw [show ws.length - i=(ws.length - (i+1))+1 by omega,List.replicate_succ]
    have htk:((tens ws qs).take i).length=i:=by rw [List.length_take];omega
    have e2:st ((tens ws qs).take i++List.replicate (ws.length - i) api_Tenant.zero) (i:Int) (api_Tenant.mk ws[i] qs[i] 0 0 0)=(tens ws qs).take (i+1)++List.replicate (ws.length - (i+1)) api_Tenant.zero:=by
     unfold st
     rw [e,Int.toNat_natCast,List.set_append_right _ _ (by omega),htk,Nat.sub_self,List.take_succ_eq_append_getElem hi3,tens_get hi hi2,List.append_assoc]
     rfl
    rw [e2];rfl
   have h1:=whileO_run (step:=lodge_New_s2 ws qs) (fun i=>((tens ws qs).take i++List.replicate (ws.length - i) api_Tenant.zero,(i:Int))) ws.length hstep
   simp only [List.take_zero,List.nil_append,Nat.sub_zero,Nat.sub_self,List.replicate_zero,List.append_nil] at h1
   have h0:(List.replicate ws.length api_Tenant.zero,(0:Int))=(List.replicate ws.length api_Tenant.zero,((0:Nat):Int)):=rfl
   rw [h0,h1,List.take_of_length_le (by omega)]
   have hend:lodge_New_s2 ws qs (tens ws qs,(ws.length:Int))=inrO (some (if ckT (tens ws qs)=true then (tens ws qs,0) else ([],1))):=by
    rw [lodge_New_s2,Int.toNat_natCast,hrep,if_neg (by simp),lodgeCheck_eq (by omega),Option.bind_some]
    cases ckT (tens ws qs)<;>rfl
   rw [whileO_inr hend]
   cases ckT (tens ws qs) with
   | true=>exact ⟨_,by rw [if_pos rfl,if_pos ⟨he,rfl⟩]⟩
   | false=>exact ⟨_,by rw [if_neg (by simp),if_neg (by simp)]⟩
  ·rw [if_pos (by simp;omega),if_neg (by rw [ckT_len (by rw [tens_len he];omega)];simp)]
   exact ⟨_,rfl⟩
 ·rw [if_pos (by simp;omega),if_neg (fun h=>he h.1)]
  exact ⟨_,rfl⟩
theorem tenNew_eq {ws qs:List Int} (hw:ws.length≤100) (hq:qs.length≤100):∃r,r14_New ws qs=some (r,nwE ws qs):=by
 unfold r14_New nwE
 by_cases he:ws.length=qs.length
 ·have htl:=tens_len he
  rw [if_neg (by simp;omega)]
  have hstep:∀i,i < ws.length→r14_New_s2 ws qs ((tens ws qs).take i,(i:Int))=some (.inl ((tens ws qs).take (i+1),((i+1:Nat):Int))):=fun i hi=>by
   have hi2:i < qs.length:=by omega
   have hi3:i < (tens ws qs).length:=by omega
   rw [r14_New_s2,if_pos (by simpa using hi),if_pos (by omega),if_pos (by omega),gt_nat hi,gt_nat hi2,if_pos (show few _ by unfold few;simp;omega),w64_nat (by omega),List.take_succ_eq_append_getElem hi3,tens_get hi hi2];rfl
  have h1:=whileO_run (step:=r14_New_s2 ws qs) (fun i=>((tens ws qs).take i,(i:Int))) ws.length hstep
  simp only [List.take_zero] at h1
  have h0:(([]:List api_Tenant),(0:Int))=([],((0:Nat):Int)):=rfl
  rw [h0,h1,List.take_of_length_le (by omega)]
  have hend:r14_New_s2 ws qs (tens ws qs,(ws.length:Int))=inrO (some (if ckT (tens ws qs)=true then (tens ws qs,0) else ([],1))):=by
   rw [r14_New_s2,if_neg (by simp),tenCheck_eq (by omega),Option.bind_some]
   cases ckT (tens ws qs)<;>rfl
  rw [whileO_inr hend]
  cases ckT (tens ws qs) with
  | true=>exact ⟨_,by rw [if_pos rfl,if_pos ⟨he,rfl⟩]⟩
  | false=>exact ⟨_,by rw [if_neg (by simp),if_neg (by simp)]⟩
 ·rw [if_pos (by simp;omega),if_neg (fun h=>he h.1)]
  exact ⟨_,rfl⟩
def oddS (n:Int):Bool:=(sema_New n).2 != 0
def farC (c:api_Config) (x:api_Instr):Bool:=((x.Op==5)&&decide (x.A≥c.Fds))||(((x.Op==7)||(x.Op==8))&&decide (x.A≥(c.Sems.length:Int)))
structure cok (c:api_Config):Prop where
 progs:poks c.Progs
 ws:c.Weights.length≤100
 qs:c.Quotas.length≤100
 sems:c.Sems.length≤100
theorem far_j300 (i k:Nat) (b:Bool):entry_Config_j300 (i:Int) (k:Int) b=if b=true then inrO (inrO (some 1)) else nextO (IntKind.i64.wrap ((k:Int)+1)):=by
 rw [entry_Config_j300,entry_Config_j293,entry_Config_j196]
 cases b<;>simp
theorem far_inner {c:api_Config} (h:cok c) {i:Nat} (hi:i < c.Progs.length):whileO (entry_Config_s298 c (i:Int)) 0=if c.Progs[i].any (farC c) then inrO (some 1) else nextO (IntKind.i64.wrap ((i:Int)+1)):=by
 have hp:=h.progs.2 _ (List.getElem_mem hi)
 rw [whileO_seek (step:=entry_Config_s298 c (i:Int)) (farC c) c.Progs[i] (fun _=>inrO (some 1)) (nextO (IntKind.i64.wrap ((i:Int)+1))) (by omega)]
 ·rw [seek_any]
 ·intro k hk
  rw [entry_Config_s298,gt_nat hi,if_pos (by simpa using hk),if_pos (by omega),entry_Config_j301,entry_Config_j301,gt_nat hi]
  generalize gt c.Progs[i] (k:Int)=x
  rw [far_j300,far_j300,far_j300]
  unfold farC
  by_cases h5:x.Op=5
  ·simp [h5]
  ·by_cases h7:x.Op=7
   ·simp [h7]
   ·by_cases h8:x.Op=8
    ·simp [h8]
    ·simp [h5,h7,h8]
 ·rw [entry_Config_s298,gt_nat hi,if_neg (by simp),entry_Config_j293,if_neg (by simp)]
theorem rfar_inner {c:api_Config} (h:cok c) {i:Nat} (hi:i < c.Progs.length):whileO (r19_Config_s6 c (i:Int)) 0=if c.Progs[i].any (farC c) then inrO (some 1) else nextO (IntKind.i64.wrap ((i:Int)+1)):=by
 have hp:=h.progs.2 _ (List.getElem_mem hi)
 rw [whileO_seek (step:=r19_Config_s6 c (i:Int)) (farC c) c.Progs[i] (fun _=>inrO (some 1)) (nextO (IntKind.i64.wrap ((i:Int)+1))) (by omega)]
 ·rw [seek_any]
 ·intro j hj
  rw [r19_Config_s6,gt_nat hi,if_pos (by simpa using hj),if_pos (by omega)];rfl
 ·rw [r19_Config_s6,gt_nat hi,if_neg (by simp)]
def restE (c:api_Config):Int:=if c.Sems.any oddS=true then 1 else if c.Progs.any (fun p=>p.any (farC c))=true then 1 else 0
theorem far_eq {c:api_Config} (h:cok c):whileO (entry_Config_s261 c) 0=some (if c.Progs.any (fun p=>p.any (farC c))=true then 1 else 0):=by
 rw [whileO_seek (step:=entry_Config_s261 c) (fun p=>p.any (farC c)) c.Progs (fun _=>some 1) (some 0) (by have:=h.progs.1;omega),seek_any]
 ·split<;>rfl
 ·intro i hi
  rw [entry_Config_s261,if_pos (by simpa using hi),if_pos (by omega),far_inner h hi,gt_nat hi]
 ·rw [entry_Config_s261,if_neg (by simp),entry_Config_j196,if_neg (by simp)]
theorem rfar_eq {c:api_Config} (h:cok c):whileO (r19_Config_s5 c) 0=some (if c.Progs.any (fun p=>p.any (farC c))=true then 1 else 0):=by
 rw [whileO_seek (step:=r19_Config_s5 c) (fun p=>p.any (farC c)) c.Progs (fun _=>some 1) (some 0) (by have:=h.progs.1;omega),seek_any]
 ·split<;>rfl
 ·intro i hi
  rw [r19_Config_s5,if_pos (by simpa using hi),if_pos (by omega),rfar_inner h hi,gt_nat hi]
 ·rw [r19_Config_s5,if_neg (by simp)]
theorem sems_eq {l:List Int} (h:l.length≤100):slices_ContainsFunc_int_int_194 l=some (l.any oddS):=by
 unfold slices_ContainsFunc_int_int_194 slices_IndexFunc_int_int_194
 rw [whileO_index (step:=slices_IndexFunc_int_int_194_s1 l) oddS l (by omega) (fun v=>rfl)]
 simp only [Option.bind_some]
 rw [idxOf_any]
theorem rrest_eq {c:api_Config} (h:cok c):whileO (r19_Config_s2 c) 0=some (restE c):=by
 unfold restE
 rw [whileO_seek (step:=r19_Config_s2 c) oddS c.Sems (fun _=>some 1) (some (if c.Progs.any (fun p=>p.any (farC c))=true then 1 else 0)) (by have:=h.sems;omega),seek_any]
 ·split<;>rfl
 ·intro i hi
  rw [r19_Config_s2,if_pos (by simpa using hi),if_pos (by omega)];rfl
 ·rw [r19_Config_s2,if_neg (by simp),rfar_eq h]
def cfgE (c:api_Config):Int :=
 if ckAll c.Progs=true∧nwE c.Weights c.Quotas=0 then restE c else 1
theorem config_eq {c:api_Config} (h:cok c):∃e,entry_Config c=some e∧r19_Config c=some e:=by
 have hb:(((!(((((entry_within c.Workers 1 64)&&(entry_within c.Cap 1 1024))&&(entry_within c.Budget 1 100))&&(entry_within c.Tasks 1 256))&&(entry_within c.Fds 0 16)))||(decide ((IntKind.i64.wrap (c.Workers*(IntKind.i64.wrap (c.Cap+2)))) > 65536)))||(decide ((c.Sems.length:Int) > 8)))=(((((((!(r19_in c.Workers 1 64))||(!(r19_in c.Cap 1 1024)))||(decide ((IntKind.i64.wrap (c.Workers*(IntKind.i64.wrap (c.Cap+2)))) > 65536)))||(!(r19_in c.Budget 1 100)))||(!(r19_in c.Tasks 1 256)))||(!(r19_in c.Fds 0 16)))||(decide ((c.Sems.length:Int) > 8))):=by
  have e:∀a b d,entry_within a b d=r19_in a b d:=fun _ _ _=>rfl
  simp only [e]
  generalize r19_in c.Workers 1 64=a1
  generalize r19_in c.Cap 1 1024=a2
  generalize r19_in c.Budget 1 100=a3
  generalize r19_in c.Tasks 1 256=a4
  generalize r19_in c.Fds 0 16=a5
  generalize decide ((IntKind.i64.wrap (c.Workers*(IntKind.i64.wrap (c.Cap+2)))) > 65536)=a6
  generalize decide ((c.Sems.length:Int) > 8)=a7
  cases a1<;>cases a2<;>cases a3<;>cases a4<;>cases a5<;>cases a6<;>cases a7<;>rfl
 unfold entry_Config r19_Config
 rw [hb]
 split
 ·exact ⟨1,rfl,rfl⟩
 ·obtain ⟨r1,h1⟩:=lodgeNew_eq h.ws h.qs
  obtain ⟨r2,h2⟩:=tenNew_eq h.ws h.qs
  rw [checkAll_eq h.progs,rcheckAll_eq h.progs,h1,h2,sems_eq h.sems,far_eq h,rrest_eq h]
  simp only [Option.bind_some]
  refine ⟨cfgE c,?_,?_⟩
  ·unfold cfgE restE
   cases ckAll c.Progs with
   | false=>simp
   | true =>
    by_cases hn:nwE c.Weights c.Quotas=0
    ·simp only [hn]
     cases c.Sems.any oddS<;>simp
    ·simp [hn]
  ·unfold cfgE
   cases ckAll c.Progs with
   | false=>by_cases hn:nwE c.Weights c.Quotas=0<;>simp [hn]
   | true=>by_cases hn:nwE c.Weights c.Quotas=0<;>simp [hn]
end Go.Proofs.YtmlcinmdkhmjhaaGreat
namespace Go.Proofs.YtmlcinmdkhmjhaaGreat
open Go Go.AM
set_option maxRecDepth 100000
set_option maxHeartbeats 1000000
set_option linter.unusedVariables false
set_option linter.unusedSimpArgs false
def seenW (w:api_World) (i:Nat) (k:Int):Bool:=(List.range i).any (fun j=>((gt w.W (j:Int)).Task==k)||((gt w.W (j:Int)).Kid==k))
def crewDup (w:api_World) (i:Nat):Bool :=
 (((gt w.W (i:Int)).Task != -1)&&seenW w i (gt w.W (i:Int)).Task)||(((gt w.W (i:Int)).Kid != -1)&&(seenW w i (gt w.W (i:Int)).Kid||((gt w.W (i:Int)).Task==(gt w.W (i:Int)).Kid)))
theorem met_two (w:api_World) {i:Nat} (hi:i≤1000000) {M:List (Int×Bool)} (hM:∀k,(mget M k).getD false=((k != -1)&&seenW w i k)) :
 (crewDup w i=true∧whileO (crew_Check_s8 w (i:Int)) (0,M)=some (.inr 1)) ∨
 (crewDup w i=false∧∃M',whileO (crew_Check_s8 w (i:Int)) (0,M)=some (.inl (((i+1:Nat):Int),M'))∧∀k,(mget M' k).getD false=((k != -1)&&seenW w (i+1) k)):=by
 have hs:∀k,seenW w (i+1) k=(seenW w i k||(((gt w.W (i:Int)).Task==k)||((gt w.W (i:Int)).Kid==k))):=fun k=>by
  unfold seenW
  rw [List.range_succ,List.any_append]
  simp
 have s0:∀M,crew_Check_s8 w (i:Int) (0,M)=if ((mget M (gt w.W (i:Int)).Task).getD false)=true then some (.inr (.inr 1)) else some (.inl (1,mput M (gt w.W (i:Int)).Task ((gt w.W (i:Int)).Task != -1))):=fun M=>by
  rw [crew_Check_s8,if_pos (by simp),if_pos (by omega)];rfl
 have s1:∀M,crew_Check_s8 w (i:Int) (1,M)=if ((mget M (gt w.W (i:Int)).Kid).getD false)=true then some (.inr (.inr 1)) else some (.inl (2,mput M (gt w.W (i:Int)).Kid ((gt w.W (i:Int)).Kid != -1))):=fun M=>by
  rw [crew_Check_s8,if_pos (by simp),if_pos (by omega)];rfl
 have s2:∀M,crew_Check_s8 w (i:Int) (2,M)=some (.inr (.inl (((i+1:Nat):Int),M))):=fun M=>by
  rw [crew_Check_s8,if_neg (by simp),w64_nat (by omega)];rfl
 unfold crewDup
 generalize gt w.W (i:Int)=x at hs s0 s1
 have hM2:∀k,(mget (mput M x.Task (x.Task != -1)) k).getD false=((k != -1)&&(seenW w i k||(x.Task==k))):=fun k=>by
  rw [mget_mput]
  by_cases e:k=x.Task
  ·subst e;simp
  ·rw [if_neg e,hM]
   have:(x.Task==k)=false:=by simpa using Ne.symm e
   rw [this,Bool.or_false]
 have hM3:∀k,(mget (mput (mput M x.Task (x.Task != -1)) x.Kid (x.Kid != -1)) k).getD false=((k != -1)&&seenW w (i+1) k):=fun k=>by
  rw [mget_mput,hs]
  by_cases e:k=x.Kid
  ·subst e;simp
  ·rw [if_neg e,hM2]
   have:(x.Kid==k)=false:=by simpa using Ne.symm e
   rw [this,Bool.or_false]
 cases h1:((x.Task != -1)&&seenW w i x.Task) with
 | true =>
  refine .inl ⟨rfl,whileO_inr ?_⟩
  rw [s0,hM,h1,if_pos rfl]
 | false =>
  have e0:crew_Check_s8 w (i:Int) (0,M)=some (.inl (1,mput M x.Task (x.Task != -1))):=by rw [s0,hM,h1,if_neg (by simp)]
  rw [whileO_inl e0]
  cases h2:((x.Kid != -1)&&(seenW w i x.Kid||(x.Task==x.Kid))) with
  | true =>
   refine .inl ⟨rfl,whileO_inr ?_⟩
   rw [s1,hM2,h2,if_pos rfl]
  | false =>
   refine .inr ⟨rfl,_,?_,hM3⟩
   rw [whileO_inl (by rw [s1,hM2,h2,if_neg (by simp)])]
   exact whileO_inr (s2 _)
theorem crew_workers {c:api_Config} {w:api_World} (hl:w.W.length≤1000000) (hw:∀i,i < w.W.length→crew_checker_worker ⟨c,w⟩ (i:Int)=some (workOk c w i)):∀(m i:Nat) (M:List (Int×Bool)),i+m=w.W.length→(∀k,(mget M k).getD false=((k != -1)&&seenW w i k)) →
 whileO (crew_Check_s7 c w) ((i:Int),M)=some (if ((List.range w.W.length).drop i).any (fun i=>!workOk c w i||crewDup w i)=true then 1 else 0)
 | 0,i,M,h,hM=>by
  have:i=w.W.length:=by omega
  subst this
  rw [whileO_inr (k:=0) (by rw [crew_Check_s7,if_neg (by simp)];rfl),List.drop_eq_nil_of_le (by simp)];rfl
 | m+1,i,M,h,hM=>by
  have hi:i < w.W.length:=by omega
  rw [drop_range hi,List.any_cons]
  have hst:crew_Check_s7 c w ((i:Int),M)=if (!workOk c w i)=true then some (.inr 1) else whileO (crew_Check_s8 w (i:Int)) (0,M):=by
   rw [crew_Check_s7,if_pos (by simpa using hi),if_pos (by omega),hw i hi,Option.bind_some];rfl
  cases hk:workOk c w i with
  | false=>rw [whileO_inr (k:=1) (by rw [hst,hk];rfl)];rfl
  | true =>
   rw [hk] at hst
   simp only [Bool.not_true,Bool.false_eq_true,if_false] at hst
   rcases met_two w (by omega) hM with ⟨h1,h2⟩|⟨h1,M',h2,h3⟩
   ·rw [whileO_inr (k:=1) (by rw [hst,h2]),h1];rfl
   ·rw [whileO_inl (by rw [hst,h2]),crew_workers hl hw m (i+1) M' (by omega) h3,h1];rfl
theorem seen_iff {w:api_World} {i:Nat} {k:Int}:seenW w i k=true↔∃j,j < i∧((gt w.W (j:Int)).Task=k∨(gt w.W (j:Int)).Kid=k):=by
 unfold seenW
 rw [List.any_eq_true]
 constructor
 ·rintro ⟨j,hj,h⟩;exact ⟨j,by simpa using hj,by simpa using h⟩
 ·rintro ⟨j,hj,h⟩;exact ⟨j,by simpa using hj,by simpa using h⟩
theorem dup_same {w:api_World} (hid:∀i:Nat,i < w.W.length→(gt w.W (i:Int)).Task≥-1∧(gt w.W (i:Int)).Kid≥-1):(List.range w.W.length).any (crewDup w)=(List.range w.W.length).any (dupAt w):=by
 rw [Bool.eq_iff_iff,List.any_eq_true,List.any_eq_true]
 have mk:∀i k,i < w.W.length→k < w.W.length→dupC w i k=true→∃x,x∈List.range w.W.length∧dupAt w x=true:=fun i k hi hk h =>
  ⟨i,by simpa using hi,by unfold dupAt;rw [List.any_eq_true];exact ⟨k,by simpa using hk,h⟩⟩
 constructor
 ·rintro ⟨i,hi,h⟩
  have hi:i < w.W.length:=by simpa using hi
  have hb:=hid i hi
  unfold crewDup at h
  rw [Bool.or_eq_true,Bool.and_eq_true,Bool.and_eq_true,Bool.or_eq_true,seen_iff,seen_iff] at h
  simp only [bne_iff_ne,ne_eq,beq_iff_eq] at h
  rcases h with ⟨h1,j,hj,h2|h2⟩|⟨h1,⟨j,hj,h2|h2⟩|h2⟩
  ·exact mk i j hi (by omega) (by unfold dupC;simp [h2];omega)
  ·exact mk i j hi (by omega) (by unfold dupC;simp [h2];omega)
  ·exact mk j i (by omega) hi (by unfold dupC;simp [h2];omega)
  ·exact mk i j hi (by omega) (by unfold dupC;simp [h2];omega)
  ·exact mk i i hi hi (by unfold dupC;simp [h2];omega)
 ·rintro ⟨i,hi,h⟩
  have hi:i < w.W.length:=by simpa using hi
  unfold dupAt at h
  rw [List.any_eq_true] at h
  obtain ⟨k,hk,h⟩:=h
  have hk:k < w.W.length:=by simpa using hk
  have out:∀i,i < w.W.length→(((gt w.W (i:Int)).Task≠-1∧∃j,j < i∧((gt w.W (j:Int)).Task=(gt w.W (i:Int)).Task∨(gt w.W (j:Int)).Kid=(gt w.W (i:Int)).Task))∨((gt w.W (i:Int)).Kid≠-1∧((∃j,j < i∧((gt w.W (j:Int)).Task=(gt w.W (i:Int)).Kid∨(gt w.W (j:Int)).Kid=(gt w.W (i:Int)).Kid))∨(gt w.W (i:Int)).Task=(gt w.W (i:Int)).Kid))) →
   ∃x,x∈List.range w.W.length∧crewDup w x=true:=fun i hi h=>⟨i,by simpa using hi,by
   unfold crewDup
   rw [Bool.or_eq_true,Bool.and_eq_true,Bool.and_eq_true,Bool.or_eq_true,seen_iff,seen_iff]
   simpa only [bne_iff_ne,ne_eq,beq_iff_eq] using h⟩
  unfold dupC at h
  simp only [Bool.or_eq_true,Bool.and_eq_true,decide_eq_true_eq,bne_iff_ne,ne_eq,beq_iff_eq] at h
  rcases h with ⟨h1,⟨h2,h3⟩|h3⟩|⟨⟨h1,h2⟩,h3⟩
  ·rcases Nat.lt_trichotomy k i with hki|hki|hki
   ·exact out i hi (.inl ⟨by omega,k,hki,.inl h3⟩)
   ·omega
   ·exact out k hk (.inl ⟨by omega,i,hki,.inl h3.symm⟩)
  ·rcases Nat.lt_trichotomy k i with hki|hki|hki
   ·exact out i hi (.inl ⟨by omega,k,hki,.inr h3⟩)
   ·subst hki;exact out k hk (.inr ⟨by omega,.inr h3.symm⟩)
   ·exact out k hk (.inr ⟨by omega,.inl ⟨i,hki,.inl h3.symm⟩⟩)
  ·rcases Nat.lt_trichotomy k i with hki|hki|hki
   ·exact out i hi (.inr ⟨by omega,.inl ⟨k,hki,.inr h3⟩⟩)
   ·omega
   ·exact out k hk (.inr ⟨by omega,.inl ⟨i,hki,.inr h3.symm⟩⟩)
end Go.Proofs.YtmlcinmdkhmjhaaGreat
