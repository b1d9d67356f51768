/- Helper lemmas for the claim's theorem: an abstract machine over the model, proved sound; no condition beyond each lemma's own. -/
import Derived.Test.YtmlcinmdkhmjhaaGreatL20cx
set_option linter.unusedVariables false
set_option linter.unusedSimpArgs false
set_option linter.unnecessarySimpa false
set_option linter.unusedSectionVars false
namespace Go.Proofs.YtmlcinmdkhmjhaaGreat
open Go Go.AM
set_option maxRecDepth 100000
set_option maxHeartbeats 1000000
set_option linter.unusedVariables false
set_option linter.unusedSimpArgs false
theorem lodgeNew_eq_ten {ws qs:List Int} (hz:nwE ws qs=0):lodge_New ws qs=some (tens ws qs,0):=by
 have hn:ws.length=qs.length∧ckT (tens ws qs)=true:=by
  unfold nwE at hz;by_cases h:ws.length=qs.length∧ckT (tens ws qs)=true
  ·exact h
  ·rw [if_neg h] at hz;cases hz
 obtain ⟨he,hck⟩:=hn
 have hl:ws.length≤16:=by
  have:=tens_len he
  by_cases h:ws.length≤16
  ·exact h
  ·rw [ckT_len (by omega)] at hck;cases hck
 unfold lodge_New
 ·have htl:=tens_len he
  rw [if_neg (by simp;omega),if_pos (by omega),Int.toNat_natCast]
  have hrep:(List.replicate ws.length api_Tenant.zero).length=ws.length:=List.length_replicate
  have hstep:∀i,i < ws.length→lodge_New_s2 ws qs ((tens ws qs).take i++List.replicate (ws.length - i) api_Tenant.zero,(i:Int))=some (.inl ((tens ws qs).take (i+1)++List.replicate (ws.length - (i+1)) api_Tenant.zero,((i+1:Nat):Int))):=fun i hi=>by
   have hi2:i < qs.length:=by omega
   have hi3:i < (tens ws qs).length:=by omega
   rw [lodge_New_s2,Int.toNat_natCast,hrep,if_pos (by simpa using hi),if_pos (by omega),if_pos (by omega),if_pos (by simp;omega),gt_nat hi,gt_nat hi2,w64_nat (by omega)]
   have e:List.replicate (ws.length - i) api_Tenant.zero=api_Tenant.zero::List.replicate (ws.length - (i+1)) api_Tenant.zero:=by
    rw [show ws.length - i=(ws.length - (i+1))+1 by omega,List.replicate_succ]
   have htk:((tens ws qs).take i).length=i:=by rw [List.length_take];omega
   have e2:st ((tens ws qs).take i++List.replicate (ws.length - i) api_Tenant.zero) (i:Int) (api_Tenant.mk ws[i] qs[i] 0 0 0)=(tens ws qs).take (i+1)++List.replicate (ws.length - (i+1)) api_Tenant.zero:=by
    unfold st
    rw [e,Int.toNat_natCast,List.set_append_right _ _ (by omega),htk,Nat.sub_self,List.take_succ_eq_append_getElem hi3,tens_get hi hi2,List.append_assoc]
    rfl
   rw [e2];rfl
  have h1:=whileO_run (step:=lodge_New_s2 ws qs) (fun i=>((tens ws qs).take i++List.replicate (ws.length - i) api_Tenant.zero,(i:Int))) ws.length hstep
  simp only [List.take_zero,List.nil_append,Nat.sub_zero,Nat.sub_self,List.replicate_zero,List.append_nil] at h1
  have h0:(List.replicate ws.length api_Tenant.zero,(0:Int))=(List.replicate ws.length api_Tenant.zero,((0:Nat):Int)):=rfl
  rw [h0,h1,List.take_of_length_le (by omega)]
  have hend:lodge_New_s2 ws qs (tens ws qs,(ws.length:Int))=inrO (some (if ckT (tens ws qs)=true then (tens ws qs,0) else ([],1))):=by
   rw [lodge_New_s2,Int.toNat_natCast,hrep,if_neg (by simp),lodgeCheck_eq (by omega),Option.bind_some]
   cases ckT (tens ws qs)<;>rfl
  rw [whileO_inr hend,if_pos hck]
theorem tenNew_eq_ten {ws qs:List Int} (hz:nwE ws qs=0):r14_New ws qs=some (tens ws qs,0):=by
 have hn:ws.length=qs.length∧ckT (tens ws qs)=true:=by
  unfold nwE at hz;by_cases h:ws.length=qs.length∧ckT (tens ws qs)=true
  ·exact h
  ·rw [if_neg h] at hz;cases hz
 obtain ⟨he,hck⟩:=hn
 have hl:ws.length≤16:=by
  have:=tens_len he
  by_cases h:ws.length≤16
  ·exact h
  ·rw [ckT_len (by omega)] at hck;cases hck
 unfold r14_New
 ·have htl:=tens_len he
  rw [if_neg (by simp;omega)]
  have hstep:∀i,i < ws.length→r14_New_s2 ws qs ((tens ws qs).take i,(i:Int))=some (.inl ((tens ws qs).take (i+1),((i+1:Nat):Int))):=fun i hi=>by
   have hi2:i < qs.length:=by omega
   have hi3:i < (tens ws qs).length:=by omega
   rw [r14_New_s2,if_pos (by simpa using hi),if_pos (by omega),if_pos (by omega),gt_nat hi,gt_nat hi2,if_pos (show few _ by unfold few;simp;omega),w64_nat (by omega),List.take_succ_eq_append_getElem hi3,tens_get hi hi2];rfl
  have h1:=whileO_run (step:=r14_New_s2 ws qs) (fun i=>((tens ws qs).take i,(i:Int))) ws.length hstep
  simp only [List.take_zero] at h1
  have h0:(([]:List api_Tenant),(0:Int))=([],((0:Nat):Int)):=rfl
  rw [h0,h1,List.take_of_length_le (by omega)]
  have hend:r14_New_s2 ws qs (tens ws qs,(ws.length:Int))=inrO (some (if ckT (tens ws qs)=true then (tens ws qs,0) else ([],1))):=by
   rw [r14_New_s2,if_neg (by simp),tenCheck_eq (by omega),Option.bind_some]
   cases ckT (tens ws qs)<;>rfl
  rw [whileO_inr hend,if_pos hck]
theorem ten_bounds {ws qs:List Int} (hz:nwE ws qs=0):1≤ws.length∧ws.length≤16:=by
 unfold nwE at hz
 by_cases h:ws.length=qs.length∧ckT (tens ws qs)=true
 ·have hl:=tens_len h.1
  have:=h.2
  unfold ckT at this
  simp only [Bool.and_eq_true,Bool.not_eq_true',Bool.or_eq_false_iff,decide_eq_false_iff_not] at this
  omega
 ·rw [if_neg h] at hz;cases hz
structure cfgOk (c:api_Config):Prop where
 w1:1≤c.Workers
 w2:c.Workers≤64
 c1:1≤c.Cap
 c2:c.Cap≤1024
 t1:1≤c.Tasks
 t2:c.Tasks≤256
 f1:0≤c.Fds
 f2:c.Fds≤16
 m:c.Workers*(c.Cap+2)≤65536
 s:c.Sems.length≤8
 n:nwE c.Weights c.Quotas=0
theorem within_iff {a b d:Int}:entry_within a b d=true↔b≤a∧a≤d:=by unfold entry_within;simp
theorem mem_wrap {c:api_Config} (h1:1≤c.Workers) (h2:c.Workers≤64) (h3:1≤c.Cap) (h4:c.Cap≤1024):IntKind.i64.wrap (c.Workers*(IntKind.i64.wrap (c.Cap+2)))=c.Workers*(c.Cap+2)∧0≤c.Workers*(c.Cap+2):=by
 have e:IntKind.i64.wrap (c.Cap+2)=c.Cap+2:=w64_id (by omega) (by omega)
 have a:c.Workers*(c.Cap+2)≤64*(c.Cap+2):=Int.mul_le_mul_of_nonneg_right h2 (by omega)
 have b:0≤c.Workers*(c.Cap+2):=Int.mul_nonneg (by omega) (by omega)
 exact ⟨by rw [e,w64_id (by omega) (by omega)],b⟩
theorem config_ok {c:api_Config} (h:cok c):(entry_Config c=some 0∧cfgOk c)∨entry_Config c=some 1:=by
 unfold entry_Config
 by_cases hb:(((!(((((entry_within c.Workers 1 64)&&(entry_within c.Cap 1 1024))&&(entry_within c.Budget 1 100))&&(entry_within c.Tasks 1 256))&&(entry_within c.Fds 0 16)))||(decide ((IntKind.i64.wrap (c.Workers*(IntKind.i64.wrap (c.Cap+2)))) > 65536)))||(decide ((c.Sems.length:Int) > 8)))=true
 ·rw [if_pos hb];exact .inr rfl
 ·rw [if_neg hb]
  simp only [Bool.or_eq_true,Bool.not_eq_true',not_or,decide_eq_true_eq,Bool.not_eq_false,Bool.and_eq_true,within_iff] at hb
  obtain ⟨⟨⟨⟨⟨⟨⟨w1,w2⟩,c1,c2⟩,_⟩,t1,t2⟩,f1,f2⟩,hm⟩,hs⟩:=hb
  have hmm:=mem_wrap w1 w2 c1 c2
  rw [hmm.1] at hm
  obtain ⟨r1,h1⟩:=lodgeNew_eq h.ws h.qs
  rw [checkAll_eq h.progs,h1,sems_eq h.sems,far_eq h]
  simp only [Option.bind_some]
  cases ckAll c.Progs with
  | false=>right;simp
  | true =>
   by_cases hn:nwE c.Weights c.Quotas=0
   ·simp only [hn]
    cases c.Sems.any oddS with
    | true=>right;simp
    | false =>
     cases c.Progs.any (fun p=>p.any (farC c)) with
     | true=>right;simp
     | false=>left;exact ⟨by simp,w1,w2,c1,c2,t1,t2,f1,f2,by omega,by omega,hn⟩
   ·right
    have:nwE c.Weights c.Quotas=1:=by unfold nwE at hn ⊢;split at hn<;>simp_all
    simp [this]
theorem map_succ {α β:Type} [Inhabited α] {f:α→β} {l:List α} {i:Nat} (h:i < l.length):(l.take i).map f++[f (gt l (i:Int))]=(l.take (i+1)).map f:=by
 rw [gt_nat h,List.take_succ_eq_append_getElem h,List.map_append];rfl
def begin (c:api_Config):api_World :=
 api_World.mk 0 api_Dice.zero (api_Places.mk (List.replicate c.Tasks.toNat 0) (List.replicate c.Tasks.toNat false)) (List.replicate c.Tasks.toNat api_Task.zero) (List.replicate (c.Workers*(c.Cap+2)).toNat 0)
  (api_Chains.mk (List.replicate c.Tasks.toNat (-2)) (List.replicate c.Weights.length (-1)) (List.replicate c.Weights.length (-1))) (tens c.Weights c.Quotas) [] (List.replicate c.Fds.toNat poll_shut) (c.Sems.map fun n=>api_Sem.mk n []) [] (api_Idle.mk (List.replicate c.Workers.toNat 0) []) (List.replicate c.Workers.toNat r20_Fresh) false []
theorem crew_begin {c:api_Config} (h:cok c) (he:entry_Config c=some 0) (k:cfgOk c):crew_Start c=some (begin c,0):=by
 obtain ⟨hb1,hb2⟩:=ten_bounds k.n
 have hmm:=mem_wrap k.w1 k.w2 k.c1 k.c2
 rw [crew_Start,he,Option.bind_some,if_neg (by simp)]
 show (if 0≤c.Tasks∧c.Tasks≤c.Tasks∧c.Tasks≤549755813888 then _ else none)=_
 rw [if_pos ⟨by have:=k.t1;omega,Int.le_refl _,by have:=k.t2;omega⟩,rep_worker (by have:=k.w1;omega) (by have:=k.w2;omega),Option.bind_some,(slot_begin k.t1 k.t2).1]
 simp only [Option.bind_some]
 rw [hmm.1,(cell_begin hmm.2 k.m).1]
 simp only [Option.bind_some]
 rw [(chain_begin k.t1 k.t2 (by omega:(1:Int)≤(c.Weights.length:Int)) (by omega)).1]
 simp only [Option.bind_some]
 rw [lodgeNew_eq_ten k.n]
 simp only [Option.bind_some]
 rw [(poll_begin k.f1 k.f2).1]
 simp only [Option.bind_some]
 rw [idle_New,if_neg (by have:=k.w1;have:=k.w2;simp;omega),if_pos ⟨by have:=k.w1;omega,Int.le_refl _,by have:=k.w2;omega⟩]
 simp only [Option.bind_some]
 generalize hst:crew_Start_s2 c _ _ _ _ _ _ _ _ _ _ _ _ _=step
 have hs:∀i,i < c.Sems.length→step ((i:Int),(c.Sems.take i).map fun n=>api_Sem.mk n [])=some (.inl (((i+1:Nat):Int),(c.Sems.take (i+1)).map fun n=>api_Sem.mk n [])):=fun i hi=>by
  have:=k.s
  rw [←hst,crew_Start_s2,if_pos (by simpa using hi),if_pos (by omega),map_succ hi,if_pos (fewN (by simp;omega)),w64_nat (by omega)];rfl
 have h1:=whileO_run (step:=step) (fun i=>((i:Int),(c.Sems.take i).map fun n=>api_Sem.mk n [])) c.Sems.length hs
 simp only [List.take_zero,List.map_nil] at h1
 have h0:((0:Int),([]:List api_Sem))=(((0:Nat):Int),[]):=rfl
 rw [h0,h1]
 refine whileO_inr ?_
 rw [←hst,crew_Start_s2,if_neg (by simp),if_neg (by decide),List.take_of_length_le (Nat.le_refl _)]
 simp only [begin,Int.toNat_natCast]
 rfl
theorem ref_begin {c:api_Config} (h:cok c) (he:entry_Config c=some 0) (k:cfgOk c):r20_Start c=some (begin c,0):=by
 obtain ⟨hb1,hb2⟩:=ten_bounds k.n
 have hmm:=mem_wrap k.w1 k.w2 k.c1 k.c2
 obtain ⟨e,e1,e2⟩:=config_eq h
 rw [he] at e1;cases e1
 rw [r20_Start,e2,Option.bind_some,if_neg (by simp),(slot_begin k.t1 k.t2).2]
 simp only [Option.bind_some]
 rw [if_pos ⟨by have:=k.t1;omega,Int.le_refl _,by have:=k.t2;omega⟩,hmm.1,(cell_begin hmm.2 k.m).2]
 simp only [Option.bind_some]
 rw [(chain_begin k.t1 k.t2 (by omega:(1:Int)≤(c.Weights.length:Int)) (by omega)).2]
 simp only [Option.bind_some]
 rw [tenNew_eq_ten k.n]
 simp only [Option.bind_some]
 rw [(poll_begin k.f1 k.f2).2]
 simp only [Option.bind_some]
 generalize hst:r20_Start_s2 c _ _ _ _ _=step
 have hs:∀i,i < c.Sems.length→step ((i:Int),(c.Sems.take i).map fun n=>api_Sem.mk n [])=some (.inl (((i+1:Nat):Int),(c.Sems.take (i+1)).map fun n=>api_Sem.mk n [])):=fun i hi=>by
  have:=k.s
  rw [←hst,r20_Start_s2,if_pos (by simpa using hi),if_pos (by omega),map_succ hi,if_pos (fewN (by simp;omega)),w64_nat (by omega)];rfl
 have h1:=whileO_run (step:=step) (fun i=>((i:Int),(c.Sems.take i).map fun n=>api_Sem.mk n [])) c.Sems.length hs
 simp only [List.take_zero,List.map_nil] at h1
 have h0:((0:Int),([]:List api_Sem))=(((0:Nat):Int),[]):=rfl
 rw [h0,h1,List.take_of_length_le (Nat.le_refl _)]
 refine whileO_inr ?_
 rw [←hst,r20_Start_s2,if_neg (by simp),r17_New,if_neg (by have:=k.w1;have:=k.w2;simp;omega),if_pos ⟨by have:=k.w1;omega,Int.le_refl _,by have:=k.w2;omega⟩]
 simp only [Option.bind_some]
 generalize hst2:r20_Start_s3 c _ _ _ _ _ _ _=step2
 have hs2:∀i,i < c.Workers.toNat→step2 ((i:Int),List.replicate i r20_Fresh)=some (.inl (((i+1:Nat):Int),List.replicate (i+1) r20_Fresh)):=fun i hi=>by
  have:=k.w2
  rw [←hst2,r20_Start_s3,if_pos (by simp;omega)]
  unfold letO
  simp only [rep_succ]
  rw [if_pos (fewN (by simp;omega)),w64_nat (by omega)];rfl
 have h2:=whileO_run (step:=step2) (fun i=>((i:Int),List.replicate i r20_Fresh)) c.Workers.toNat hs2
 have h00:((0:Int),([]:List api_Worker))=(((0:Nat):Int),List.replicate 0 r20_Fresh):=rfl
 rw [h00,h2]
 have hfin:whileO step2 ((c.Workers.toNat:Int),List.replicate c.Workers.toNat r20_Fresh)=some (begin c,0):=by
  refine whileO_inr ?_
  rw [←hst2,r20_Start_s3,if_neg (by have:=k.w1;simp;omega)]
  simp only [begin,Int.toNat_natCast]
  rfl
 rw [hfin];rfl
theorem start_same {c:api_Config} (h:cok c):∃w e,crew_Start c=some (w,e)∧r20_Start c=some (w,e)∧((w=begin c∧cfgOk c∧e=0)∨(w=api_World.zero∧e=1)):=by
 rcases config_ok h with ⟨he,k⟩|he
 ·exact ⟨begin c,0,crew_begin h he k,ref_begin h he k,.inl ⟨rfl,k,rfl⟩⟩
 ·obtain ⟨e,e1,e2⟩:=config_eq h
  rw [he] at e1;cases e1
  refine ⟨api_World.zero,1,?_,?_,.inr ⟨rfl,rfl⟩⟩
  ·rw [crew_Start,he];rfl
  ·rw [r20_Start,e2];rfl
end Go.Proofs.YtmlcinmdkhmjhaaGreat
