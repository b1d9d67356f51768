/- Helper lemmas for the claim's theorem: an abstract machine over the model, proved sound; no condition beyond each lemma's own. -/
import Derived.Test.YtkkimimkcchlnaaGreatL24tc
set_option linter.unusedVariables false
set_option linter.unusedSimpArgs false
set_option linter.unnecessarySimpa false
set_option linter.unusedSectionVars false
namespace Go.Proofs.YtkkimimkcchlnaaGreat
open Go Go.AM
set_option maxRecDepth 100000
set_option maxHeartbeats 1000000
set_option linter.unusedVariables false
set_option linter.unusedSimpArgs false
theorem foldD_shift {g:Int→Option Int} (hg:∀j k,g j=some k→0≤k) {a:Int} (ha:0≤a):∀{r:List Int} {s v:Int},0≤s→foldD g r s=some v→foldD g r (addC a s)=some (addC a v)
 | [],s,v,hs,h=>by rw [foldD] at h ⊢;injection h with h;rw [h]
 | j::r,s,v,hs,h=>by
  rw [foldD] at h ⊢
  cases hj:g j with
  | none=>rw [hj] at h;cases h
  | some k =>
   rw [hj] at h
   have hk:=hg j k hj
   have e:addC (addC a s) k=addC a (addC s k):=by unfold addC;repeat' split<;>omega
   show foldD g r (addC (addC a s) k)=some (addC a v)
   rw [e]
   exact foldD_shift hg ha (by unfold addC;split<;>omega) h
def foldS (f:Int→Int):List Int→Int→Int
 | [],n=>n
 | j::r,n=>if f j=0 then 0 else foldS f r (addB n (f j))
def soundW (l:List (List api_Instr)) (j x:Int):Prop:=x=0∨((1≤x∧x≤2199023255552)∧∃m,Fw l m j=some (minC x))
theorem foldS_sound {l:List (List api_Instr)} {f:Int→Int}:∀{ks:List Int} {n:Int},(∀j∈ks,soundW l j (f j))→1≤n∧n≤2199023255552 →
 foldS f ks n=0∨((1≤foldS f ks n∧foldS f ks n≤2199023255552)∧∃m,foldD (Fw l m) ks (minC n)=some (minC (foldS f ks n)))
 | [],n,_,hn=>.inr ⟨hn,0,rfl⟩
 | j::r,n,hf,hn=>by
  rw [foldS]
  rcases hf j (by simp) with h0|⟨hb,m1,hm1⟩
  ·rw [if_pos h0];exact .inl rfl
  ·rw [if_neg (by omega)]
   rcases foldS_sound (l:=l) (f:=f) (ks:=r) (n:=addB n (f j)) (fun i hi=>hf i (by simp [hi])) (addB_bounds hn.1 hb.1) with h1|⟨h1,m2,hm2⟩
   ·exact .inl h1
   ·refine .inr ⟨h1,max m1 m2,?_⟩
    rw [foldD,Fw_le (Nat.le_max_left m1 m2) hm1]
    show foldD (Fw l (max m1 m2)) r (addC (minC n) (minC (f j)))=_
    rw [minC_add hn.1 hb.1]
    exact foldD_mono (fun j k=>Fw_le (Nat.le_max_right m1 m2)) _ _ _ hm2
theorem foldS_ne {f:Int→Int}:∀{ks:List Int} {n:Int},(∀j∈ks,1≤f j)→1≤n→1≤foldS f ks n
 | [],n,_,hn=>hn
 | j::r,n,hf,hn=>by
  have hj:=hf j (by simp)
  rw [foldS,if_neg (by omega)]
  exact foldS_ne (fun i hi=>hf i (by simp [hi])) (addB_bounds hn hj).1
theorem sum_inner {K:List Int} {s:List api_Instr} (hs:s.length≤1000000) (hk:∀x∈s,x.Op=2→0≤x.A∧x.A < K.length) (hb:∀x∈K,0≤x∧x≤2199023255552) :
 ∀(m q:Nat) (n:Int),q+m=s.length→0≤n∧n≤2199023255552→whileO (r24_sum_s1 K s) (n,(q:Int))=some (foldS (gt K) (kidsOf (s.drop q)) n)
 | 0,q,n,h,hn=>by
  have:q=s.length:=by omega
  subst this
  refine whileO_inr ?_
  rw [r24_sum_s1,if_neg (by simp),List.drop_length];rfl
 | m+1,q,n,h,hn=>by
  have hq:q < s.length:=by omega
  rw [List.drop_eq_getElem_cons hq]
  by_cases h2:s[q].Op=2
  ·have hkid:kidsOf (s[q]::s.drop (q+1))=s[q].A::kidsOf (s.drop (q+1)):=by unfold kidsOf;rw [List.filter_cons_of_pos (by simp [h2])];rfl
   have hr:=hk _ (List.getElem_mem hq) h2
   have hg:0≤gt K s[q].A∧gt K s[q].A≤2199023255552:=by
    obtain ⟨z,hz⟩:∃z:Nat,s[q].A=(z:Int):=⟨s[q].A.toNat,by omega⟩
    rw [hz,gt_nat (by omega)];exact hb _ (List.getElem_mem _)
   rw [hkid,foldS]
   by_cases h0:gt K s[q].A=0
   ·rw [if_pos h0]
    refine whileO_inr ?_
    rw [r24_sum_s1,if_pos (by simpa using hq),if_pos (by omega),gt_nat hq,if_pos (by simp [h2]),if_pos hr,if_pos (by simp [h0])];rfl
   ·have hab:0≤addB n (gt K s[q].A)∧addB n (gt K s[q].A)≤2199023255552:=by unfold addB;split<;>omega
    rw [if_neg h0,←sum_inner hs hk hb m (q+1) _ (by omega) hab]
    refine whileO_inl ?_
    rw [r24_sum_s1,if_pos (by simpa using hq),if_pos (by omega),gt_nat hq,if_pos (by simp [h2]),if_pos hr,if_neg (by simp [h0]),if_pos hr,w64_nat (by omega),w64_id (n:=n+gt K s[q].A) (by omega) (by omega)];rfl
  ·have hkid:kidsOf (s[q]::s.drop (q+1))=kidsOf (s.drop (q+1)):=by unfold kidsOf;rw [List.filter_cons_of_neg (by simp [h2])]
   rw [hkid,←sum_inner hs hk hb m (q+1) n (by omega) hn]
   refine whileO_inl ?_
   rw [r24_sum_s1,if_pos (by simpa using hq),if_pos (by omega),gt_nat hq,if_neg (by simp [h2]),w64_nat (by omega)];rfl
structure TabW (l:List (List api_Instr)) (p:Nat) (i:Int) (K:List Int):Prop where
 len:K.length=l.length
 sound:∀j:Int,0≤j→j < l.length→soundW l j (gt K j)
 comp:∀j:Int,0≤j→j < l.length→(∀v,Fw l p j=some v→gt K j≠0)∧(j < i→∀v,Fw l (p+1) j=some v→gt K j≠0)
theorem TabW.bounds {l:List (List api_Instr)} {p:Nat} {i:Int} {K:List Int} (h:TabW l p i K):∀x∈K,0≤x∧x≤2199023255552:=fun x hx=>by
 obtain ⟨q,hq,rfl⟩:=List.mem_iff_getElem.1 hx
 have:=h.len
 have hs:=h.sound (q:Int) (by omega) (by omega)
 rw [gt_nat hq] at hs
 rcases hs with h1|⟨h1,_⟩<;>omega
theorem Fw_made {l:List (List api_Instr)} (hu:Un l) {i w:Int} {m:Nat} (h:foldD (Fw l m) (kids l i) (minC (un (gt l i)+1))=some w):Fw l (m+1) i=some w:=by
 have hb:=hu i
 have e:minC (un (gt l i)+1)=addC (un (gt l i)+1) 0:=by unfold minC addC;repeat' split<;>omega
 obtain ⟨v,hv⟩:=foldD_all (f:=Fw l m) (r:=kids l i) (n:=0) (fun j hj=>foldD_kid h j hj)
 have h2:=foldD_shift (Fw_nonneg hu m) (a:=un (gt l i)+1) (by omega) (by omega) hv
 rw [←e,h] at h2
 rw [Fw,hv]
 exact h2.symm
theorem TabW.next {l:List (List api_Instr)} (hl:Pr l) (hu:Un l) {p:Nat} {i:Int} {K:List Int} (h:TabW l p i K) (hi:0≤i∧i < l.length):TabW l p (i+1) (st K i (foldS (gt K) (kids l i) (un (gt l i)+1))):=by
 have hlen:=h.len
 have hiK:0≤i∧i < K.length:=by omega
 have hb:=hu i
 have hkid:∀j∈kids l i,0≤j∧j < l.length:=fun j hj=>hl.kid i j hi.1 hi.2 hj
 refine ⟨by unfold st;rw [List.length_set];exact hlen,fun j hj0 hj=>?_,fun j hj0 hj=>?_⟩
 ·rw [gt_stI j _ hiK hj0]
  split
  ·rename_i e
   subst e
   rcases foldS_sound (l:=l) (f:=gt K) (ks:=kids l j) (n:=un (gt l j)+1) (fun q hq=>h.sound q (hkid q hq).1 (hkid q hq).2) (by omega) with h1|⟨h1,m,h2⟩
   ·exact .inl h1
   ·exact .inr ⟨h1,m+1,Fw_made hu h2⟩
  ·exact h.sound j hj0 hj
 ·have hnew:∀v,Fw l (p+1) i=some v→foldS (gt K) (kids l i) (un (gt l i)+1)≠0:=fun v hv=>by
   rw [Fw,Option.map_eq_some_iff] at hv
   obtain ⟨w,hw,_⟩:=hv
   have:=foldS_ne (f:=gt K) (ks:=kids l i) (n:=un (gt l i)+1) (fun q hq=>by
    obtain ⟨k,hk⟩:=foldD_kid hw q hq
    have h1:=(h.comp q (hkid q hq).1 (hkid q hq).2).1 k hk
    rcases h.sound q (hkid q hq).1 (hkid q hq).2 with h2|⟨h2,_⟩<;>omega) (by omega)
   omega
  rw [gt_stI j _ hiK hj0]
  split
  ·rename_i e
   subst e
   exact ⟨fun v hv=>hnew v (Fw_step l p j v hv),fun _ v hv=>hnew v hv⟩
  ·rename_i e
   exact ⟨(h.comp j hj0 hj).1,fun hji v hv=>(h.comp j hj0 hj).2 (by omega) v hv⟩
theorem TabW.pass {l:List (List api_Instr)} {p:Nat} {K:List Int} (h:TabW l p (l.length:Int) K):TabW l (p+1) 0 K :=
 ⟨h.len,h.sound,fun j hj0 hj=>⟨(h.comp j hj0 hj).2 hj,fun hn=>by omega⟩⟩
theorem rsum_eq {l:List (List api_Instr)} {K:List Int} {p:List api_Instr} (hp:p.length≤1000000) (hc:chkP p=true) (hk:∀x∈p,x.Op=2→0≤x.A∧x.A < K.length) (hb:∀x∈K,0≤x∧x≤2199023255552) :
 r24_sum l K p=some (foldS (gt K) (kidsOf (reach p)) (un p+1)):=by
 have hun:=un_bounds (chkP_parts hc).2.2 (chkP_parts hc).2.1
 have hrl:=reach_len p
 unfold r24_sum
 rw [runits_eq (by omega),hc]
 simp only [Option.bind_some,if_true]
 rw [if_neg (by simp),run_eq hp,Option.bind_some,w64_id (n:=un p+1) (by omega) (by omega)]
 have:=sum_inner (K:=K) (s:=reach p) (by omega) (fun x hx h2=>hk x (reach_mem hx) h2) hb (reach p).length 0 (un p+1) (by omega) (by omega)
 simpa using this
theorem tabW_pass {l:List (List api_Instr)} (hl:Pr l) (hu:Un l) (hc:∀p∈l,chkP p=true) (hk:∀p∈l,∀x∈p,x.Op=2→0≤x.A∧x.A < l.length) (v:Int):∀(m q p:Nat) (K:List Int),q+m=l.length→TabW l p (q:Int) K→∃K',TabW l p (l.length:Int) K'∧whileO (r24_table_s4 l v) (K,(q:Int))=nextO (K',IntKind.i64.wrap (v+1))
 | 0,q,p,K,h,hT=>by
  have:q=l.length:=by omega
  subst this
  exact ⟨K,hT,whileO_inr (by rw [r24_table_s4,if_neg (by simp)];rfl)⟩
 | m+1,q,p,K,h,hT=>by
  have hq:q < l.length:=by omega
  have hlen:=hT.len
  have hl16:=hl.len
  have hone:=hl.one _ (List.getElem_mem hq)
  have hin:=rsum_eq (l:=l) (K:=K) (p:=l[q]) (by omega) (hc _ (List.getElem_mem hq)) (fun x hx h2=>by have:=hk _ (List.getElem_mem hq) x hx h2;omega) hT.bounds
  obtain ⟨K',h1,h2⟩:=tabW_pass hl hu hc hk v m (q+1) p _ (by omega) (by have:=hT.next hl hu (i:=(q:Int)) (by omega);simpa using this)
  refine ⟨K',h1,?_⟩
  rw [←h2]
  refine whileO_inl ?_
  rw [r24_table_s4,if_pos (by simpa using hq),if_pos (by omega),gt_nat hq,hin,Option.bind_some,if_pos (by omega),w64_nat (by omega)]
  unfold kids
  rw [gt_nat hq];rfl
theorem tabW_passes {l:List (List api_Instr)} (hl:Pr l) (hu:Un l) (hc:∀p∈l,chkP p=true) (hk:∀p∈l,∀x∈p,x.Op=2→0≤x.A∧x.A < l.length):∀(m p:Nat) (K:List Int),p+m=l.length→TabW l p 0 K→∃K',TabW l l.length 0 K'∧whileO (r24_table_s3 l) (K,(p:Int))=some K'
 | 0,p,K,h,hT=>by
  have:p=l.length:=by omega
  subst this
  exact ⟨K,hT,whileO_inr (by rw [r24_table_s3,if_neg (by simp)];rfl)⟩
 | m+1,p,K,h,hT=>by
  have hp:p < l.length:=by omega
  have hl16:=hl.len
  obtain ⟨K1,h1,h2⟩:=tabW_pass hl hu hc hk (p:Int) l.length 0 p K (by omega) (by simpa using hT)
  obtain ⟨K',h3,h4⟩:=tabW_passes hl hu hc hk m (p+1) K1 (by omega) h1.pass
  refine ⟨K',h3,?_⟩
  rw [←h4]
  refine whileO_inl ?_
  rw [r24_table_s3,if_pos (by simpa using hp)]
  rw [show ((0:Nat):Int)=0 from rfl] at h2
  rw [h2,w64_nat (by omega)];rfl
theorem tableW_eq {l:List (List api_Instr)} (hl:Pr l) (hc:∀p∈l,chkP p=true) (hk:∀p∈l,∀x∈p,x.Op=2→0≤x.A∧x.A < l.length):∃K,TabW l l.length 0 K∧r24_table l=some K:=by
 have hl16:=hl.len
 have hz:∀j:Int,0≤j→j < l.length→gt (List.replicate l.length (0:Int)) j=0:=fun j h0 hj=>by
  obtain ⟨z,rfl⟩:∃z:Nat,j=(z:Int):=⟨j.toNat,by omega⟩
  rw [gt_nat (by simp;omega)];simp
 obtain ⟨K,h3,h4⟩:=tabW_passes hl (ck_un hc) hc hk l.length 0 (List.replicate l.length 0) (by omega) ⟨by simp,fun j h0 hj=>.inl (hz j h0 hj),fun j h0 hj=>⟨fun v hv=>(by cases hv),fun hn=>(by omega)⟩⟩
 refine ⟨K,h3,?_⟩
 unfold r24_table
 rw [if_pos (by omega)]
 simpa using h4
theorem full_same {l:List (List api_Instr)} {i:Int} (h:poks l):∃r,drain_Full l i=some r∧r24_Full l i=some r:=by
 obtain ⟨⟨n,e⟩,t1,t2⟩:=tasks_same (i:=i) h
 by_cases hb:ckAll l=false∨¬(0≤i∧i < l.length)
 ·have t3:=tasks_bad h hb
  rw [t3] at t1;cases t1
  refine ⟨_,Full_bad t3 (by omega),?_⟩
  unfold r24_Full
  rw [t2];rfl
 ·rw [not_or,Bool.not_eq_false,Classical.not_not] at hb
  obtain ⟨hc,hi⟩:=hb
  have hl:=(ckAll_pr hc).1
  have hcp:=(ckAll_pr hc).2
  rcases tasks_ok h hc hi with ⟨m,d,hd,t3⟩|⟨_,t3⟩
  ·by_cases hg:d > 1099511627776
   ·rw [if_pos hg] at t3
    rw [t3] at t1;cases t1
    refine ⟨_,Full_bad t3 (by omega),?_⟩
    unfold r24_Full
    rw [t2];rfl
   ·rw [if_neg hg] at t3
    rw [t3] at t1;cases t1
    obtain ⟨w,hw⟩:=D_full hl hd hi
    obtain ⟨k,hk⟩:=Fw_of _ _ _ hw
    refine ⟨_,Full_ok h hc hi hd (by omega) hk,?_⟩
    obtain ⟨K,hT,hK⟩:=tableW_eq hl hcp (ckAll_kid hc)
    have hne:=(hT.comp i hi.1 hi.2).1 k hk
    rcases hT.sound i hi.1 hi.2 with h0|⟨hb,m2,hm2⟩
    ·exact absurd h0 hne
    ·have:=Fw_uniq hm2 hk
     unfold r24_Full
     rw [t2]
     simp only [Option.bind_some]
     rw [if_neg (by simp),hK,Option.bind_some,if_pos (by have:=hT.len;omega)]
     unfold minC at this
     by_cases h2:gt K i > 1099511627776
     ·rw [if_pos (by simpa using h2),if_pos (by split at this<;>omega)]
     ·rw [if_neg (by simpa using h2),if_neg (by split at this<;>omega)]
      split at this
      ·rw [this]
      ·omega
  ·rw [t3] at t1;cases t1
   refine ⟨_,Full_bad t3 (by omega),?_⟩
   unfold r24_Full
   rw [t2];rfl
end Go.Proofs.YtkkimimkcchlnaaGreat
