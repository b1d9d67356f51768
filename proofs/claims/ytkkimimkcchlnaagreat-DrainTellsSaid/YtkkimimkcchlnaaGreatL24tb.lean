/- Helper lemmas for the claim's theorem: an abstract machine over the model, proved sound; no condition beyond each lemma's own. -/
import Derived.Test.YtkkimimkcchlnaaGreatL24ta
set_option linter.unusedVariables false
set_option linter.unusedSimpArgs false
set_option linter.unnecessarySimpa false
set_option linter.unusedSectionVars false
namespace Go.Proofs.YtkkimimkcchlnaaGreat
open Go Go.AM
set_option maxRecDepth 100000
set_option maxHeartbeats 1000000
set_option linter.unusedVariables false
set_option linter.unusedSimpArgs false
theorem rcodeCheck_eq {p:List api_Instr} (h:p.length≤9223372036854775807):r04_Check p=some (if chkP p then 0 else 1):=by
 unfold r04_Check chkP
 by_cases hl:((decide ((p.length:Int) < 1))||(decide ((p.length:Int) > 32)))=true
 ·rw [if_pos hl,if_neg]
  simp only [Bool.or_eq_true,decide_eq_true_eq] at hl
  simp only [Bool.and_eq_true,decide_eq_true_eq];omega
 ·rw [if_neg hl]
  simp only [Bool.or_eq_true,decide_eq_true_eq] at hl
  rw [whileO_seek (step:=r04_Check_s1 p) (fun x=>!r04_may x) p (fun _=>some 1) (some 0) h (fun i hi=>by rw [r04_Check_s1,if_pos (by simpa using hi),if_pos (by omega)]) (by rw [r04_Check_s1,if_neg (by simp)])]
  rw [seek_any]
  have h1:decide (1≤p.length)=true:=by simp;omega
  have h2:decide (p.length≤32)=true:=by simp;omega
  have h3:(p.any fun x=>!r04_may x)=!p.all r04_may:=by
   clear h h1 h2 hl
   induction p with
   | nil=>rfl
   | cons x r ih=>rw [List.any_cons,List.all_cons,ih,Bool.not_and]
  rw [h1,h2,h3]
  cases p.all r04_may<;>rfl
theorem run_eq {p:List api_Instr} (h:p.length≤1000000):r04_Run p=some (reach p):=by
 unfold r04_Run
 rw [whileO_seek (step:=r04_Run_s1 p) isX p (fun i=>some (p.take (i+1))) (some p) (by omega)]
 ·rw [reach_idx]
  have:∀(l:List api_Instr) (i:Nat),seek isX (fun i=>some (p.take (i+1))) (some p) i l=some (match l.findIdx? isX with|some k=>p.take (i+k+1)|none=>p):=by
   intro l
   induction l with
   | nil=>intro i;rfl
   | cons x r ih =>
    intro i
    rw [seek,List.findIdx?_cons]
    cases hx:isX x with
    | true=>simp
    | false =>
     simp only [Bool.false_eq_true,if_false]
     rw [ih]
     cases List.findIdx? isX r with
     | none=>rfl
     | some k=>simp only [Option.map_some];congr 2;omega
  rw [this p 0]
  cases List.findIdx? isX p<;>simp
 ·intro i hi
  rw [r04_Run_s1,if_pos (by simpa using hi),if_pos (by omega),gt_nat hi]
  show (if (p[i].Op==9)=true then _ else _)=if isX p[i]=true then _ else _
  unfold isX
  split
  ·rw [w64_nat (by omega),if_pos (by omega),sub_take];rfl
  ·rfl
 ·rw [r04_Run_s1,if_neg (by simp)]
theorem rcheckAll_inner {l:List (List api_Instr)} (h:poks l) {i:Nat} (hi:i < l.length):whileO (r04_CheckAll_s4 l (i:Int)) 0=if l[i].any (spawnsFar l.length) then inrO (some 1) else nextO (IntKind.i64.wrap ((i:Int)+1)):=by
 have hp:=h.2 _ (List.getElem_mem hi)
 rw [whileO_seek (step:=r04_CheckAll_s4 l (i:Int)) (spawnsFar l.length) l[i] (fun _=>inrO (some 1)) (nextO (IntKind.i64.wrap ((i:Int)+1))) (by omega)]
 ·rw [seek_any]
 ·intro j hj
  rw [r04_CheckAll_s4,gt_nat hi,if_pos (by simpa using hj),if_pos (by omega)];rfl
 ·rw [r04_CheckAll_s4,gt_nat hi,if_neg (by simp)]
theorem rcheckAll_eq {l:List (List api_Instr)} (h:poks l):r04_CheckAll l=some (if ckAll l then 0 else 1):=by
 unfold r04_CheckAll ckAll
 by_cases hl:((decide ((l.length:Int) < 1))||(decide ((l.length:Int) > 16)))=true
 ·rw [if_pos hl,hl];rfl
 ·rw [if_neg hl]
  rw [whileO_seek (step:=r04_CheckAll_s3 l) (badP l.length) l (fun _=>some 1) (some 0) (by have:=h.1;omega),seek_any]
  ·rw [Bool.not_eq_true] at hl
   rw [hl]
   cases l.any (badP l.length)<;>rfl
  ·intro i hi
   rw [r04_CheckAll_s3,if_pos (by simpa using hi),if_pos (by omega),gt_nat hi,rcodeCheck_eq (h.2 _ (List.getElem_mem hi)).2.1,Option.bind_some,rcheckAll_inner h hi]
   exact badP_if
  ·rw [r04_CheckAll_s3,if_neg (by simp)]
def addB (n k:Int):Int:=if 2199023255552 < n+k then 2199023255552 else n+k
def minC (n:Int):Int:=if n < 1099511627777 then n else 1099511627777
def foldT (f:Int→Int):List Int→Int→Int
 | [],n=>n
 | j::r,n=>if n > 0 then (if f j=0 then foldT f r 0 else foldT f r (addB n (f j))) else foldT f r n
theorem foldT_zero (f:Int→Int):∀r,foldT f r 0=0
 | []=>rfl
 | j::r=>by rw [foldT,if_neg (by omega)];exact foldT_zero f r
theorem minC_add {n k:Int} (hn:1≤n) (hk:1≤k):addC (minC n) (minC k)=minC (addB n k):=by
 unfold addC minC addB
 repeat' split
 all_goals omega
theorem addB_bounds {n k:Int} (hn:1≤n) (hk:1≤k):1≤addB n k∧addB n k≤2199023255552:=by unfold addB;split<;>omega
def soundV (l:List (List api_Instr)) (j x:Int):Prop:=x=0∨((1≤x∧x≤2199023255552)∧∃m,D l m j=some (minC x))
theorem foldT_sound {l:List (List api_Instr)} {f:Int→Int}:∀{ks:List Int} {n:Int},(∀j∈ks,soundV l j (f j))→1≤n∧n≤2199023255552 →
 foldT f ks n=0∨((1≤foldT f ks n∧foldT f ks n≤2199023255552)∧∃m,foldD (D l m) ks (minC n)=some (minC (foldT f ks n)))
 | [],n,_,hn=>.inr ⟨hn,0,rfl⟩
 | j::r,n,hf,hn=>by
  rw [foldT,if_pos (by omega)]
  rcases hf j (by simp) with h0|⟨hb,m1,hm1⟩
  ·rw [if_pos h0];exact .inl (foldT_zero f r)
  ·rw [if_neg (by omega)]
   rcases foldT_sound (l:=l) (f:=f) (ks:=r) (n:=addB n (f j)) (fun i hi=>hf i (by simp [hi])) (addB_bounds hn.1 hb.1) with h1|⟨h1,m2,hm2⟩
   ·exact .inl h1
   ·refine .inr ⟨h1,max m1 m2,?_⟩
    rw [foldD,D_le (Nat.le_max_left m1 m2) hm1]
    show foldD (D l (max m1 m2)) r (addC (minC n) (minC (f j)))=_
    rw [minC_add hn.1 hb.1]
    exact foldD_mono (fun j k=>D_le (Nat.le_max_right m1 m2)) _ _ _ hm2
theorem foldT_ne {f:Int→Int}:∀{ks:List Int} {n:Int},(∀j∈ks,1≤f j)→1≤n→1≤foldT f ks n
 | [],n,_,hn=>hn
 | j::r,n,hf,hn=>by
  have hj:=hf j (by simp)
  rw [foldT,if_pos (by omega),if_neg (by omega)]
  exact foldT_ne (fun i hi=>hf i (by simp [hi])) (addB_bounds hn hj).1
theorem tab_inner {l:List (List api_Instr)} {K:List Int} {i:Int} (hi:0≤i∧i < K.length) {s:List api_Instr} (hs:s.length≤1000000) (hk:∀x∈s,x.Op=2→0≤x.A∧x.A < K.length) (hb:∀x∈K,0≤x∧x≤2199023255552) (hil:i≤1000000) :
 ∀(m q:Nat) (n:Int),q+m=s.length→0≤n∧n≤2199023255552→whileO (r04_table_s24 K i s) (n,(q:Int))=nextO (st K i (foldT (gt K) (kidsOf (s.drop q)) n),i+1)
 | 0,q,n,h,hn=>by
  have:q=s.length:=by omega
  subst this
  refine whileO_inr ?_
  rw [r04_table_s24,if_neg (by simp),if_pos hi,w64_id (n:=i+1) (by omega) (by omega),List.drop_length];rfl
 | m+1,q,n,h,hn=>by
  have hq:q < s.length:=by omega
  rw [List.drop_eq_getElem_cons hq]
  by_cases h2:s[q].Op=2
  ·have hkid:kidsOf (s[q]::s.drop (q+1))=s[q].A::kidsOf (s.drop (q+1)):=by unfold kidsOf;rw [List.filter_cons_of_pos (by simp [h2])];rfl
   have hr:=hk _ (List.getElem_mem hq) h2
   rw [hkid,foldT]
   by_cases hn0:n > 0
   ·have hg:0≤gt K s[q].A∧gt K s[q].A≤2199023255552:=by
     obtain ⟨z,hz⟩:∃z:Nat,s[q].A=(z:Int):=⟨s[q].A.toNat,by omega⟩
     rw [hz,gt_nat (by omega)];exact hb _ (List.getElem_mem _)
    rw [if_pos hn0]
    by_cases h0:gt K s[q].A=0
    ·rw [if_pos h0,←tab_inner (l:=l) hi hs hk hb hil m (q+1) 0 (by omega) (by omega)]
     refine whileO_inl ?_
     rw [r04_table_s24,if_pos (by simpa using hq),if_pos (by omega),gt_nat hq,if_pos (by simp [h2];omega),if_pos hr,if_pos (by simp [h0]),w64_nat (by omega)];rfl
    ·have hab:=addB_bounds (n:=n) (k:=gt K s[q].A) (by omega) (by omega)
     rw [if_neg h0,←tab_inner (l:=l) hi hs hk hb hil m (q+1) _ (by omega) (by omega)]
     refine whileO_inl ?_
     rw [r04_table_s24,if_pos (by simpa using hq),if_pos (by omega),gt_nat hq,if_pos (by simp [h2];omega),if_pos hr,if_neg (by simp [h0]),if_pos hr,w64_nat (by omega),w64_id (n:=n+gt K s[q].A) (by omega) (by omega)];rfl
   ·rw [if_neg hn0,←tab_inner (l:=l) hi hs hk hb hil m (q+1) n (by omega) hn]
    refine whileO_inl ?_
    rw [r04_table_s24,if_pos (by simpa using hq),if_pos (by omega),gt_nat hq,if_neg (by simp [h2];omega),w64_nat (by omega)];rfl
  ·have hkid:kidsOf (s[q]::s.drop (q+1))=kidsOf (s.drop (q+1)):=by unfold kidsOf;rw [List.filter_cons_of_neg (by simp [h2])]
   rw [hkid,←tab_inner (l:=l) hi hs hk hb hil m (q+1) n (by omega) hn]
   refine whileO_inl ?_
   rw [r04_table_s24,if_pos (by simpa using hq),if_pos (by omega),gt_nat hq,if_neg (by simp [h2]),w64_nat (by omega)];rfl
theorem gt_stI {m:List Int} {i:Int} (j x:Int) (h0:0≤i∧i < m.length) (hj:0≤j):gt (st m i x) j=if j=i then x else gt m j:=by
 by_cases e:j=i
 ·subst e
  simp [gt,st,List.getD,List.getElem?_set,show j.toNat < m.length by omega]
 ·have:i.toNat≠j.toNat:=by omega
  simp [gt,st,List.getD,List.getElem?_set,this,e]
structure Tab (l:List (List api_Instr)) (p:Nat) (i:Int) (K:List Int):Prop where
 len:K.length=l.length
 sound:∀j:Int,0≤j→j < l.length→soundV l j (gt K j)
 comp:∀j:Int,0≤j→j < l.length→(∀v,D l p j=some v→gt K j≠0)∧(j < i→∀v,D l (p+1) j=some v→gt K j≠0)
theorem Tab.bounds {l:List (List api_Instr)} {p:Nat} {i:Int} {K:List Int} (h:Tab l p i K):∀x∈K,0≤x∧x≤2199023255552:=fun x hx=>by
 obtain ⟨q,hq,rfl⟩:=List.mem_iff_getElem.1 hx
 have:=h.len
 have hs:=h.sound (q:Int) (by omega) (by omega)
 rw [gt_nat hq] at hs
 rcases hs with h1|⟨h1,_⟩<;>omega
theorem Tab.next {l:List (List api_Instr)} (hl:Pr l) {p:Nat} {i:Int} {K:List Int} (h:Tab l p i K) (hi:0≤i∧i < l.length):Tab l p (i+1) (st K i (foldT (gt K) (kids l i) 1)):=by
 have hlen:=h.len
 have hiK:0≤i∧i < K.length:=by omega
 have hkid:∀j∈kids l i,0≤j∧j < l.length:=fun j hj=>hl.kid i j hi.1 hi.2 hj
 refine ⟨by unfold st;rw [List.length_set];exact hlen,fun j hj0 hj=>?_,fun j hj0 hj=>?_⟩
 ·rw [gt_stI j _ hiK hj0]
  split
  ·rename_i e
   subst e
   rcases foldT_sound (l:=l) (f:=gt K) (ks:=kids l j) (n:=1) (fun q hq=>h.sound q (hkid q hq).1 (hkid q hq).2) (by omega) with h1|⟨h1,m,h2⟩
   ·exact .inl h1
   ·exact .inr ⟨h1,m+1,h2⟩
  ·exact h.sound j hj0 hj
 ·have hnew:∀v,D l (p+1) i=some v→foldT (gt K) (kids l i) 1≠0:=fun v hv=>by
   have:=foldT_ne (f:=gt K) (ks:=kids l i) (n:=1) (fun q hq=>by
    obtain ⟨k,hk⟩:=foldD_kid hv q hq
    have h1:=(h.comp q (hkid q hq).1 (hkid q hq).2).1 k hk
    rcases h.sound q (hkid q hq).1 (hkid q hq).2 with h2|⟨h2,_⟩<;>omega) (by omega)
   omega
  rw [gt_stI j _ hiK hj0]
  split
  ·rename_i e
   subst e
   exact ⟨fun v hv=>hnew v (D_step l p j v hv),fun _ v hv=>hnew v hv⟩
  ·rename_i e
   exact ⟨(h.comp j hj0 hj).1,fun hji v hv=>(h.comp j hj0 hj).2 (by omega) v hv⟩
theorem Tab.pass {l:List (List api_Instr)} {p:Nat} {K:List Int} (h:Tab l p (l.length:Int) K):Tab l (p+1) 0 K :=
 ⟨h.len,h.sound,fun j hj0 hj=>⟨(h.comp j hj0 hj).2 hj,fun hn=>by omega⟩⟩
theorem tab_pass {l:List (List api_Instr)} (hl:Pr l) (hk:∀p∈l,∀x∈p,x.Op=2→0≤x.A∧x.A < l.length) (v:Int):∀(m q p:Nat) (K:List Int),q+m=l.length→Tab l p (q:Int) K→∃K',Tab l p (l.length:Int) K'∧whileO (r04_table_s22 l v) (K,(q:Int))=nextO (K',IntKind.i64.wrap (v+1))
 | 0,q,p,K,h,hT=>by
  have:q=l.length:=by omega
  subst this
  exact ⟨K,hT,whileO_inr (by rw [r04_table_s22,if_neg (by simp)];rfl)⟩
 | m+1,q,p,K,h,hT=>by
  have hq:q < l.length:=by omega
  have hlen:=hT.len
  have hl16:=hl.len
  have hrl:=reach_len l[q]
  have hone:=hl.one _ (List.getElem_mem hq)
  have hin:=tab_inner (l:=l) (K:=K) (i:=(q:Int)) (by omega) (s:=reach l[q]) (by omega) (fun x hx h2=>by have:=hk _ (List.getElem_mem hq) x (reach_mem hx) h2;omega) hT.bounds (by omega) (reach l[q]).length 0 1 (by omega) (by omega)
  rw [List.drop_zero] at hin
  have hkk:kidsOf (reach l[q])=kids l (q:Int):=by unfold kids;rw [gt_nat hq]
  rw [hkk] at hin
  obtain ⟨K',h1,h2⟩:=tab_pass hl hk v m (q+1) p _ (by omega) (by have:=hT.next hl (i:=(q:Int)) (by omega);simpa using this)
  refine ⟨K',h1,?_⟩
  rw [←h2]
  refine whileO_inl ?_
  rw [r04_table_s22,if_pos (by simpa using hq),if_pos (by omega),gt_nat hq,run_eq hone,Option.bind_some]
  exact hin
theorem tab_passes {l:List (List api_Instr)} (hl:Pr l) (hk:∀p∈l,∀x∈p,x.Op=2→0≤x.A∧x.A < l.length):∀(m p:Nat) (K:List Int),p+m=l.length→Tab l p 0 K→∃K',Tab l l.length 0 K'∧whileO (r04_table_s17 l) (K,(p:Int))=some K'
 | 0,p,K,h,hT=>by
  have:p=l.length:=by omega
  subst this
  exact ⟨K,hT,whileO_inr (by rw [r04_table_s17,if_neg (by simp)];rfl)⟩
 | m+1,p,K,h,hT=>by
  have hp:p < l.length:=by omega
  have hl16:=hl.len
  obtain ⟨K1,h1,h2⟩:=tab_pass hl hk (p:Int) l.length 0 p K (by omega) (by simpa using hT)
  obtain ⟨K',h3,h4⟩:=tab_passes hl hk m (p+1) K1 (by omega) h1.pass
  refine ⟨K',h3,?_⟩
  rw [←h4]
  refine whileO_inl ?_
  rw [r04_table_s17,if_pos (by simpa using hp)]
  rw [show ((0:Nat):Int)=0 from rfl] at h2
  rw [h2,w64_nat (by omega)];rfl
theorem table_eq {l:List (List api_Instr)} (hl:Pr l) (hk:∀p∈l,∀x∈p,x.Op=2→0≤x.A∧x.A < l.length):∃K,Tab l l.length 0 K∧r04_table l=some K:=by
 unfold r04_table
 have hl16:=hl.len
 have h1:=whileO_run (step:=r04_table_s2 l) (fun j=>(List.replicate j (0:Int),(j:Int))) l.length (fun j hj=>by
  have e:List.replicate j (0:Int)++[0]=List.replicate (j+1) 0:=by rw [List.replicate_succ']
  rw [r04_table_s2,if_pos (by simpa using hj),e,if_pos (show few _ by unfold few;rw [List.length_replicate];omega),w64_nat (by omega)];rfl)
 have h2:(([]:List Int),(0:Int))=(List.replicate 0 (0:Int),((0:Nat):Int)):=rfl
 have hz:∀j:Int,0≤j→j < l.length→gt (List.replicate l.length (0:Int)) j=0:=fun j h0 hj=>by
  obtain ⟨z,rfl⟩:∃z:Nat,j=(z:Int):=⟨j.toNat,by omega⟩
  rw [gt_nat (by simp;omega)];simp
 obtain ⟨K,h3,h4⟩:=tab_passes hl hk l.length 0 (List.replicate l.length 0) (by omega) ⟨by simp,fun j h0 hj=>.inl (hz j h0 hj),fun j h0 hj=>⟨fun v hv=>(by cases hv),fun hn=>(by omega)⟩⟩
 refine ⟨K,h3,?_⟩
 rw [h2,h1]
 refine whileO_inr ?_
 rw [r04_table_s2,if_neg (by simp)]
 rw [show ((0:Nat):Int)=0 from rfl] at h4
 rw [h4];rfl
theorem ckAll_kid {l:List (List api_Instr)} (hc:ckAll l=true):∀p∈l,∀x∈p,x.Op=2→0≤x.A∧x.A < l.length:=fun p hp x hx h2=>by
 have hck:=(ckAll_pr hc).2 p hp
 refine ⟨may_spawn ((chkP_parts hck).2.2 x hx) h2,?_⟩
 unfold ckAll at hc
 simp only [Bool.and_eq_true,Bool.not_eq_true',List.any_eq_false] at hc
 have h3:=hc.2 _ hp
 unfold badP at h3
 rw [Bool.or_eq_true,not_or,Bool.not_eq_true,Bool.not_eq_true,List.any_eq_false] at h3
 have h4:=h3.2 x hx
 unfold spawnsFar at h4
 simp [h2] at h4;omega
theorem tasks_same {l:List (List api_Instr)} {i:Int} (h:poks l):∃r,code_Tasks l i=some r∧r04_Tasks l i=some r:=by
 by_cases hb:ckAll l=false∨¬(0≤i∧i < l.length)
 ·refine ⟨_,tasks_bad h hb,?_⟩
  unfold r04_Tasks
  rw [rcheckAll_eq h,Option.bind_some]
  rcases hb with hb|hb
  ·rw [hb,if_pos (by simp)]
  ·have:(decide (i < 0)||decide (i≥(l.length:Int)))=true:=by simp;omega
   rw [Bool.or_assoc,this,if_pos (by simp)]
 ·simp only [not_or,Bool.not_eq_false,Decidable.not_not] at hb
  obtain ⟨hc,hi⟩:=hb
  have hl:=(ckAll_pr hc).1
  obtain ⟨K,hT,hK⟩:=table_eq hl (ckAll_kid hc)
  have hlen:=hT.len
  have href:r04_Tasks l i=if gt K i=0 then some (0,9) else if gt K i > 1099511627776 then some (0,4) else some (gt K i,0):=by
   unfold r04_Tasks
   rw [rcheckAll_eq h,Option.bind_some,hc,if_neg (by simp;omega),hK,Option.bind_some,if_pos (by omega)]
   by_cases h0:gt K i=0
   ·rw [if_pos (by simp [h0]),if_pos h0]
   ·rw [if_neg (by simp [h0]),if_neg h0]
    by_cases h1:gt K i > 1099511627776
    ·rw [if_pos (by simpa using h1),if_pos h1]
    ·rw [if_neg (by simpa using h1),if_neg h1]
  rw [href]
  rcases hT.sound i hi.1 hi.2 with h0|⟨hb,m,hm⟩
  ·rw [if_pos h0]
   rcases tasks_ok h hc hi with ⟨m,k,h1,h2⟩|⟨h1,h2⟩
   ·obtain ⟨w,hw⟩:=D_full hl h1 hi
    exact absurd h0 ((hT.comp i hi.1 hi.2).1 w hw)
   ·exact ⟨_,h2,rfl⟩
  ·rw [if_neg (by omega)]
   rcases tasks_ok h hc hi with ⟨m',k,h1,h2⟩|⟨h1,h2⟩
   ·have hk:=D_uniq h1 hm
    unfold minC at hk
    by_cases hg:gt K i > 1099511627776
    ·rw [if_pos hg]
     rw [if_neg (by omega)] at hk
     rw [if_pos (by omega)] at h2
     exact ⟨_,h2,rfl⟩
    ·rw [if_neg hg]
     rw [if_pos (by omega)] at hk
     subst hk
     rw [if_neg hg] at h2
     exact ⟨_,h2,rfl⟩
   ·rw [h1 m] at hm;cases hm
theorem runits_loop (l:List api_Instr) (hl:l.length≤1000) (hm:∀x∈l,r04_may x=true):∀(m i:Nat) (n:Int),i+m=l.length→0≤n→n≤100*i→whileO (r04_Units_s1 l) (n,(i:Int))=some (n+sumU (l.drop i),0)
 | 0,i,n,h,h0,hn=>by
  have:i=l.length:=by omega
  subst this
  refine whileO_inr ?_
  rw [r04_Units_s1,if_neg (by simp),List.drop_length];simp [sumU]
 | m+1,i,n,h,h0,hn=>by
  have hi:i < l.length:=by omega
  have hb:=u1_bounds (hm _ (List.getElem_mem hi))
  have hstep:r04_Units_s1 l (n,(i:Int))=some (.inl (n+u1 l[i],((i+1:Nat):Int))):=by
   rw [r04_Units_s1,if_pos (by simpa using hi),if_pos (by omega),gt_nat hi]
   unfold u1 at hb ⊢
   by_cases h1:l[i].Op=1
   ·rw [if_pos h1] at hb
    rw [if_pos (by simp [h1]),if_pos h1,w64_nat (by omega),w64_id (n:=n+l[i].A) (by omega) (by omega)];rfl
   ·rw [if_neg (by simp [h1]),if_neg h1,w64_nat (by omega),w64_id (n:=n+1) (by omega) (by omega)];rfl
  rw [whileO_inl hstep,runits_loop l hl hm m (i+1) _ (by omega) (by omega) (by omega),List.drop_eq_getElem_cons hi,sumU]
  congr 2;omega
theorem runits_eq {p:List api_Instr} (hp:p.length≤9223372036854775807):r04_Units p=some (if chkP p then (un p,0) else (0,1)):=by
 unfold r04_Units
 rw [rcodeCheck_eq hp,Option.bind_some]
 cases hk:chkP p with
 | false=>rfl
 | true =>
  obtain ⟨h1,h2,h3⟩:=chkP_parts hk
  simp only [if_true]
  rw [if_neg (by decide),run_eq (by omega),Option.bind_some]
  have hr:=reach_len p
  have:=runits_loop (reach p) (by omega) (fun x hx=>h3 x (reach_mem hx)) (reach p).length 0 0 (by omega) (by omega) (by omega)
  simpa [un] using this
end Go.Proofs.YtkkimimkcchlnaaGreat
