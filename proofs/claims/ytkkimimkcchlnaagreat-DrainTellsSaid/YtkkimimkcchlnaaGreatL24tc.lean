/- Helper lemmas for the claim's theorem: an abstract machine over the model, proved sound; no condition beyond each lemma's own. -/
import Derived.Test.YtkkimimkcchlnaaGreatL24tb
set_option linter.unusedVariables false
set_option linter.unusedSimpArgs false
set_option linter.unnecessarySimpa false
set_option linter.unusedSectionVars false
namespace Go.Proofs.YtkkimimkcchlnaaGreat
open Go Go.AM
set_option maxRecDepth 100000
set_option maxHeartbeats 1000000
set_option linter.unusedVariables false
set_option linter.unusedSimpArgs false
theorem foldD_ge0 {f:Int→Option Int} (hf:∀j k,f j=some k→0≤k):∀{r:List Int} {n v:Int},foldD f r n=some v→0≤n∧n≤1099511627777→n≤v∧v≤1099511627777
 | [],n,v,hv,hn=>by rw [foldD] at hv;injection hv with hv;omega
 | a::r,n,v,hv,hn=>by
  rw [foldD] at hv
  cases h:f a with
  | none=>rw [h] at hv;cases hv
  | some k =>
   rw [h] at hv
   have hk:=hf a k h
   have hb:0≤addC n k∧addC n k≤1099511627777∧n≤addC n k:=by unfold addC;split<;>omega
   have:=foldD_ge0 hf hv ⟨hb.1,hb.2.1⟩
   omega
def Fw (l:List (List api_Instr)):Nat→Int→Option Int
 | 0,_=>none
 | m+1,i=>(foldD (Fw l m) (kids l i) 0).map fun s=>addC (un (gt l i)+1) s
theorem Fw_step (l:List (List api_Instr)):∀(m:Nat) (i k:Int),Fw l m i=some k→Fw l (m+1) i=some k
 | 0,i,k,h=>by cases h
 | m+1,i,k,h=>by
  rw [Fw] at h ⊢
  rw [Option.map_eq_some_iff] at h
  obtain ⟨s,h1,rfl⟩:=h
  rw [foldD_mono (Fw_step l m) _ _ _ h1];rfl
theorem Fw_le {l:List (List api_Instr)} {m n:Nat} (h:m≤n) {i k:Int} (hd:Fw l m i=some k):Fw l n i=some k:=by
 obtain ⟨d,rfl⟩:∃d,n=m+d:=⟨n - m,by omega⟩
 clear h
 induction d with
 | zero=>exact hd
 | succ d ih=>exact Fw_step l _ _ _ ih
theorem Fw_uniq {l:List (List api_Instr)} {m n:Nat} {i a b:Int} (h1:Fw l m i=some a) (h2:Fw l n i=some b):a=b:=by
 have g1:=Fw_le (Nat.le_max_left m n) h1
 have g2:=Fw_le (Nat.le_max_right m n) h2
 rw [g1] at g2;injection g2
theorem Fw_of {l:List (List api_Instr)}:∀(m:Nat) (i d:Int),D l m i=some d→∃k,Fw l m i=some k
 | 0,i,d,h=>by cases h
 | m+1,i,d,h=>by
  obtain ⟨s,hs⟩:=foldD_all (f:=Fw l m) (r:=kids l i) (n:=0) (fun j hj=>by
   obtain ⟨k,hk⟩:=foldD_kid h j hj
   exact Fw_of m j k hk)
  exact ⟨_,by rw [Fw,hs];rfl⟩
def Un (l:List (List api_Instr)):Prop:=∀i:Int,0≤un (gt l i)∧un (gt l i)≤3200
theorem Fw_nonneg {l:List (List api_Instr)} (hu:Un l):∀(m:Nat) (i k:Int),Fw l m i=some k→0≤k
 | 0,i,k,h=>by cases h
 | m+1,i,k,h=>by
  rw [Fw,Option.map_eq_some_iff] at h
  obtain ⟨s,h1,rfl⟩:=h
  have h2:=foldD_ge0 (Fw_nonneg hu m) h1 (by omega)
  have h3:=hu i
  unfold addC;split<;>omega
theorem ck_un {l:List (List api_Instr)} (hc:∀p∈l,chkP p=true):Un l:=fun i=>by
 unfold gt
 rw [List.getD_eq_getElem?_getD]
 cases h:l[i.toNat]? with
 | none=>show 0≤un []∧un []≤3200;decide
 | some p =>
  have:=hc p (List.mem_of_getElem? h)
  exact un_bounds (chkP_parts this).2.2 (chkP_parts this).2.1
theorem un_pos {p:List api_Instr} (h:chkP p=true):1≤un p:=by
 obtain ⟨h1,h2,h3⟩:=chkP_parts h
 have hs:=sumU_bounds (l:=reach p) (fun x hx=>h3 x (reach_mem hx))
 have hl:1≤(reach p).length:=by
  cases p with
  | nil=>simp at h1
  | cons x r=>rw [reach];split<;>simp
 unfold un;omega
theorem reach_at {p:List api_Instr} {q:Nat} (hq:q < p.length) (hn:(p.take q).any isX=false) (h9:p[q].Op=9):reach p=p.take (q+1):=by
 have hp:p=p.take q++p[q]::p.drop (q+1):=by rw [←List.drop_eq_getElem_cons hq,List.take_append_drop]
 have h1:reach (p.take q++p[q]::p.drop (q+1))=p.take q++[p[q]]:=by
  rw [reach_append,if_neg (by rw [hn];simp),reach,if_pos h9]
 rw [←hp] at h1
 rw [h1,List.take_succ_eq_append_getElem hq]
def goodW (l:List (List api_Instr)) (K:List (Int×Int)):Prop:=∀j k,mget K j=some k→∃m,Fw l m j=some k
def okW (l:List (List api_Instr)) (i:Int) (r:Option (Int×List (Int×Int))):Prop:=∃k K',r=some (k,K')∧(∃m,Fw l m i=some k)∧goodW l K'
theorem full_fin {l:List (List api_Instr)} (hu:Un l) {i s:Int} {m:Nat} {ks:List Int} (hk:kids l i=ks) {K:List (Int×Int)} (hK:goodW l K) (hs:foldD (Fw l m) ks 0=some s) (hb:0≤s∧s≤1099511627777) :
 okW l i (some ((if 1099511627777 < (IntKind.i64.wrap ((IntKind.i64.wrap (un (gt l i)+1))+s)) then 1099511627777 else IntKind.i64.wrap ((IntKind.i64.wrap (un (gt l i)+1))+s)),mput K i (if 1099511627777 < (IntKind.i64.wrap ((IntKind.i64.wrap (un (gt l i)+1))+s)) then 1099511627777 else IntKind.i64.wrap ((IntKind.i64.wrap (un (gt l i)+1))+s)))):=by
 have h3:=hu i
 rw [w64_id (n:=un (gt l i)+1) (by omega) (by omega),w64_id (n:=un (gt l i)+1+s) (by omega) (by omega)]
 have hF:Fw l (m+1) i=some (addC (un (gt l i)+1) s):=by rw [Fw,hk,hs];rfl
 refine ⟨_,_,rfl,⟨m+1,hF⟩,fun j k hj=>?_⟩
 rw [mget_mput] at hj
 split at hj
 ·rename_i e
  injection hj with hj;subst hj;subst e
  exact ⟨m+1,hF⟩
 ·exact hK j k hj
theorem full_loop {l:List (List api_Instr)} (hl:Pr l) (hu:Un l) {rec:List (List api_Instr)→Int→List (Int×Int)→Option (Int×List (Int×Int))} {i:Int} {p:List api_Instr} (hp:gt l i=p) (hpl:p.length≤1000)
 (ih:∀j K,j∈kids l i→goodW l K→okW l j (rec l j K)) :
 ∀(r q:Nat) (s:Int) (K:List (Int×Int)),q+r=p.length→goodW l K→(∃m,foldD (Fw l m) (kidsOf (p.take q)) 0=some s)→0≤s∧s≤1099511627777→(p.take q).any isX=false →
  okW l i (whileO (drain_measure_full_b_s3 l i rec (un (gt l i))) (s,(q:Int),K))
 | 0,q,s,K,h,hK,⟨m,hm⟩,hb,hx=>by
  have:q=p.length:=by omega
  subst this
  rw [List.take_length] at hm hx
  have hk:kids l i=kidsOf p:=by unfold kids;rw [hp,reach_noexit p hx]
  have hf:=full_fin hu hk hK hm hb
  have hst:drain_measure_full_b_s3 l i rec (un (gt l i)) (s,(p.length:Int),K)=inrO (some ((if 1099511627777 < (IntKind.i64.wrap ((IntKind.i64.wrap (un (gt l i)+1))+s)) then 1099511627777 else IntKind.i64.wrap ((IntKind.i64.wrap (un (gt l i)+1))+s)),mput K i (if 1099511627777 < (IntKind.i64.wrap ((IntKind.i64.wrap (un (gt l i)+1))+s)) then 1099511627777 else IntKind.i64.wrap ((IntKind.i64.wrap (un (gt l i)+1))+s)))):=by
   rw [drain_measure_full_b_s3,if_neg (by rw [hp];simp),drain_measure_full_b_j2]
  rw [whileO_inr hst];exact hf
 | r+1,q,s,K,h,hK,⟨m,hm⟩,hb,hx=>by
  have hq:q < p.length:=by omega
  have hkt:=kidsOf_take hq
  by_cases h9:p[q].Op=9
  ·have hk:kids l i=kidsOf (p.take q):=by
    unfold kids
    rw [hp,reach_at hq hx h9,hkt,if_neg (by simp [h9])]
   have hf:=full_fin hu hk hK hm hb
   have hst:drain_measure_full_b_s3 l i rec (un (gt l i)) (s,(q:Int),K)=inrO (some ((if 1099511627777 < (IntKind.i64.wrap ((IntKind.i64.wrap (un (gt l i)+1))+s)) then 1099511627777 else IntKind.i64.wrap ((IntKind.i64.wrap (un (gt l i)+1))+s)),mput K i (if 1099511627777 < (IntKind.i64.wrap ((IntKind.i64.wrap (un (gt l i)+1))+s)) then 1099511627777 else IntKind.i64.wrap ((IntKind.i64.wrap (un (gt l i)+1))+s)))):=by
    rw [drain_measure_full_b_s3,if_pos (by rw [hp];simpa using hq),if_pos (by rw [hp];omega),if_pos (by rw [hp,gt_nat hq];simp [h9]),drain_measure_full_b_j2]
   rw [whileO_inr hst];exact hf
  ·have hx':(p.take (q+1)).any isX=false:=by
    rw [List.take_succ_eq_append_getElem hq,List.any_append,hx]
    simp [isX,h9]
   by_cases h2:p[q].Op=2
   ·rw [if_pos (by simp [h2])] at hkt
    have hkid:p[q].A∈kids l i:=by
     have hp2:p=p.take q++p[q]::p.drop (q+1):=by rw [←List.drop_eq_getElem_cons hq,List.take_append_drop]
     have h1:reach (p.take q++p[q]::p.drop (q+1))=p.take q++p[q]::reach (p.drop (q+1)):=by
      rw [reach_append,if_neg (by rw [hx];simp),reach,if_neg h9]
     rw [←hp2] at h1
     unfold kids kidsOf
     rw [hp,h1,List.mem_map]
     exact ⟨p[q],List.mem_filter.2 ⟨by simp,by simp [h2]⟩,rfl⟩
    obtain ⟨k,K',g1,⟨m2,g2⟩,g3⟩:=ih p[q].A K hkid hK
    have hkb:0≤k:=Fw_nonneg hu m2 _ k g2
    have hkC:k≤1099511627777:=by
     cases m2 with
     | zero=>cases g2
     | succ m2 =>
      rw [Fw,Option.map_eq_some_iff] at g2
      obtain ⟨w,_,rfl⟩:=g2
      unfold addC;split<;>omega
    have hst:drain_measure_full_b_s3 l i rec (un (gt l i)) (s,(q:Int),K)=some (.inl (addC s k,((q+1:Nat):Int),K')):=by
     rw [drain_measure_full_b_s3,if_pos (by rw [hp];simpa using hq),if_pos (by rw [hp];omega),if_neg (by rw [hp,gt_nat hq];simp [h9]),if_pos (by rw [hp,gt_nat hq];simp [h2]),hp,gt_nat hq,g1]
     simp only [Option.bind_some]
     rw [w64_nat (by omega),w64_id (n:=s+k) (by omega) (by omega)];rfl
    rw [whileO_inl hst]
    refine full_loop hl hu hp hpl ih r (q+1) _ K' (by omega) g3 ⟨max m m2,?_⟩ (by unfold addC;split<;>omega) hx'
    have e1:=foldD_mono (fun j k=>Fw_le (Nat.le_max_left m m2)) _ _ _ hm
    rw [hkt,foldD_append _ _ _ _ _ e1,foldD,Fw_le (Nat.le_max_right m m2) g2];rfl
   ·rw [if_neg (by simp [h2])] at hkt
    have hst:drain_measure_full_b_s3 l i rec (un (gt l i)) (s,(q:Int),K)=some (.inl (s,((q+1:Nat):Int),K)):=by
     rw [drain_measure_full_b_s3,if_pos (by rw [hp];simpa using hq),if_pos (by rw [hp];omega),if_neg (by rw [hp,gt_nat hq];simp [h9]),if_neg (by rw [hp,gt_nat hq];simp [h2]),w64_nat (by omega)];rfl
    rw [whileO_inl hst]
    exact full_loop hl hu hp hpl ih r (q+1) s K (by omega) hK ⟨m,by rw [hkt];exact hm⟩ hb hx'
theorem full_ok {l:List (List api_Instr)} (h:poks l) (hl:Pr l) (hc:∀p∈l,chkP p=true):∀(n m:Nat) (i d:Int) (K:List (Int×Int)),D l m i=some d→goodW l K→m≤n→(0≤i∧i < l.length)→okW l i (drain_measure_full n l i K)
 | 0,m,i,d,K,hd,hK,hm,hi=>by
  have:m=0:=by omega
  subst this;cases hd
 | n+1,m,i,d,K,hd,hK,hm,hi=>by
  show okW l i (drain_measure_full_b (drain_measure_full n) l i K)
  unfold drain_measure_full_b
  cases hk:mget K i with
  | some k =>
   rw [if_pos (show (some k).isSome=true from rfl)]
   exact ⟨k,K,rfl,hK i k hk,hK⟩
  | none =>
   obtain ⟨q,rfl⟩:∃q:Nat,i=(q:Int):=⟨i.toNat,by omega⟩
   have hq:q < l.length:=by omega
   have hmem:=List.getElem_mem hq
   have hpk:=(h.2 _ hmem).2
   have hck:=hc _ hmem
   rw [if_neg (by simp),if_pos hi,gt_nat hq,units_eq hpk,hck]
   simp only [Option.bind_some,if_true]
   rw [if_neg (by simp),if_pos hi]
   have hfl:=full_loop hl (ck_un hc) (i:=(q:Int)) (p:=l[q]) (gt_nat hq) (by have:=(chkP_parts hck).2.1;omega) (rec:=drain_measure_full n) (fun j K hj hK=>by
    obtain ⟨m',k,g1,g2⟩:=D_kid hd hj
    exact full_ok h hl hc n m' j k K g2 hK (by omega) (hl.kid _ j hi.1 hi.2 hj)) l[q].length 0 0 K (by omega) hK ⟨0,rfl⟩ (by omega) (by simp)
   rw [gt_nat hq] at hfl
   exact hfl
theorem Full_ok {l:List (List api_Instr)} {i:Int} (h:poks l) (hc:ckAll l=true) (hi:0≤i∧i < l.length) {m:Nat} {d:Int} (hd:D l m i=some d) (hle:d≤1099511627776) {k:Int} {m':Nat} (hk:Fw l m' i=some k) :
 drain_Full l i=some (if k > 1099511627776 then (0,4) else (k,0)):=by
 have hl:=(ckAll_pr hc).1
 have hcp:=(ckAll_pr hc).2
 obtain ⟨w,hw⟩:=D_full hl hd hi
 have hl16:=hl.len
 unfold drain_Full
 rcases tasks_ok h hc hi with ⟨m1,d1,t1,t2⟩|⟨t1,_⟩
 ·have:=D_uniq t1 hd
  subst this
  rw [if_neg (by omega)] at t2
  rw [t2]
  simp only [Option.bind_some]
  rw [if_neg (by simp)]
  obtain ⟨k1,K1,g1,⟨m2,g2⟩,g3⟩:=full_ok h hl hcp 1000 l.length i w [] hw (fun j k hj=>by cases hj) (by omega) hi
  have:=Fw_uniq g2 hk
  subst this
  rw [g1]
  simp only [Option.bind_some]
  by_cases hg:k1 > 1099511627776
  ·rw [if_pos (by simpa using hg),if_pos hg,drain_Full_j1,if_pos (by simp)]
  ·rw [if_neg (by simpa using hg),if_neg hg,drain_Full_j1,if_neg (by simp)]
   obtain ⟨k3,K3,g4,⟨m3,g5⟩,g6⟩:=full_ok h hl hcp 1000 l.length i w K1 hw g3 (by omega) hi
   have:=Fw_uniq g5 g2
   subst this
   rw [g4];rfl
 ·rw [t1 m] at hd;cases hd
theorem Full_bad {l:List (List api_Instr)} {i e:Int} (h:code_Tasks l i=some (0,e)) (he:e≠0):drain_Full l i=some (0,e):=by
 unfold drain_Full
 rw [h]
 simp only [Option.bind_some]
 rw [if_pos (by simpa using he),drain_Full_j1,if_pos (by simpa using he)]
end Go.Proofs.YtkkimimkcchlnaaGreat
