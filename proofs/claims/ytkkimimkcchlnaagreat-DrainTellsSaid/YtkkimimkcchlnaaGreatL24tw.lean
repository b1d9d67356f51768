/- Helper lemmas for the claim's theorem: an abstract machine over the model, proved sound; no condition beyond each lemma's own. -/
import Derived.Test.YtkkimimkcchlnaaGreatL24tv
set_option linter.unusedVariables false
set_option linter.unusedSimpArgs false
set_option linter.unnecessarySimpa false
set_option linter.unusedSectionVars false
namespace Go.Proofs.YtkkimimkcchlnaaGreat
open Go Go.AM
set_option maxRecDepth 100000
set_option maxHeartbeats 1000000
set_option linter.unusedVariables false
set_option linter.unusedSimpArgs false
theorem minC_add0 {n k:Int} (hn:0≤n) (hk:0≤k):addC (minC n) (minC k)=minC (addB n k):=by
 unfold addC minC addB;repeat' split<;>omega
theorem minC_le (n:Int):minC n≤1099511627777:=by unfold minC;split<;>omega
theorem minC_ge {n:Int} (h:0≤n):0≤minC n:=by unfold minC;split<;>omega
theorem full_info {l:List (List api_Instr)} {i:Int} (h:poks l) (hc:ckAll l=true) (hi:0≤i∧i < l.length) :
 (∃e,e≠0∧code_Tasks l i=some (0,e)∧r24_Full l i=some (0,e)) ∨
 (∃m d k m',D l m i=some d∧code_Tasks l i=some (d,0)∧Fw l m' i=some k∧r24_Full l i=some (if k > 1099511627776 then (0,4) else (k,0))):=by
 obtain ⟨r,h1,h2⟩:=full_same (i:=i) h
 rcases tasks_ok h hc hi with ⟨m,d,hd,t3⟩|⟨_,t3⟩
 ·by_cases hg:d > 1099511627776
  ·rw [if_pos hg] at t3
   rw [Full_bad t3 (by decide)] at h1
   exact .inl ⟨4,by decide,t3,by rw [h2,←h1]⟩
  ·rw [if_neg hg] at t3
   obtain ⟨k,hk⟩:=Fw_of _ _ _ hd
   rw [Full_ok h hc hi hd (by omega) hk] at h1
   exact .inr ⟨m,d,k,m,hd,t3,hk,by rw [h2,←h1]⟩
 ·rw [Full_bad t3 (by decide)] at h1
  exact .inl ⟨9,by decide,t3,by rw [h2,←h1]⟩
theorem work_loop {c:api_Config} {w:api_World} {a v n:Int} {q:List api_Instr}
 (hq:sub (gt c.Progs ((gt w.T v).Prog)) ((gt w.T v).Pc) ((gt c.Progs ((gt w.T v).Prog)).length:Int)=q) (hql:q.length≤1000) (hu:Un c.Progs)
 (ih:∀j K,j∈kidsOf (reach q)→goodW c.Progs K→okW c.Progs j (drain_measure_full 1000 c.Progs j K)) :
 ∀(r i:Nat) (s:Int) (K:List (Int×Int)),i+r=q.length→goodW c.Progs K→(∃m,foldD (Fw c.Progs m) (kidsOf (q.take i)) 0=some s)→0≤s∧s≤1099511627777→(q.take i).any isX=false →
  ∃S K' m,foldD (Fw c.Progs m) (kidsOf (reach q)) 0=some S∧(0≤S∧S≤1099511627777)∧goodW c.Progs K'∧whileO (drain_Work_s21 c w a v n) (s,(i:Int),K)=drain_Work_j20 a v n S K'
 | 0,i,s,K,h,hK,⟨m,hm⟩,hb,hx=>by
  have:i=q.length:=by omega
  subst this
  rw [List.take_length] at hm hx
  refine ⟨s,K,m,by rw [reach_noexit q hx];exact hm,hb,hK,?_⟩
  refine whileO_inrO ?_
  rw [drain_Work_s21,hq,if_neg (by simp)]
 | r+1,i,s,K,h,hK,⟨m,hm⟩,hb,hx=>by
  have hi:i < q.length:=by omega
  have hkt:=kidsOf_take hi
  by_cases h9:q[i].Op=9
  ·refine ⟨s,K,m,?_,hb,hK,?_⟩
   ·rw [reach_at hi hx h9,hkt,if_neg (by simp [h9])];exact hm
   ·refine whileO_inrO ?_
    rw [drain_Work_s21,hq,if_pos (by simpa using hi),if_pos (by omega),if_pos (by rw [gt_nat hi];simp [h9])]
  ·have hx':(q.take (i+1)).any isX=false:=by
    rw [List.take_succ_eq_append_getElem hi,List.any_append,hx]
    simp [isX,h9]
   by_cases h2:q[i].Op=2
   ·rw [if_pos (by simp [h2])] at hkt
    have hkid:q[i].A∈kidsOf (reach q):=by
     have hp2:q=q.take i++q[i]::q.drop (i+1):=by rw [←List.drop_eq_getElem_cons hi,List.take_append_drop]
     have h1:reach (q.take i++q[i]::q.drop (i+1))=q.take i++q[i]::reach (q.drop (i+1)):=by
      rw [reach_append,if_neg (by rw [hx];simp),reach,if_neg h9]
     rw [←hp2] at h1
     unfold kidsOf
     rw [h1,List.mem_map]
     exact ⟨q[i],List.mem_filter.2 ⟨by simp,by simp [h2]⟩,rfl⟩
    obtain ⟨k,K',g1,⟨m2,g2⟩,g3⟩:=ih q[i].A K hkid hK
    have hkb:0≤k:=Fw_nonneg hu m2 _ k g2
    have hkC:k≤1099511627777:=by
     cases m2 with
     | zero=>cases g2
     | succ m2 =>
      rw [Fw,Option.map_eq_some_iff] at g2
      obtain ⟨w,_,rfl⟩:=g2
      unfold addC;split<;>omega
    have hst:drain_Work_s21 c w a v n (s,(i:Int),K)=some (.inl (addC s k,((i+1:Nat):Int),K')):=by
     rw [drain_Work_s21,hq,if_pos (by simpa using hi),if_pos (by omega),if_neg (by rw [gt_nat hi];simp [h9]),if_pos (by rw [gt_nat hi];simp [h2]),gt_nat hi,g1]
     simp only [Option.bind_some]
     rw [w64_nat (by omega),w64_id (n:=s+k) (by omega) (by omega)];rfl
    rw [whileO_inl hst]
    refine work_loop hq hql hu ih r (i+1) _ K' (by omega) g3 ⟨max m m2,?_⟩ (by unfold addC;split<;>omega) hx'
    have e1:=foldD_mono (fun j k=>Fw_le (Nat.le_max_left m m2)) _ _ _ hm
    rw [hkt,foldD_append _ _ _ _ _ e1,foldD,Fw_le (Nat.le_max_right m m2) g2];rfl
   ·rw [if_neg (by simp [h2])] at hkt
    have hst:drain_Work_s21 c w a v n (s,(i:Int),K)=some (.inl (s,((i+1:Nat):Int),K)):=by
     rw [drain_Work_s21,hq,if_pos (by simpa using hi),if_pos (by omega),if_neg (by rw [gt_nat hi];simp [h9]),if_neg (by rw [gt_nat hi];simp [h2]),w64_nat (by omega)];rfl
    rw [whileO_inl hst]
    exact work_loop hq hql hu ih r (i+1) s K (by omega) hK ⟨m,by rw [hkt];exact hm⟩ hb hx'
theorem rwork_pre {l:List (List api_Instr)} {K:List Int} {t:api_Task} {p:List api_Instr} (hp:gt l t.Prog=p) (hpl:p.length≤1000) {e:Nat} (he:t.Pc=(e:Int)) (hel:e≤p.length) :
 ∀(r i:Nat) (n:Int),i+r=e→whileO (r24_work_s1 l K t) (n,(p.take i).any isX,(i:Int))=whileO (r24_work_s1 l K t) (n,(p.take e).any isX,(e:Int))
 | 0,i,n,h=>by
  have:i=e:=by omega
  subst this;rfl
 | r+1,i,n,h=>by
  have hi:i < p.length:=by omega
  rw [←rwork_pre hp hpl he hel r (i+1) n (by omega)]
  refine whileO_inl ?_
  rw [r24_work_s1,hp,if_pos (by simpa using hi),if_pos (by omega),gt_nat hi,if_neg (by simp;omega),w64_nat (by omega),List.take_succ_eq_append_getElem hi,List.any_append]
  simp [isX];rfl
theorem rwork_out {l:List (List api_Instr)} {K:List Int} {t:api_Task} {p:List api_Instr} (hp:gt l t.Prog=p) (hpl:p.length≤1000) :
 ∀(r i:Nat) (n:Int),i+r=p.length→whileO (r24_work_s1 l K t) (n,true,(i:Int))=some n
 | 0,i,n,h=>by
  have:i=p.length:=by omega
  subst this
  refine whileO_inrO ?_
  rw [r24_work_s1,hp,if_neg (by simp)]
 | r+1,i,n,h=>by
  have hi:i < p.length:=by omega
  rw [←rwork_out hp hpl r (i+1) n (by omega)]
  refine whileO_inl ?_
  rw [r24_work_s1,hp,if_pos (by simpa using hi),if_pos (by omega),gt_nat hi,if_neg (by simp),w64_nat (by omega),Bool.true_or];rfl
theorem rwork_in {l:List (List api_Instr)} {K:List Int} {t:api_Task} {p:List api_Instr} (hp:gt l t.Prog=p) (hpl:p.length≤1000) {e:Nat} (he:t.Pc=(e:Int)) (hk:∀x∈p,x.Op=2→0≤x.A∧x.A < K.length) (hb:∀x∈K,0≤x∧x≤2199023255552) :
 ∀(r i:Nat) (n:Int),i+r=p.length→e≤i→0≤n∧n≤2199023255552→(∀j∈kidsOf (reach (p.drop i)),gt K j≠0)→whileO (r24_work_s1 l K t) (n,false,(i:Int))=some (foldS (gt K) (kidsOf (reach (p.drop i))) n)
 | 0,i,n,h,hei,hn,hz=>by
  have:i=p.length:=by omega
  subst this
  rw [List.drop_length]
  refine whileO_inrO ?_
  rw [r24_work_s1,hp,if_neg (by simp)];rfl
 | r+1,i,n,h,hei,hn,hz=>by
  have hi:i < p.length:=by omega
  rw [List.drop_eq_getElem_cons hi] at hz ⊢
  rw [reach] at hz ⊢
  by_cases h9:p[i].Op=9
  ·rw [if_pos h9]
   have hkid:kidsOf [p[i]]=[]:=by unfold kidsOf;rw [List.filter_cons_of_neg (by simp [h9])];rfl
   rw [hkid,foldS,←rwork_out (l:=l) (K:=K) (t:=t) hp hpl r (i+1) n (by omega)]
   refine whileO_inl ?_
   rw [r24_work_s1,hp,if_pos (by simpa using hi),if_pos (by omega),gt_nat hi,if_neg (by simp [h9]),w64_nat (by omega)]
   simp [h9];rfl
  ·have e9:(p[i].Op==9)=false:=by simpa using h9
   rw [if_neg h9] at hz ⊢
   by_cases h2:p[i].Op=2
   ·have hkid:kidsOf (p[i]::reach (p.drop (i+1)))=p[i].A::kidsOf (reach (p.drop (i+1))):=by unfold kidsOf;rw [List.filter_cons_of_pos (by simp [h2])];rfl
    rw [hkid] at hz ⊢
    have hr:=hk _ (List.getElem_mem hi) h2
    have hg:0≤gt K p[i].A∧gt K p[i].A≤2199023255552:=by
     obtain ⟨z,hz⟩:∃z:Nat,p[i].A=(z:Int):=⟨p[i].A.toNat,by omega⟩
     rw [hz,gt_nat (by omega)];exact hb _ (List.getElem_mem _)
    have hab:0≤addB n (gt K p[i].A)∧addB n (gt K p[i].A)≤2199023255552:=by unfold addB;split<;>omega
    rw [foldS,if_neg (hz _ (by simp)),←rwork_in hp hpl he hk hb r (i+1) _ (by omega) (by omega) hab (fun j hj=>hz j (by simp [hj]))]
    refine whileO_inl ?_
    rw [r24_work_s1,hp,if_pos (by simpa using hi),if_pos (by omega),gt_nat hi,if_pos (by simp [h2];omega),if_pos hr,w64_nat (by omega),w64_id (n:=n+gt K p[i].A) (by omega) (by omega),e9];rfl
   ·have hkid:kidsOf (p[i]::reach (p.drop (i+1)))=kidsOf (reach (p.drop (i+1))):=by unfold kidsOf;rw [List.filter_cons_of_neg (by simp [h2])]
    rw [hkid] at hz ⊢
    rw [←rwork_in hp hpl he hk hb r (i+1) n (by omega) (by omega) hn hz]
    refine whileO_inl ?_
    rw [r24_work_s1,hp,if_pos (by simpa using hi),if_pos (by omega),gt_nat hi,if_neg (by simp [h2]),w64_nat (by omega),e9];rfl
theorem leftV_bounds {t:api_Task} {p:List api_Instr} (h:fitB t p=true):0≤leftV t p∧leftV t p≤3200∧(leftV t p=0↔(p.take t.Pc.toNat).any isX=true∨t.Pc=p.length):=by
 obtain ⟨hc,hk,hl,hu⟩:=fit_parts h
 obtain ⟨-,hpc,hun,hran⟩:=chk_bounds hc
 obtain ⟨k1,k2,k3⟩:=chkP_parts hk
 unfold leftV
 split
 ·rename_i hx;exact ⟨by omega,by omega,⟨fun _=>.inl hx,fun _=>rfl⟩⟩
 ·rename_i hx
  have hb:=un_bounds (p:=p.drop t.Pc.toNat) (fun x hx=>k3 x (List.mem_of_mem_drop hx)) (by rw [List.length_drop];omega)
  by_cases he:t.Pc=p.length
  ·have h0:t.Unit=0:=by rcases hu with h|h;exact h;omega
   have hd:p.drop t.Pc.toNat=[]:=by rw [List.drop_eq_nil_iff];omega
   have e:un (p.drop t.Pc.toNat) - t.Unit=0:=by rw [hd,h0];rfl
   rw [e]
   exact ⟨by omega,by omega,⟨fun _=>.inr he,fun _=>rfl⟩⟩
  ·have hi:t.Pc.toNat < p.length:=by omega
   have hpos:=un_pos (chkP_drop hk hi)
   have hlt:t.Unit < un (p.drop t.Pc.toNat):=by
    rcases hu with h|⟨h1,h2,h3⟩
    ·omega
    ·have e1:t.Pc=((t.Pc.toNat:Nat):Int):=by omega
     rw [e1,gt_nat hi] at h2 h3
     have hs:=sumU_bounds (l:=reach (p.drop (t.Pc.toNat+1))) (fun x hx=>k3 x (List.mem_of_mem_drop (reach_mem hx)))
     have e2:un (p.drop t.Pc.toNat)=p[t.Pc.toNat].A+sumU (reach (p.drop (t.Pc.toNat+1))):=by
      unfold un
      rw [List.drop_eq_getElem_cons hi,reach,if_neg (by omega),sumU,u1,if_pos h2]
     omega
   refine ⟨by omega,by omega,⟨fun h=>by omega,fun h=>?_⟩⟩
   rcases h with h|h
   ·exact absurd h hx
   ·exact absurd h he
end Go.Proofs.YtkkimimkcchlnaaGreat
