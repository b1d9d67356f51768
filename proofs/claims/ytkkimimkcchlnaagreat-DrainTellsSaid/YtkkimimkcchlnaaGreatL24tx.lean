/- Helper lemmas for the claim's theorem: an abstract machine over the model, proved sound; no condition beyond each lemma's own. -/
import Derived.Test.YtkkimimkcchlnaaGreatL24tw
set_option linter.unusedVariables false
set_option linter.unusedSimpArgs false
set_option linter.unnecessarySimpa false
set_option linter.unusedSectionVars false
namespace Go.Proofs.YtkkimimkcchlnaaGreat
open Go Go.AM
set_option maxRecDepth 100000
set_option maxHeartbeats 1000000
set_option linter.unusedVariables false
set_option linter.unusedSimpArgs false
structure FitW (c:api_Config) (w:api_World):Prop where
 pp:poks c.Progs
 ck:ckAll c.Progs=true
 tl:w.T.length≤1000000
 ll:w.Ids.Live.length=w.T.length
 ok:∀i:Nat,i < w.T.length→gt w.Ids.Live (i:Int)=true→fitB (gt w.T (i:Int)) (gt c.Progs (gt w.T (i:Int)).Prog)=true∧0≤(gt w.T (i:Int)).Prog∧(gt w.T (i:Int)).Prog < c.Progs.length
theorem kids_drop {p:List api_Instr} {e:Nat} (h:(p.take e).any isX=false):kidsOf (reach p)=kidsOf (p.take e)++kidsOf (reach (p.drop e)):=by
 have h1:reach (p.take e++p.drop e)=p.take e++reach (p.drop e):=by rw [reach_append,if_neg (by rw [h];simp)]
 rw [List.take_append_drop] at h1
 rw [h1]
 unfold kidsOf
 rw [List.filter_append,List.map_append]
theorem work_step {c:api_Config} {w:api_World} {K:List Int} (F:FitW c w) (hT:TabW c.Progs c.Progs.length 0 K) {i:Nat} (hi:i < w.T.length) (hL:gt w.Ids.Live (i:Int)=true) {b:Int} (hb:0≤b∧b≤2199023255552) {M:List (Int×Int)} (hM:goodW c.Progs M) :
 (∃e,e≠0∧drain_Work_s17 c w (minC b,(i:Int),M)=inrO (some (0,e))∧r24_Work_s2 c w K (b,(i:Int))=inrO (some (0,e))) ∨
 (∃b' M',(0≤b'∧b'≤2199023255552)∧goodW c.Progs M'∧drain_Work_s17 c w (minC b,(i:Int),M)=some (.inl (minC b',((i+1:Nat):Int),M'))∧r24_Work_s2 c w K (b,(i:Int))=some (.inl (b',((i+1:Nat):Int)))):=by
 obtain ⟨hf,hP⟩:=F.ok i hi hL
 have htl:=F.tl
 have hll:=F.ll
 have hq:=(ckAll_pr F.ck).2
 have hl:=(ckAll_pr F.ck).1
 have hu:=ck_un hq
 have hin:gt c.Progs (gt w.T (i:Int)).Prog∈c.Progs:=by
  have e:(gt w.T (i:Int)).Prog=(((gt w.T (i:Int)).Prog.toNat:Nat):Int):=by omega
  rw [e,gt_nat (by omega)];exact List.getElem_mem _
 have hpk:=(F.pp.2 _ hin).2
 have pS:∀{α:Type} {x y:α},(if (decide ((i:Int) < (w.Ids.Live.length:Int)))=true then x else y)=x:=fun {α x y}=>if_pos (by simp;omega)
 have s17:∀r,(code_Tasks c.Progs ((gt w.T (i:Int)).Prog)).bind (fun(x516,x517) =>
  if (x517 != 0)=true then
   drain_Work_j18 c w (minC b) (i:Int) x517 M
  else
   (drain_measure_full 1000 c.Progs ((gt w.T (i:Int)).Prog) M).bind fun(x518,m519) =>
   if (decide (x518 > 1099511627776))=true then
    drain_Work_j18 c w (minC b) (i:Int) 4 m519
   else
    drain_Work_j18 c w (minC b) (i:Int) 0 m519)=r→drain_Work_s17 c w (minC b,(i:Int),M)=r:=fun r hr=>by
  rw [drain_Work_s17,pS,if_pos (by omega),hL,if_neg (by simp),if_pos (by omega)];exact hr
 rcases full_info F.pp F.ck hP with ⟨e,he,h1,h2⟩|⟨m,d,k,m',hd,h1,hk,h2⟩
 ·refine .inl ⟨e,he,s17 _ ?_,?_⟩
  ·rw [h1]
   simp only [Option.bind_some]
   rw [if_pos (by simpa using he),drain_Work_j18,if_pos (by simpa using he)]
  ·rw [r24_Work_s2,pS,if_pos (by omega),hL,if_neg (by simp),if_pos (by omega),h2]
   simp only [Option.bind_some]
   rw [if_pos (by simpa using he)]
 ·obtain ⟨v,hv⟩:=D_full hl hd hP
  have hl16:=hl.len
  obtain ⟨k1,M1,g1,⟨m2,g2⟩,g3⟩:=full_ok F.pp hl hq 1000 c.Progs.length _ v M hv hM (by omega) hP
  have:=Fw_uniq g2 hk
  subst this
  by_cases hg:k1 > 1099511627776
  ·refine .inl ⟨4,by decide,s17 _ ?_,?_⟩
   ·rw [h1]
    simp only [Option.bind_some]
    rw [if_neg (by simp),g1]
    simp only [Option.bind_some]
    rw [if_pos (by simpa using hg),drain_Work_j18,if_pos (by simp)]
   ·rw [r24_Work_s2,pS,if_pos (by omega),hL,if_neg (by simp),if_pos (by omega),h2,if_pos hg]
    simp only [Option.bind_some]
    rw [if_pos (by simp)]
  ·have hlb:=leftV_bounds hf
   obtain ⟨hchk,hkp,hpl,hun⟩:=fit_parts hf
   obtain ⟨-,hpc,-,-⟩:=chk_bounds hchk
   have hpe:(gt w.T (i:Int)).Pc=(((gt w.T (i:Int)).Pc.toNat:Nat):Int):=by omega
   have hplen:=(chkP_parts hkp).2.1
   have hle:step_Left (gt w.T (i:Int)) (gt c.Progs (gt w.T (i:Int)).Prog)=some (leftV (gt w.T (i:Int)) (gt c.Progs (gt w.T (i:Int)).Prog),0):=by rw [left_eq hpk,leftR,if_pos hf]
   have hre:r13_Left (gt w.T (i:Int)) (gt c.Progs (gt w.T (i:Int)).Prog)=some (leftV (gt w.T (i:Int)) (gt c.Progs (gt w.T (i:Int)).Prog),0):=by rw [rleft_eq hpk,leftR,if_pos hf]
   have hKl:=hT.len
   have hkid:=ckAll_kid F.ck _ hin
   have hpre:=rwork_pre (l:=c.Progs) (K:=K) (t:=gt w.T (i:Int)) rfl (by omega) hpe (by omega) ((gt w.T (i:Int)).Pc.toNat) 0 (leftV (gt w.T (i:Int)) (gt c.Progs (gt w.T (i:Int)).Prog)+1) (by omega)
   rw [List.take_zero,List.any_nil] at hpre
   have href:∀r,(0≤r∧r≤2199023255552)→whileO (r24_work_s1 c.Progs K (gt w.T (i:Int))) (leftV (gt w.T (i:Int)) (gt c.Progs (gt w.T (i:Int)).Prog)+1,false,0)=some r→r24_Work_s2 c w K (b,(i:Int))=some (.inl (addB b r,((i+1:Nat):Int))):=fun r hr hw=>by
    rw [r24_Work_s2,pS,if_pos (by omega),hL,if_neg (by simp),if_pos (by omega),h2,if_neg hg]
    simp only [Option.bind_some]
    rw [if_neg (by simp),if_pos (by omega),r24_work,if_pos hP,hre]
    simp only [Option.bind_some]
    rw [if_pos hP,w64_id (n:=leftV (gt w.T (i:Int)) (gt c.Progs (gt w.T (i:Int)).Prog)+1) (by omega) (by omega),hw]
    simp only [Option.bind_some]
    rw [w64_nat (by omega),w64_id (n:=b+r) (by omega) (by omega)];rfl
   have hda:∀r,drain_Work_j18 c w (minC b) (i:Int) 0 M1=r→drain_Work_s17 c w (minC b,(i:Int),M)=r:=fun r hr=>by
    refine s17 _ ?_
    rw [h1]
    simp only [Option.bind_some]
    rw [if_neg (by simp),g1]
    simp only [Option.bind_some]
    rw [if_neg (by simpa using hg),hr]
   have hmc:=minC_le b
   have hmc0:=minC_ge hb.1
   by_cases h0:leftV (gt w.T (i:Int)) (gt c.Progs (gt w.T (i:Int)).Prog)=0
   ·refine .inr ⟨addB b 1,M1,by unfold addB;split<;>omega,g3,hda _ ?_,href 1 (by omega) ?_⟩
    ·rw [drain_Work_j18,if_neg (by simp),if_pos hP,hle]
     simp only [Option.bind_some]
     rw [if_neg (by simp),h0,if_neg (by simp),w64_nat (by omega),←minC_add0 hb.1 (by omega)]
     rw [show IntKind.i64.wrap (0+1)=1 from rfl,w64_id (n:=minC b+1) (by omega) (by omega)];rfl
    ·have h0':=h0
     rw [h0]
     rw [h0] at hpre
     refine Eq.trans hpre ?_
     rcases hlb.2.2.1 h0' with hx|hx
     ·rw [hx]
      rw [rwork_out rfl (by omega) ((gt c.Progs (gt w.T (i:Int)).Prog).length - (gt w.T (i:Int)).Pc.toNat) _ _ (by omega)];rfl
     ·cases hx2:((gt c.Progs (gt w.T (i:Int)).Prog).take (gt w.T (i:Int)).Pc.toNat).any isX with
      | true=>rw [rwork_out rfl (by omega) ((gt c.Progs (gt w.T (i:Int)).Prog).length - (gt w.T (i:Int)).Pc.toNat) _ _ (by omega)];rfl
      | false =>
       have hdn:(gt c.Progs (gt w.T (i:Int)).Prog).drop (gt w.T (i:Int)).Pc.toNat=[]:=by rw [List.drop_eq_nil_iff];omega
       rw [rwork_in rfl (by omega) hpe (fun x hx h2=>by have:=hkid x hx h2;omega) hT.bounds ((gt c.Progs (gt w.T (i:Int)).Prog).length - (gt w.T (i:Int)).Pc.toNat) _ _ (by omega) (by omega) (by omega) (by rw [hdn];intro j hj;cases hj),hdn];rfl
   ·have hnx:((gt c.Progs (gt w.T (i:Int)).Prog).take (gt w.T (i:Int)).Pc.toNat).any isX=false:=by
     cases hx:((gt c.Progs (gt w.T (i:Int)).Prog).take (gt w.T (i:Int)).Pc.toNat).any isX with
     | false=>rfl
     | true=>exact absurd (hlb.2.2.2 (.inl hx)) h0
    have hks:∀j∈kidsOf (reach ((gt c.Progs (gt w.T (i:Int)).Prog).drop (gt w.T (i:Int)).Pc.toNat)),j∈kids c.Progs (gt w.T (i:Int)).Prog:=fun j hj=>by
     unfold kids;rw [kids_drop hnx];exact List.mem_append_right _ hj
    have hkd:∀j∈kidsOf (reach ((gt c.Progs (gt w.T (i:Int)).Prog).drop (gt w.T (i:Int)).Pc.toNat)),(0≤j∧j < c.Progs.length)∧∃v,D c.Progs c.Progs.length j=some v:=fun j hj=>by
     have h1:=hl.kid _ j hP.1 hP.2 (hks j hj)
     obtain ⟨m3,k3,_,h4⟩:=D_kid hd (hks j hj)
     exact ⟨h1,D_full hl h4 h1⟩
    have hnz:∀j∈kidsOf (reach ((gt c.Progs (gt w.T (i:Int)).Prog).drop (gt w.T (i:Int)).Pc.toNat)),gt K j≠0:=fun j hj=>by
     obtain ⟨h1,v,h2⟩:=hkd j hj
     obtain ⟨k3,hk3⟩:=Fw_of _ _ _ h2
     exact (hT.comp j h1.1 h1.2).1 k3 hk3
    obtain ⟨S,M2,m4,hS,hSb,hM2,hwl⟩:=work_loop (c:=c) (w:=w) (a:=minC b) (v:=(i:Int)) (n:=leftV (gt w.T (i:Int)) (gt c.Progs (gt w.T (i:Int)).Prog)) (sub_drop _ _) (by rw [List.length_drop];omega) hu
     (fun j K' hj hK'=>by
      obtain ⟨h1,v,h2⟩:=hkd j hj
      exact full_ok F.pp hl hq 1000 c.Progs.length j v K' h2 hK' (by omega) h1) _ 0 0 M1 (Nat.zero_add _) g3 ⟨0,rfl⟩ (by omega) rfl
    have hin2:=rwork_in (l:=c.Progs) (K:=K) (t:=gt w.T (i:Int)) (p:=gt c.Progs (gt w.T (i:Int)).Prog) rfl (by omega) hpe (fun x hx h2=>by have:=hkid x hx h2;omega) hT.bounds ((gt c.Progs (gt w.T (i:Int)).Prog).length - (gt w.T (i:Int)).Pc.toNat) (gt w.T (i:Int)).Pc.toNat (leftV (gt w.T (i:Int)) (gt c.Progs (gt w.T (i:Int)).Prog)+1) (by omega) (by omega) (by omega) hnz
    have hsd:=foldS_sound (l:=c.Progs) (f:=gt K) (ks:=kidsOf (reach ((gt c.Progs (gt w.T (i:Int)).Prog).drop (gt w.T (i:Int)).Pc.toNat))) (n:=leftV (gt w.T (i:Int)) (gt c.Progs (gt w.T (i:Int)).Prog)+1) (fun j hj=>hT.sound j (hkd j hj).1.1 (hkd j hj).1.2) (by omega)
    have hne:=foldS_ne (f:=gt K) (ks:=kidsOf (reach ((gt c.Progs (gt w.T (i:Int)).Prog).drop (gt w.T (i:Int)).Pc.toNat))) (n:=leftV (gt w.T (i:Int)) (gt c.Progs (gt w.T (i:Int)).Prog)+1) (fun j hj=>by
     have:=hnz j hj
     rcases hT.sound j (hkd j hj).1.1 (hkd j hj).1.2 with h|⟨h,_⟩<;>omega) (by omega)
    revert hin2 hsd hne
    generalize foldS (gt K) (kidsOf (reach ((gt c.Progs (gt w.T (i:Int)).Prog).drop (gt w.T (i:Int)).Pc.toNat))) (leftV (gt w.T (i:Int)) (gt c.Progs (gt w.T (i:Int)).Prog)+1)=R
    intro hin2 hsd hne
    rcases hsd with hz|⟨hRb,m5,hR⟩
    ·omega
    ·have e1:minC R=addC (leftV (gt w.T (i:Int)) (gt c.Progs (gt w.T (i:Int)).Prog)+1) S:=by
      have h3:=foldD_shift (g:=Fw c.Progs (max m4 m5)) (Fw_nonneg hu _) (a:=leftV (gt w.T (i:Int)) (gt c.Progs (gt w.T (i:Int)).Prog)+1) (by omega) (by omega) (foldD_mono (fun j k=>Fw_le (Nat.le_max_left m4 m5)) _ _ _ hS)
      have h4:=foldD_mono (fun j k=>Fw_le (Nat.le_max_right m4 m5)) _ _ _ hR
      have e:addC (leftV (gt w.T (i:Int)) (gt c.Progs (gt w.T (i:Int)).Prog)+1) 0=minC (leftV (gt w.T (i:Int)) (gt c.Progs (gt w.T (i:Int)).Prog)+1):=by unfold minC addC;repeat' split<;>omega
      rw [e,h4] at h3
      injection h3
     refine .inr ⟨addB b R,M2,by unfold addB;split<;>omega,hM2,hda _ ?_,href R (by omega) ?_⟩
     ·rw [drain_Work_j18,if_neg (by simp),if_pos hP,hle]
      simp only [Option.bind_some]
      rw [if_neg (by simp),if_pos (by simp;omega),if_pos hP,if_pos (by omega)]
      refine Eq.trans hwl ?_
      rw [drain_Work_j20,←minC_add0 hb.1 (by omega),e1,w64_nat (by omega),w64_id (n:=leftV (gt w.T (i:Int)) (gt c.Progs (gt w.T (i:Int)).Prog)+1) (by omega) (by omega),w64_id (n:=minC b+(leftV (gt w.T (i:Int)) (gt c.Progs (gt w.T (i:Int)).Prog)+1)) (by omega) (by omega),w64_id (by omega) (by omega)]
      have e2:∀x y z:Int,0≤x→0≤y→0≤z→(if 1099511627777 < x+y+z then 1099511627777 else x+y+z)=addC x (addC y z):=fun x y z h1 h2 h3=>by unfold addC;repeat' split<;>omega
      rw [e2 _ _ _ hmc0 (by omega) hSb.1];rfl
     ·refine Eq.trans hpre ?_
      rw [hnx]
      exact hin2
theorem work_tasks {c:api_Config} {w:api_World} {K:List Int} (F:FitW c w) (hT:TabW c.Progs c.Progs.length 0 K) :
 ∀(r i:Nat) (b:Int) (M:List (Int×Int)),i+r=w.T.length→(0≤b∧b≤2199023255552)→goodW c.Progs M→∃n e,whileO (drain_Work_s17 c w) (minC b,(i:Int),M)=some (n,e)∧whileO (r24_Work_s2 c w K) (b,(i:Int))=some (n,e)∧(e=0→0≤n∧n≤1099511627776)
 | 0,i,b,M,h,hb,hM=>by
  have hll:=F.ll
  have:(i:Int)=(w.Ids.Live.length:Int):=by omega
  have e:(decide (minC b > 1099511627776))=(decide (b > 1099511627776)):=by
   unfold minC;rw [decide_eq_decide];split<;>omega
  have h1:drain_Work_s17 c w (minC b,(i:Int),M)=inrO (if (decide (b > 1099511627776))=true then some (0,4) else some (b,0)):=by
   rw [drain_Work_s17,if_neg (by simp;omega),e]
   by_cases hg:b > 1099511627776
   ·rw [if_pos (by simpa using hg),if_pos (by simpa using hg)]
   ·rw [if_neg (by simpa using hg),if_neg (by simpa using hg)]
    unfold minC
    split
    ·rfl
    ·have:b=1099511627776:=by omega
     omega
  have h2:r24_Work_s2 c w K (b,(i:Int))=inrO (if (decide (b > 1099511627776))=true then some (0,4) else some (b,0)):=by
   rw [r24_Work_s2,if_neg (by simp;omega)]
  rw [whileO_inrO h1,whileO_inrO h2]
  by_cases hg:b > 1099511627776
  ·rw [if_pos (by simpa using hg)]
   exact ⟨0,4,rfl,rfl,fun h=>by cases h⟩
  ·rw [if_neg (by simpa using hg)]
   exact ⟨b,0,rfl,rfl,fun _=>by omega⟩
 | r+1,i,b,M,h,hb,hM=>by
  have hi:i < w.T.length:=by omega
  have htl:=F.tl
  have hll:=F.ll
  cases hL:gt w.Ids.Live (i:Int) with
  | false =>
   have h1:drain_Work_s17 c w (minC b,(i:Int),M)=some (.inl (minC b,((i+1:Nat):Int),M)):=by
    rw [drain_Work_s17,if_pos (by simp;omega),if_pos (by omega),hL,if_pos (by simp),w64_nat (by omega)];rfl
   have h2:r24_Work_s2 c w K (b,(i:Int))=some (.inl (b,((i+1:Nat):Int))):=by
    rw [r24_Work_s2,if_pos (by simp;omega),if_pos (by omega),hL,if_pos (by simp),w64_nat (by omega)];rfl
   rw [whileO_inl h1,whileO_inl h2]
   exact work_tasks F hT r (i+1) b M (by omega) hb hM
  | true =>
   rcases work_step F hT hi hL hb hM with ⟨e,he,h1,h2⟩|⟨b',M',hb',hM',h1,h2⟩
   ·rw [whileO_inrO h1,whileO_inrO h2]
    exact ⟨0,e,rfl,rfl,fun h=>absurd h he⟩
   ·rw [whileO_inl h1,whileO_inl h2]
    exact work_tasks F hT r (i+1) b' M' (by omega) hb' hM'
end Go.Proofs.YtkkimimkcchlnaaGreat
