/- Helper lemmas for the claim's theorem: an abstract machine over the model, proved sound; no condition beyond each lemma's own. -/
import Derived.Test.YtmlcinmdkhmjhaaGreatL20cj
set_option linter.unusedVariables false
set_option linter.unusedSimpArgs false
set_option linter.unnecessarySimpa false
set_option linter.unusedSectionVars false
namespace Go.Proofs.YtmlcinmdkhmjhaaGreat
open Go Go.AM
set_option maxRecDepth 100000
set_option maxHeartbeats 1000000
set_option linter.unusedVariables false
set_option linter.unusedSimpArgs false
theorem unmet {met:List Bool} {a:Int} (ha:0≤a∧a < met.length) (hf:gt met a=false):(st met a true).count false+1=met.count false:=by
 obtain ⟨i,rfl⟩:∃i:Nat,a=(i:Int):=⟨a.toNat,by omega⟩
 have hi:i < met.length:=by omega
 rw [gt_nat hi] at hf
 unfold st
 rw [Int.toNat_natCast,List.count_set hi,hf]
 have:0 < met.count false:=List.count_pos_iff.2 (hf▸List.getElem_mem hi)
 simp;omega
theorem st_len {α:Type} (xs:List α) (i:Int) (x:α):(st xs i x).length=xs.length:=by unfold st;simp
def chainW (nx:List Int):Nat→List Bool→Int→Int→Option (List Int×List Bool×Int)
 | 0,_,_,_=>none
 | m+1,met,a,last=>if a=-1 then some ([],met,last) else if (decide (a < 0)||decide (a≥(nx.length:Int)))=true then none else if gt met a=true then none else
  (chainW nx m (st met a true) (gt nx a) a).map fun r=>(a::r.1,r.2.1,r.2.2)
theorem chainW_len {nx:List Int}:∀{m:Nat} {met:List Bool} {a last:Int} {l:List Int} {met':List Bool} {last':Int},met.length=nx.length→chainW nx m met a last=some (l,met',last')→met'.length=nx.length∧l.length+met'.count false=met.count false∧∀x∈l,0≤x∧x < nx.length
 | 0,met,a,last,l,met',last',hm,h=>by cases h
 | m+1,met,a,last,l,met',last',hm,h=>by
  rw [chainW] at h
  split at h
  ·cases h;exact ⟨hm,by simp,by simp⟩
  ·split at h
   ·cases h
   ·rename_i h1
    simp only [Bool.or_eq_true,decide_eq_true_eq,not_or] at h1
    split at h
    ·cases h
    ·rename_i h2
     rw [Option.map_eq_some_iff] at h
     obtain ⟨⟨l0,m0,z0⟩,h3,h4⟩:=h
     cases h4
     have hu:=unmet (met:=met) (a:=a) (by omega) (by simpa using h2)
     obtain ⟨g1,g2,g3⟩:=chainW_len (by rw [st_len];exact hm) h3
     refine ⟨g1,by simp only [List.length_cons];omega,fun x hx=>?_⟩
     rcases List.mem_cons.1 hx with rfl|hx
     ·omega
     ·exact g3 x hx
def tailOk (c:api_Chains) (i:Int) (last:Int):Bool:=gt c.Tail i==last
theorem whileO_inrO {S K:Type} {step:S→Option (S ⊕ K)} {s:S} {x:Option K} (h:step s=inrO x):whileO step s=x:=by
 cases x with
 | none=>exact whileO_none (by rw [h];rfl)
 | some k=>exact whileO_inr (by rw [h];rfl)
theorem check_list (c:api_Chains) {i:Int} (hi:0≤i∧i < c.Tail.length) (hn:c.Next.length≤1024):∀(m:Nat) (met:List Bool) (ahead a last:Int) (k:Nat),met.length=c.Next.length→met.count false < m→k+met.count false≤c.Next.length →
 whileO (chain_Check_s20 c i) (ahead,a,(k:Int),met,last,a)=match chainW c.Next m met a last with
  | none=>some (.inr 1)
  | some (_,met',last')=>if tailOk c i last'=true then some (.inl (IntKind.i64.wrap (i+1),met')) else some (.inr 1)
 | 0,met,ahead,a,last,k,hm,hc,hk=>by omega
 | m+1,met,ahead,a,last,k,hm,hc,hk=>by
  rw [chainW]
  have hlt:decide ((k:Int) < (c.Next.length:Int)+1)=true:=by simp;omega
  have hw:IntKind.i64.wrap ((c.Next.length:Int)+1)=(c.Next.length:Int)+1:=w64_id (by omega) (by omega)
  by_cases h1:a=-1
  ·rw [if_pos h1]
   subst h1
   rw [whileO_inrO (x:=chain_Check_j19 c i met last (-1)) (by rw [chain_Check_s20,hw,if_pos hlt,if_pos (by simp)]),chain_Check_j19,if_neg (by simp),if_pos hi]
   unfold tailOk
   by_cases h2:gt c.Tail i=last
   ·simp [h2,nextO]
   ·simp [h2,inrO]
  ·rw [if_neg h1]
   by_cases h2:(decide (a < 0)||decide (a≥(c.Next.length:Int)))=true
   ·rw [if_pos h2,whileO_inrO (x:=chain_Check_j19 c i met last a) (by rw [chain_Check_s20,hw,if_pos hlt,if_pos h2]),chain_Check_j19,if_pos (by simpa using h1)];rfl
   ·rw [if_neg h2]
    have h2':=h2
    simp only [Bool.or_eq_true,decide_eq_true_eq,not_or] at h2'
    have hr:0≤a∧a < (met.length:Int):=by omega
    by_cases h3:gt met a=true
    ·rw [if_pos h3,whileO_inrO (x:=inrO (some 1)) (by rw [chain_Check_s20,hw,if_pos hlt,if_neg h2,if_pos hr,if_pos h3])];rfl
    ·rw [if_neg h3]
     have hu:=unmet hr (by simpa using h3)
     rw [whileO_inl (by rw [chain_Check_s20,hw,if_pos hlt,if_neg h2,if_pos hr,if_neg h3,if_pos hr,if_pos (by omega),if_pos (by omega),w64_nat (by omega)];rfl),check_list c hi hn m _ a (gt c.Next a) a (k+1) (by rw [st_len];exact hm) (by omega) (by omega)]
     cases chainW c.Next m (st met a true) (gt c.Next a) a<;>rfl
theorem ref_list (c:api_Chains) {i:Int} (hi:0≤i∧i < c.Tail.length) (hn:c.Next.length≤1024) (out:List (List Int)) (ho:out.length≤1000):∀(m:Nat) (met:List Bool) (a last:Int) (acc:List Int),met.length=c.Next.length→met.count false < m→acc.length+met.count false≤c.Next.length →
 whileO (r06_Lists_s14 c out i) (met,a,acc,last)=match chainW c.Next m met a last with
  | none=>some (.inr ([],false))
  | some (l,met',last')=>if tailOk c i last'=true then some (.inl (met',out++[acc++l],IntKind.i64.wrap (i+1))) else some (.inr ([],false))
 | 0,met,a,last,acc,hm,hc,hk=>by omega
 | m+1,met,a,last,acc,hm,hc,hk=>by
  rw [chainW]
  by_cases h1:a=-1
  ·rw [if_pos h1]
   subst h1
   have hst:r06_Lists_s14 c out i (met,-1,acc,last)=inrO (if tailOk c i last=true then some (.inl (met,out++[acc],IntKind.i64.wrap (i+1))) else some (.inr ([],false))):=by
    rw [r06_Lists_s14,if_neg (by simp),if_pos hi]
    unfold tailOk
    by_cases h2:gt c.Tail i=last
    ·rw [if_neg (by simpa using h2),if_pos (show few _ by unfold few;simp;omega),if_pos (by simpa using h2)];rfl
    ·rw [if_pos (by simpa using h2),if_neg (by simpa using h2)];rfl
   rw [whileO_inrO hst]
   simp
  ·rw [if_neg h1]
   by_cases h2:(decide (a < 0)||decide (a≥(c.Next.length:Int)))=true
   ·rw [if_pos h2,whileO_inrO (x:=inrO (some ([],false))) (by rw [r06_Lists_s14,if_pos (by simpa using h1),if_pos h2])];rfl
   ·rw [if_neg h2]
    have h2':=h2
    simp only [Bool.or_eq_true,decide_eq_true_eq,not_or] at h2'
    have hr:0≤a∧a < (met.length:Int):=by omega
    by_cases h3:gt met a=true
    ·rw [if_pos h3,whileO_inrO (x:=inrO (some ([],false))) (by rw [r06_Lists_s14,if_pos (by simpa using h1),if_neg h2,if_pos hr,if_pos h3])];rfl
    ·rw [if_neg h3]
     have hu:=unmet hr (by simpa using h3)
     rw [whileO_inl (by rw [r06_Lists_s14,if_pos (by simpa using h1),if_neg h2,if_pos hr,if_neg h3,if_pos hr,if_pos (show few _ by unfold few;simp;omega),if_pos (by omega)];rfl),ref_list c hi hn out ho m _ (gt c.Next a) a (acc++[a]) (by rw [st_len];exact hm) (by omega) (by simp;omega)]
     cases h4:chainW c.Next m (st met a true) (gt c.Next a) a with
     | none=>rfl
     | some r=>obtain ⟨l,met',last'⟩:=r;simp
def chainsW (c:api_Chains):Nat→Int→List Bool→List (List Int)→Option (List (List Int)×List Bool)
 | 0,_,met,out=>some (out,met)
 | m+1,i,met,out=>match chainW c.Next (c.Next.length+1) met (gt c.Head i) (-1) with
  | none=>none
  | some (l,met',last')=>if tailOk c i last'=true then chainsW c m (i+1) met' (out++[l]) else none
def restOk (c:api_Chains) (met:List Bool):Bool:=!(List.range met.length).any (fun i=>!gt met (i:Int)&&(gt c.Next (i:Int) != -2))
def okC (c:api_Chains):Option (List (List Int)) :=
 if ((((decide ((c.Next.length:Int) > 1024))||(decide ((c.Head.length:Int) < 1)))||(decide ((c.Head.length:Int) > 256)))||((c.Tail.length:Int) != (c.Head.length:Int)))=true then none else
  match chainsW c c.Head.length 0 (List.replicate c.Next.length false) [] with
  | none=>none
  | some (out,met)=>if restOk c met=true then some out else none
theorem check_rest (c:api_Chains) {met:List Bool} (hm:met.length=c.Next.length) (hn:c.Next.length≤1024):whileO (chain_Check_s21 c met) 0=some (if restOk c met=true then 0 else 1):=by
 unfold restOk
 rw [loop_bad met.length (fun i=>!gt met (i:Int)&&(gt c.Next (i:Int) != -2)) (by omega)]
 ·cases (List.range met.length).any (fun i=>!gt met (i:Int)&&(gt c.Next (i:Int) != -2))<;>rfl
 ·intro i hi
  rw [chain_Check_s21,if_pos (by simpa using hi),if_pos (by omega)]
  cases gt met (i:Int) with
  | true=>rfl
  | false =>
   rw [if_pos (show (!false)=true from rfl),if_pos (by omega)];rfl
 ·rw [chain_Check_s21,if_neg (by simp)]
theorem ref_rest (c:api_Chains) {met:List Bool} (hm:met.length=c.Next.length) (hn:c.Next.length≤1024) (out:List (List Int)):whileO (r06_Lists_s15 c met out) 0=some (if restOk c met=true then (out,true) else ([],false)):=by
 unfold restOk
 rw [whileO_seek (step:=r06_Lists_s15 c met out) (fun i:Nat=>!gt met (i:Int)&&(gt c.Next (i:Int) != -2)) (List.range met.length) (fun _=>some ([],false)) (some (out,true)) (by simp;omega),seek_any]
 ·cases (List.range met.length).any (fun i=>!gt met (i:Int)&&(gt c.Next (i:Int) != -2))<;>rfl
 ·intro i hi
  rw [List.length_range] at hi
  have hgi:gt (List.range met.length) (i:Int)=i:=by rw [gt_nat (by simpa using hi),List.getElem_range]
  rw [hgi,r06_Lists_s15,if_pos (by simpa using hi),if_pos (by omega)]
  cases gt met (i:Int) with
  | true=>rfl
  | false =>
   rw [if_pos (show (!false)=true from rfl),if_pos (by omega)];rfl
 ·rw [List.length_range,r06_Lists_s15,if_neg (by simp)]
theorem check_lists (c:api_Chains) (hn:c.Next.length≤1024) (hh:c.Head.length≤256) (ht:c.Tail.length=c.Head.length):∀(m i:Nat) (met:List Bool) (out:List (List Int)),i+m=c.Head.length→out.length=i→met.length=c.Next.length →
 whileO (chain_Check_s17 c) ((i:Int),met)=(match chainsW c m i met out with
  | none=>some 1
  | some (_,met')=>some (if restOk c met'=true then 0 else 1)) ∧
 whileO (r06_Lists_s12 c) (met,out,(i:Int))=(match chainsW c m i met out with
  | none=>some ([],false)
  | some (out',met')=>some (if restOk c met'=true then (out',true) else ([],false)))
 | 0,i,met,out,h,ho,hm=>by
  have:i=c.Head.length:=by omega
  subst this
  rw [whileO_inrO (x:=whileO (chain_Check_s21 c met) 0) (by rw [chain_Check_s17,if_neg (by simp)]),whileO_inrO (x:=whileO (r06_Lists_s15 c met out) 0) (by rw [r06_Lists_s12,if_neg (by simp)]),check_rest c hm hn,ref_rest c hm hn]
  exact ⟨rfl,rfl⟩
 | m+1,i,met,out,h,ho,hm=>by
  have hi:i < c.Head.length:=by omega
  have hcf:met.count false≤met.length:=List.count_le_length
  have h1:=check_list c (i:=(i:Int)) (by omega) hn (c.Next.length+1) met (-1) (gt c.Head (i:Int)) (-1) 0 hm (by omega) (by omega)
  have h2:=ref_list c (i:=(i:Int)) (by omega) hn out (by omega) (c.Next.length+1) met (gt c.Head (i:Int)) (-1) [] hm (by omega) (by simp;omega)
  have s1:chain_Check_s17 c ((i:Int),met)=whileO (chain_Check_s20 c (i:Int)) (-1,(gt c.Head (i:Int)),0,met,-1,(gt c.Head (i:Int))):=by
   rw [chain_Check_s17,if_pos (by simpa using hi),if_pos (by omega),if_pos (by omega)]
  have s2:r06_Lists_s12 c (met,out,(i:Int))=whileO (r06_Lists_s14 c out (i:Int)) (met,(gt c.Head (i:Int)),[],-1):=by
   rw [r06_Lists_s12,if_pos (by simpa using hi),if_pos (by omega)]
  rw [show ((0:Nat):Int)=0 from rfl] at h1
  rw [h1] at s1
  rw [h2] at s2
  rw [chainsW]
  cases hc:chainW c.Next (c.Next.length+1) met (gt c.Head (i:Int)) (-1) with
  | none =>
   rw [hc] at s1 s2
   exact ⟨whileO_inr s1,whileO_inr s2⟩
  | some r =>
   obtain ⟨l,met',last'⟩:=r
   rw [hc] at s1 s2
   simp only at s1 s2
   have hl:=chainW_len hm hc
   by_cases ht2:tailOk c (i:Int) last'=true
   ·rw [if_pos ht2,w64_nat (by omega)] at s1 s2
    rw [whileO_inl s1,whileO_inl s2]
    simp only [ht2,if_true,List.nil_append]
    have:=check_lists c hn hh ht m (i+1) met' (out++[l]) (by omega) (by simp;omega) hl.1
    exact this
   ·rw [if_neg ht2] at s1 s2
    simp only [ht2]
    exact ⟨whileO_inr s1,whileO_inr s2⟩
theorem chain_eq (c:api_Chains):chain_Check c=some (if (okC c).isSome=true then 0 else 1)∧r06_Lists c=some (match okC c with|some out=>(out,true)|none=>([],false)):=by
 unfold chain_Check r06_Lists okC
 by_cases h:((((decide ((c.Next.length:Int) > 1024))||(decide ((c.Head.length:Int) < 1)))||(decide ((c.Head.length:Int) > 256)))||((c.Tail.length:Int) != (c.Head.length:Int)))=true
 ·rw [if_pos h,if_pos h,if_pos h];exact ⟨rfl,rfl⟩
 ·rw [if_neg h,if_neg h,if_neg h]
  simp only [Bool.or_eq_true,decide_eq_true_eq,bne_iff_ne,ne_eq,not_or,Classical.not_not] at h
  have hg:0≤(c.Next.length:Int)∧(c.Next.length:Int)≤(c.Next.length:Int)∧(c.Next.length:Int)≤549755813888:=by omega
  rw [if_pos hg,if_pos hg,Int.toNat_natCast]
  have:=check_lists c (by omega) (by omega) (by omega) c.Head.length 0 (List.replicate c.Next.length false) [] (by omega) rfl (by simp)
  rw [show ((0:Nat):Int)=0 from rfl] at this
  rw [this.1,this.2]
  cases chainsW c c.Head.length 0 (List.replicate c.Next.length false) [] with
  | none=>exact ⟨rfl,rfl⟩
  | some r =>
   obtain ⟨out,met⟩:=r
   by_cases hr:restOk c met=true<;>simp [hr]
end Go.Proofs.YtmlcinmdkhmjhaaGreat
