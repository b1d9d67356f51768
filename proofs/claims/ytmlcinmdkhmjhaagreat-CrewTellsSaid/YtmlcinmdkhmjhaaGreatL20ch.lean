/- Helper lemmas for the claim's theorem: an abstract machine over the model, proved sound; no condition beyond each lemma's own. -/
import Derived.Test.YtmlcinmdkhmjhaaGreatL20cg
set_option linter.unusedVariables false
set_option linter.unusedSimpArgs false
set_option linter.unnecessarySimpa false
set_option linter.unusedSectionVars false
namespace Go.Proofs.YtmlcinmdkhmjhaaGreat
open Go Go.AM
set_option maxRecDepth 100000
set_option maxHeartbeats 1000000
set_option linter.unusedVariables false
set_option linter.unusedSimpArgs false
theorem four_sum:∀{xs:List Int},xs.all inFour=true→xs.count 0+xs.count 1+xs.count 2+xs.count 3=xs.length∧xs.count 2+xs.count 3=xs.countP (fun x=>decide (x≥2))
 | [],_=>by simp
 | x::xs,h=>by
  rw [List.all_cons,Bool.and_eq_true] at h
  have ih:=four_sum h.2
  have hx:=h.1
  simp only [inFour,Bool.and_eq_true,decide_eq_true_eq] at hx
  have hq:x=0∨x=1∨x=2∨x=3:=by omega
  rcases hq with rfl|rfl|rfl|rfl<;>simp [List.count_cons,List.countP_cons] at ih ⊢<;>omega
def okSt (d:api_Idle) (i:Nat):Bool:=decide (gt d.Is (i:Int) < 2)||(d.Stack.count (i:Int)==1)
def ckIdle (d:api_Idle):Bool :=
 !decide ((d.Is.length:Int) < 1)&&(!decide ((d.Is.length:Int) > 64)&&(d.Is.all inFour&&(decide (2*d.Is.count 1≤d.Is.length - d.Is.count 3+1)&&(decide (d.Stack.length=d.Is.count 2+d.Is.count 3)&&(List.range d.Is.length).all (okSt d)))))
theorem count_le64 {xs:List Int} (h:xs.length≤64) (a:Int):xs.count a≤64:=Nat.le_trans List.count_le_length h
theorem ridle_eq (d:api_Idle):r17_Check d=some (if ckIdle d then 0 else 1):=by
 unfold r17_Check ckIdle
 by_cases h1:decide ((d.Is.length:Int) < 1)=true
 ·rw [if_pos h1,h1];rfl
 ·rw [if_neg h1]
  rw [Bool.not_eq_true] at h1
  rw [h1]
  by_cases h2:decide ((d.Is.length:Int) > 64)=true
  ·rw [if_pos h2,h2];rfl
  ·rw [if_neg h2]
   rw [Bool.not_eq_true] at h2
   rw [h2]
   rw [decide_eq_false_iff_not] at h1 h2
   have hl:d.Is.length≤64:=by omega
   have c1:=count_le64 hl 1;have c2:=count_le64 hl 2;have c3:=count_le64 hl 3
   have c3':d.Is.count 3≤d.Is.length:=List.count_le_length
   unfold r17_Fits
   rw [many_eq 1 (by omega),many_eq 3 (by omega),many_eq 2 (by omega)]
   simp only [Option.bind_some,Bool.not_false,Bool.true_and]
   rw [w64_id (n:=2*((d.Is.count 1:Nat):Int)) (by omega) (by omega),w64_id (n:=(d.Is.length:Int) - ((d.Is.count 3:Nat):Int)) (by omega) (by omega),w64_id (n:=(d.Is.length:Int) - ((d.Is.count 3:Nat):Int)+1) (by omega) (by omega),w64_id (n:=((d.Is.count 2:Nat):Int)+((d.Is.count 3:Nat):Int)) (by omega) (by omega)]
   have e1:decide (2*((d.Is.count 1:Nat):Int)≤(d.Is.length:Int) - ((d.Is.count 3:Nat):Int)+1)=decide (2*d.Is.count 1≤d.Is.length - d.Is.count 3+1):=by
    rw [Bool.eq_iff_iff,decide_eq_true_eq,decide_eq_true_eq];omega
   rw [e1]
   cases hf:decide (2*d.Is.count 1≤d.Is.length - d.Is.count 3+1) with
   | false=>simp
   | true =>
    simp only [Bool.not_true,Bool.false_eq_true,if_false,Bool.true_and]
    by_cases hs:d.Stack.length=d.Is.count 2+d.Is.count 3
    ·rw [if_neg (by simp;omega)]
     have e2:decide (d.Stack.length=d.Is.count 2+d.Is.count 3)=true:=by simpa using hs
     rw [e2,Bool.true_and,loop_bad d.Is.length (fun i=>!inFour (gt d.Is (i:Int))||!okSt d i) (by omega)]
     ·have e3:(List.range d.Is.length).any (fun i=>!inFour (gt d.Is (i:Int))||!okSt d i)=!(d.Is.all inFour&&(List.range d.Is.length).all (okSt d)):=by
       have e4:d.Is.all inFour=(List.range d.Is.length).all (fun i=>inFour (gt d.Is (i:Int))):=by
        rw [Bool.eq_iff_iff,List.all_eq_true,List.all_eq_true]
        constructor
        ·intro h i hi
         have hi:i < d.Is.length:=by simpa using hi
         rw [gt_nat hi];exact h _ (List.getElem_mem hi)
        ·intro h x hx
         obtain ⟨i,hi,rfl⟩:=List.mem_iff_getElem.1 hx
         have:=h i (by simpa using hi)
         rwa [gt_nat hi] at this
       rw [e4,Bool.eq_iff_iff]
       simp only [List.any_eq_true,Bool.or_eq_true,Bool.not_eq_true',Bool.and_eq_false_iff,List.all_eq_false]
       constructor
       ·rintro ⟨i,hi,h|h⟩
        ·exact .inl ⟨i,hi,by simpa using h⟩
        ·exact .inr ⟨i,hi,by simpa using h⟩
       ·rintro (⟨i,hi,h⟩|⟨i,hi,h⟩)
        ·exact ⟨i,hi,.inl (by simpa using h)⟩
        ·exact ⟨i,hi,.inr (by simpa using h)⟩
      rw [e3]
      cases d.Is.all inFour&&(List.range d.Is.length).all (okSt d)<;>rfl
     ·intro i hi
      rw [r17_Check_s1,if_pos (by simpa using hi),if_pos (by omega)]
      unfold okSt inFour
      generalize gt d.Is (i:Int)=x
      by_cases hx:((decide (x < 0))||(decide (x > 3)))=true
      ·rw [if_pos hx,if_pos (by simp only [Bool.or_eq_true,decide_eq_true_eq] at hx;simp;omega)]
      ·rw [if_neg hx]
       simp only [Bool.or_eq_true,decide_eq_true_eq,not_or] at hx
       by_cases h2:x≥2
       ·rw [if_pos (by simpa using h2),many_eq _ (by omega),Option.bind_some]
        by_cases h3:d.Stack.count (i:Int)=1
        ·rw [if_neg (by simp [h3]),if_neg (by simp [h3];omega)]
        ·rw [if_pos (by simp;omega),if_pos (by simp [h3];omega)]
       ·rw [if_neg (by simpa using h2),if_neg (by simp;omega)]
     ·rw [r17_Check_s1,if_neg (by simp)]
    ·rw [if_pos (by simp;omega)]
     have e2:decide (d.Stack.length=d.Is.count 2+d.Is.count 3)=false:=by simpa using hs
     rw [e2];simp
def badI (d:api_Idle) (k:Nat):Bool:=((decide (gt d.Stack (k:Int) < 0)||decide (gt d.Stack (k:Int)≥(d.Is.length:Int)))||(List.range k).any (fun j=>gt d.Stack (j:Int)==gt d.Stack (k:Int)))||decide (gt d.Is (gt d.Stack (k:Int)) < 2)
theorem stack_loop (d:api_Idle) (hl:d.Stack.length≤1000):∀(m k:Nat) (M:List Bool),k+m=d.Stack.length→M.length=d.Is.length→(∀x:Int,0≤x→x < d.Is.length→gt M x=(List.range k).any (fun j=>gt d.Stack (j:Int)==x)) →
 whileO (idle_Check_s3 d) (M,(k:Int))=some (if ((List.range d.Stack.length).drop k).any (badI d)=true then 1 else 0)
 | 0,k,M,h,hM,hm=>by
  have:k=d.Stack.length:=by omega
  subst this
  rw [whileO_inr (k:=0) (by rw [idle_Check_s3,if_neg (by simp)];rfl),List.drop_eq_nil_of_le (by simp)];rfl
 | m+1,k,M,h,hM,hm=>by
  have hk:k < d.Stack.length:=by omega
  rw [drop_range hk,List.any_cons]
  have hst:idle_Check_s3 d (M,(k:Int))=if badI d k=true then some (.inr 1) else some (.inl (st M (gt d.Stack (k:Int)) true,((k+1:Nat):Int))):=by
   rw [idle_Check_s3,if_pos (by simpa using hk),if_pos (by omega),hM]
   unfold badI
   generalize hx:gt d.Stack (k:Int)=x
   by_cases h1:((decide (x < 0))||(decide (x≥(d.Is.length:Int))))=true
   ·rw [if_pos h1,idle_Check_j4,if_pos rfl,h1];rfl
   ·rw [if_neg h1]
    have h1':=h1
    simp only [Bool.or_eq_true,decide_eq_true_eq,not_or] at h1'
    rw [Bool.not_eq_true] at h1
    rw [h1,Bool.false_or,if_pos (by omega),idle_Check_j4,hm x (by omega) (by omega),hx]
    cases (List.range k).any (fun j=>gt d.Stack (j:Int)==x) with
    | true=>rfl
    | false =>
     simp only [Bool.false_eq_true,if_false,Bool.false_or]
     rw [if_pos (by omega)]
     by_cases h2:gt d.Is x < 2
     ·simp [h2]
     ·rw [if_neg (by simpa using h2),if_pos (by omega),w64_nat (by omega),if_neg (by simpa using h2)];rfl
  cases hb:badI d k with
  | true=>rw [whileO_inr (k:=1) (by rw [hst,if_pos hb])];rfl
  | false =>
   rw [whileO_inl (by rw [hst,if_neg (by rw [hb];simp)])]
   have hb':=hb
   unfold badI at hb'
   simp only [Bool.or_eq_false_iff,decide_eq_false_iff_not] at hb'
   rw [stack_loop d hl m (k+1) _ (by omega) (by unfold st;rw [List.length_set];exact hM) (fun x h0 h1=>?_)]
   ·rfl
   ·rw [List.range_succ,List.any_append]
    generalize hy:gt d.Stack (k:Int)=y at hb'
    have hyr:y.toNat < M.length:=by omega
    by_cases e:x=y
    ·subst e
     have:gt (st M x true) x=true:=by simp [gt,st,List.getD,List.getElem?_set,hyr]
     rw [this]
     simp [hy]
    ·have h2:gt (st M y true) x=gt M x:=by
      have:y.toNat≠x.toNat:=by omega
      simp [gt,st,List.getD,List.getElem?_set,this]
     rw [h2,hm x h0 h1]
     have h3:(y==x)=false:=by simpa using Ne.symm e
     simp [hy,h3]
theorem range_seen {L:List Int} {k:Nat} (hk:k≤L.length) (x:Int):(List.range k).any (fun j=>gt L (j:Int)==x)=decide (x∈L.take k):=by
 rw [←take_any (xs:=L) (fun y=>y==x) hk,Bool.eq_iff_iff]
 simp [List.any_eq_true]
theorem nodup_count {L:List Int} (h:∀k,k < L.length→(List.range k).any (fun j=>gt L (j:Int)==gt L (k:Int))=false) (x:Int):L.count x≤1:=by
 have key:∀k,k≤L.length→(L.take k).count x≤1:=by
  intro k
  induction k with
  | zero=>intro _;simp
  | succ k ih =>
   intro hk
   have hk':k < L.length:=by omega
   rw [List.take_succ_eq_append_getElem hk',List.count_append,List.count_singleton]
   have h1:=h k hk'
   rw [range_seen (by omega),gt_nat hk',decide_eq_false_iff_not] at h1
   by_cases e:L[k]=x
   ·subst e
    rw [List.count_eq_zero.2 h1];simp
   ·have:(L[k]==x)=false:=by simpa using e
    rw [this]
    have:=ih (by omega)
    simpa using this
 have:=key L.length (by omega)
 rwa [List.take_length] at this
theorem stack_iff {d:api_Idle} (ha:d.Is.all inFour=true) (hs:d.Stack.length=d.Is.count 2+d.Is.count 3):(List.range d.Stack.length).any (badI d)=!(List.range d.Is.length).all (okSt d):=by
 have h4:=(four_sum ha).2
 have hS:sumR (fun i=>if (decide (gt d.Is (i:Int)≥2))=true then 1 else 0) d.Is.length=d.Stack.length:=by
  rw [sumR_is (fun i=>decide (gt d.Is (i:Int)≥2)) d.Is (fun x=>decide (x≥2)) (fun i hi=>by rw [gt_nat hi]) _ (Nat.le_refl _),List.take_length,hs,h4]
 have hC:=sumR_count (fun i=>decide (gt d.Is (i:Int)≥2)) d.Is.length d.Stack
 have hto:∀x:Int,0≤x∧x < d.Is.length→gt d.Is (x.toNat:Int)=gt d.Is x:=fun x hx=>by rw [Int.toNat_of_nonneg hx.1]
 rw [Bool.eq_iff_iff,List.any_eq_true,Bool.not_eq_true',List.all_eq_false]
 constructor
 ·
  rintro ⟨k,hk,hb⟩
  have hk:k < d.Stack.length:=by simpa using hk
  apply Classical.byContradiction
  intro hno
  have hok:∀i,i < d.Is.length→okSt d i=true:=fun i hi=>by
   apply Classical.byContradiction
   intro h
   exact hno ⟨i,by simpa using hi,h⟩
  have hone:∀i,i < d.Is.length→gt d.Is (i:Int)≥2→d.Stack.count (i:Int)=1:=fun i hi h2=>by
   have:=hok i hi
   unfold okSt at this
   simp only [Bool.or_eq_true,decide_eq_true_eq,beq_iff_eq] at this
   omega
  have e1:sumR (fun i=>if (decide (gt d.Is (i:Int)≥2))=true then d.Stack.count (i:Int) else 0) d.Is.length=d.Stack.length:=by
   rw [←hS]
   refine sumR_congr fun i hi=>?_
   by_cases h2:gt d.Is (i:Int)≥2
   ·simp only [h2,decide_true,if_true];exact hone i hi h2
   ·simp [h2]
  rw [e1] at hC
  have hall:=List.countP_eq_length.1 hC.symm
  have hx:=hall _ (List.getElem_mem hk)
  rw [←gt_nat hk] at hx
  simp only [Bool.and_eq_true,decide_eq_true_eq] at hx
  rw [hto _ hx.1] at hx
  have hc1:=hone (gt d.Stack (k:Int)).toNat (by omega) (by rw [hto _ hx.1];exact hx.2)
  rw [Int.toNat_of_nonneg hx.1.1] at hc1
  unfold badI at hb
  simp only [Bool.or_eq_true,decide_eq_true_eq] at hb
  rcases hb with ((hb|hb)|hb)|hb
  ·omega
  ·omega
  ·rw [range_seen (by omega),decide_eq_true_eq] at hb
   have h5:0 < (d.Stack.take k).count (gt d.Stack (k:Int)):=List.count_pos_iff.2 hb
   have h6:d.Stack.count (gt d.Stack (k:Int))=(d.Stack.take k).count (gt d.Stack (k:Int))+(d.Stack.drop k).count (gt d.Stack (k:Int)):=by
    rw [←List.count_append,List.take_append_drop]
   have h7:0 < (d.Stack.drop k).count (gt d.Stack (k:Int)):=List.count_pos_iff.2 (by rw [gt_nat hk,List.drop_eq_getElem_cons hk];exact List.mem_cons_self ..)
   omega
  ·omega
 ·rintro ⟨i,hi,hb⟩
  have hi:i < d.Is.length:=by simpa using hi
  apply Classical.byContradiction
  intro hno
  have hgood:∀k,k < d.Stack.length→badI d k=false:=fun k hk=>by
   cases h:badI d k with
   | false=>rfl
   | true=>exact absurd ⟨k,by simpa using hk,h⟩ hno
  have hcnt:=nodup_count (L:=d.Stack) (fun k hk=>by
   have:=hgood k hk
   unfold badI at this
   simp only [Bool.or_eq_false_iff] at this
   exact this.1.2)
  have hall:d.Stack.countP (fun x=>decide (0≤x∧x < (d.Is.length:Int))&&decide (gt d.Is (x.toNat:Int)≥2))=d.Stack.length:=by
   rw [List.countP_eq_length]
   intro x hx
   obtain ⟨k,hk,rfl⟩:=List.mem_iff_getElem.1 hx
   have:=hgood k hk
   unfold badI at this
   simp only [Bool.or_eq_false_iff,decide_eq_false_iff_not] at this
   rw [gt_nat hk] at this
   have hr:0≤d.Stack[k]∧d.Stack[k] < (d.Is.length:Int):=by omega
   rw [hto _ hr]
   simp only [Bool.and_eq_true,decide_eq_true_eq]
   omega
  rw [hall,←hS] at hC
  have he:=sumR_eq (f:=fun i=>if (decide (gt d.Is (i:Int)≥2))=true then d.Stack.count (i:Int) else 0) (g:=fun i=>if (decide (gt d.Is (i:Int)≥2))=true then 1 else 0) (fun i hi=>by
   split
   ·exact hcnt _
   ·exact Nat.le_refl _) hC i hi
  unfold okSt at hb
  simp only [Bool.or_eq_true,decide_eq_true_eq,beq_iff_eq,not_or] at hb
  have h2:gt d.Is (i:Int)≥2:=by omega
  simp only [h2,decide_true,if_true] at he
  exact hb.2 he
theorem idle_eq (d:api_Idle) (hl:d.Is.length≤9223372036854775806):idle_Check d=some (if ckIdle d then 0 else 1):=by
 unfold idle_Check ckIdle
 obtain ⟨a,b,hab,hb⟩:=counted_any hl
 by_cases h1:(d.Is.length:Int) < 1
 ·rw [hab]
  simp [h1]
 ·by_cases h2:(d.Is.length:Int) > 64
  ·rw [hab]
   simp [h2]
  ·have hl64:d.Is.length≤64:=by omega
   by_cases ha:d.Is.all inFour=true
   ·have hc0:=count_le64 hl64 0;have hc1:=count_le64 hl64 1;have hc2:=count_le64 hl64 2;have hc3:=count_le64 hl64 3
    have h4:=(four_sum ha).1
    rw [counted_ok hl64 ha]
    simp only [Option.bind_some,Bool.not_true,Bool.false_or]
    rw [w64_id (n:=((d.Is.count 2:Nat):Int)+((d.Is.count 3:Nat):Int)) (by omega) (by omega)]
    have hfit:idle_tally_fits ⟨(d.Is.count 0:Nat),(d.Is.count 1:Nat),(d.Is.count 2:Nat),(d.Is.count 3:Nat)⟩=decide (2*d.Is.count 1≤d.Is.length - d.Is.count 3+1):=by
     unfold idle_tally_fits
     simp only
     rw [w64_id (n:=((d.Is.count 0:Nat):Int)+((d.Is.count 1:Nat):Int)) (by omega) (by omega),w64_id (n:=((d.Is.count 0:Nat):Int)+((d.Is.count 1:Nat):Int)+((d.Is.count 2:Nat):Int)) (by omega) (by omega),w64_id (n:=((d.Is.count 0:Nat):Int)+((d.Is.count 1:Nat):Int)+((d.Is.count 2:Nat):Int)+1) (by omega) (by omega),Int.tdiv_eq_ediv_of_nonneg (by omega),w64_id (by omega) (by omega),Bool.eq_iff_iff,decide_eq_true_eq,decide_eq_true_eq]
     omega
    rw [hfit]
    have e1:decide ((d.Is.length:Int) < 1)=false:=by simpa using h1
    have e2:decide ((d.Is.length:Int) > 64)=false:=by simpa using h2
    rw [e1,e2,ha]
    simp only [Bool.false_or,Bool.not_false,Bool.true_and]
    cases hf:decide (2*d.Is.count 1≤d.Is.length - d.Is.count 3+1) with
    | false=>simp
    | true =>
     simp only [Bool.not_true,Bool.false_or,Bool.true_and]
     by_cases hs:d.Stack.length=d.Is.count 2+d.Is.count 3
     ·have e3:decide (d.Stack.length=d.Is.count 2+d.Is.count 3)=true:=by simpa using hs
      rw [if_neg (by simp;omega),if_pos (by omega),e3,Bool.true_and]
      have hlp:=stack_loop d (by omega) d.Stack.length 0 (List.replicate d.Is.length false) (by omega) (by simp) (fun x h0 h1=>by
       obtain ⟨z,rfl⟩:∃z:Nat,x=(z:Int):=⟨x.toNat,by omega⟩
       rw [gt_nat (by simp;omega)];simp)
      rw [List.drop_zero,stack_iff ha hs] at hlp
      rw [Int.toNat_natCast]
      rw [show ((0:Nat):Int)=0 from rfl] at hlp
      rw [hlp]
      cases (List.range d.Is.length).all (okSt d)<;>rfl
     ·have e3:decide (d.Stack.length=d.Is.count 2+d.Is.count 3)=false:=by simpa using hs
      rw [if_pos (by simp;omega),e3];rfl
   ·have:b=false:=by
     cases b with
     | false=>rfl
     | true=>exact absurd (hb rfl) ha
    subst this
    rw [hab]
    rw [Bool.not_eq_true] at ha
    simp [ha]
end Go.Proofs.YtmlcinmdkhmjhaaGreat
