/- Helper lemmas for the claim's theorem: an abstract machine over the model, proved sound; no condition beyond each lemma's own. -/
import Derived.Test.YtmlcinmdkhmjhaaGreatL20ce
set_option linter.unusedVariables false
set_option linter.unusedSimpArgs false
set_option linter.unnecessarySimpa false
set_option linter.unusedSectionVars false
namespace Go.Proofs.YtmlcinmdkhmjhaaGreat
open Go Go.AM
set_option maxRecDepth 100000
set_option maxHeartbeats 1000000
set_option linter.unusedVariables false
set_option linter.unusedSimpArgs false
theorem drop_range {n i:Nat} (h:i < n):(List.range n).drop i=i::(List.range n).drop (i+1):=by
 rw [List.drop_eq_getElem_cons (by simpa using h),List.getElem_range]
theorem dup_loop {α:Type} [Inhabited α] {step:Int×List (Int×Bool)→Option ((Int×List (Int×Bool)) ⊕ Int)} (xs:List α) (key:α→Int) (v:Int→Bool) (bad:α→Bool) (M0:List (Int×Bool)) (e:Int) (hl:xs.length≤9223372036854775806)
 (hs:∀(i:Nat) (M:List (Int×Bool)),i < xs.length→step ((i:Int),M)=if (bad (gt xs (i:Int))||(mget M (key (gt xs (i:Int)))).getD false)=true then inrO (some 1) else nextO (IntKind.i64.wrap ((i:Int)+1),mput M (key (gt xs (i:Int))) (v (key (gt xs (i:Int))))))
 (he:∀M,step ((xs.length:Int),M)=inrO (some e)) :
 whileO step (0,M0)=some (if (List.range xs.length).any (fun i=>bad (gt xs (i:Int))||(if (List.range i).any (fun j=>key (gt xs (j:Int))==key (gt xs (i:Int)))=true then v (key (gt xs (i:Int))) else (mget M0 (key (gt xs (i:Int)))).getD false))=true then 1 else e):=by
 have key':∀(m i:Nat) (M:List (Int×Bool)),i+m=xs.length→(∀k,(mget M k).getD false=if (List.range i).any (fun j=>key (gt xs (j:Int))==k)=true then v k else (mget M0 k).getD false) →
  whileO step ((i:Int),M)=some (if ((List.range xs.length).drop i).any (fun i=>bad (gt xs (i:Int))||(if (List.range i).any (fun j=>key (gt xs (j:Int))==key (gt xs (i:Int)))=true then v (key (gt xs (i:Int))) else (mget M0 (key (gt xs (i:Int)))).getD false))=true then 1 else e):=by
  intro m
  induction m with
  | zero =>
   intro i M h _
   have:i=xs.length:=by omega
   subst this
   rw [whileO_inr (k:=e) (by rw [he M];rfl),List.drop_eq_nil_of_le (by simp)];rfl
  | succ m ih =>
   intro i M h hM
   have hi:i < xs.length:=by omega
   rw [drop_range hi,List.any_cons,←hM]
   cases hb:(bad (gt xs (i:Int))||(mget M (key (gt xs (i:Int)))).getD false) with
   | true =>
    rw [whileO_inr (k:=1) (by rw [hs i M hi,if_pos hb];rfl)]
    rfl
   | false =>
    rw [whileO_inl (by rw [hs i M hi,if_neg (by rw [hb];simp),w64_nat (by omega)];rfl)]
    rw [ih (i+1) _ (by omega) (fun k=>?_)]
    ·rfl
    ·rw [mget_mput,List.range_succ,List.any_append]
     by_cases hk:k=key (gt xs (i:Int))
     ·subst hk
      simp
     ·have h1:(key (gt xs (i:Int))==k)=false:=by simpa using Ne.symm hk
      simp only [if_neg hk,List.any_cons,List.any_nil,h1,Bool.or_false]
      exact hM k
 exact key' xs.length 0 M0 (by omega) (fun k=>by simp)
theorem take_any {α:Type} [Inhabited α] {xs:List α} (p:α→Bool) {i:Nat} (h:i≤xs.length):(xs.take i).any p=(List.range i).any (fun j=>p (gt xs (j:Int))):=by
 induction i with
 | zero=>simp
 | succ i ih =>
  have hi:i < xs.length:=by omega
  rw [List.take_succ_eq_append_getElem hi,List.any_append,List.range_succ,List.any_append,ih (by omega)]
  simp [gt_nat hi]
theorem any_congr {n:Nat} {p q:Nat→Bool} (h:∀i,i < n→p i=q i):(List.range n).any p=(List.range n).any q:=by
 rw [Bool.eq_iff_iff,List.any_eq_true,List.any_eq_true]
 constructor
 ·rintro ⟨i,hi,hp⟩;exact ⟨i,hi,by rw [←h i (by simpa using hi)];exact hp⟩
 ·rintro ⟨i,hi,hp⟩;exact ⟨i,hi,by rw [h i (by simpa using hi)];exact hp⟩
def badSem (s:api_Sem) (i:Nat):Bool:=decide (gt s.Wait (i:Int) < 0)||(List.range i).any (fun j=>gt s.Wait (j:Int)==gt s.Wait (i:Int))
def ckSem (s:api_Sem):Bool:=!((((decide (s.Free < 0))||(decide (s.Free > 1000)))||(decide ((s.Wait.length:Int) > 256)))||((decide (s.Free > 0))&&(decide ((s.Wait.length:Int) > 0))))&&!(List.range s.Wait.length).any (badSem s)
theorem sema_eq (s:api_Sem):sema_Check s=some (if ckSem s then 0 else 1):=by
 unfold sema_Check ckSem
 have hg:(decide ((if (s.Wait.length:Int) < s.Free then (s.Wait.length:Int) else s.Free) > 0))=((decide (s.Free > 0))&&(decide ((s.Wait.length:Int) > 0))):=by
  rw [Bool.eq_iff_iff]
  simp only [decide_eq_true_eq,Bool.and_eq_true]
  split<;>omega
 rw [hg]
 by_cases h:((((decide (s.Free < 0))||(decide (s.Free > 1000)))||(decide ((s.Wait.length:Int) > 256)))||((decide (s.Free > 0))&&(decide ((s.Wait.length:Int) > 0))))=true
 ·rw [if_pos h,h];rfl
 ·rw [if_neg h]
  rw [Bool.not_eq_true] at h
  have h':=h
  simp only [Bool.or_eq_false_iff,decide_eq_false_iff_not] at h'
  rw [dup_loop (step:=sema_Check_s1 s) s.Wait id (fun _=>true) (fun w=>decide (w < 0)) (mput [] (-1) true) 0 (by omega),h]
  ·rw [any_congr (q:=badSem s)]
   ·cases (List.range s.Wait.length).any (badSem s)<;>rfl
   ·intro i hi
    unfold badSem
    simp only [id]
    by_cases h1:gt s.Wait (i:Int) < 0
    ·simp [h1]
    ·have h2:gt s.Wait (i:Int)≠-1:=by omega
     have:(mget (mput [] (-1) true) (gt s.Wait (i:Int))).getD false=false:=by rw [mget_mput,if_neg h2];rfl
     rw [this]
     cases (List.range i).any (fun j=>gt s.Wait (j:Int)==gt s.Wait (i:Int))<;>simp [h1]
  ·intro i M hi
   rw [sema_Check_s1,if_pos (by simpa using hi),if_pos (by omega)];rfl
  ·intro M
   rw [sema_Check_s1,if_neg (by simp)]
theorem rhas_eq {xs:List Int} {w:Int} (h:xs.length≤1000000):r10_Has xs w=some (xs.any (·==w)):=by
 unfold r10_Has
 rw [whileO_seek (step:=r10_Has_s1 xs w) (fun y=>y==w) xs (fun _=>some true) (some false) (by omega),seek_any]
 ·cases xs.any (·==w)<;>rfl
 ·intro i hi
  rw [r10_Has_s1,if_pos (by simpa using hi),if_pos (by omega)]
 ·rw [r10_Has_s1,if_neg (by simp)]
theorem rsema_eq (s:api_Sem):r10_Check s=some (if ckSem s then 0 else 1):=by
 unfold r10_Check ckSem
 by_cases h:((((decide (s.Free < 0))||(decide (s.Free > 1000)))||(decide ((s.Wait.length:Int) > 256)))||((decide (s.Free > 0))&&(decide ((s.Wait.length:Int) > 0))))=true
 ·rw [if_pos h,h];rfl
 ·rw [if_neg h]
  rw [Bool.not_eq_true] at h
  have h':=h
  simp only [Bool.or_eq_false_iff,decide_eq_false_iff_not] at h'
  rw [loop_bad s.Wait.length (badSem s) (by omega),h]
  ·cases (List.range s.Wait.length).any (badSem s)<;>rfl
  ·intro i hi
   rw [r10_Check_s1,if_pos (by simpa using hi),if_pos (by omega)]
   unfold badSem
   by_cases h1:(decide (gt s.Wait (i:Int) < 0))=true
   ·rw [if_pos h1,h1];rfl
   ·rw [if_neg h1,if_pos (by omega),show sub s.Wait 0 (i:Int)=s.Wait.take i by simp [sub],rhas_eq (by rw [List.length_take];omega),Option.bind_some,take_any _ (by omega)]
    rw [Bool.not_eq_true] at h1
    rw [h1,Bool.false_or]
  ·rw [r10_Check_s1,if_neg (by simp)]
def badFd (l:List api_Fd) (i:Nat):Bool :=
 (((decide (((gt l (i:Int)).Who) < (-1)))||((!((gt l (i:Int)).Open))&&(((gt l (i:Int)).Ready)||(((gt l (i:Int)).Who) != (-1)))))||(((gt l (i:Int)).Ready)&&(((gt l (i:Int)).Who) != (-1))))||(decide ((gt l (i:Int)).Who≥0)&&(List.range i).any (fun j=>(gt l (j:Int)).Who==(gt l (i:Int)).Who))
def ckFds (l:List api_Fd):Bool:=!decide ((l.length:Int) > 16)&&!(List.range l.length).any (badFd l)
def badFd0 (x:api_Fd):Bool:=(decide (x.Who < -1))||((!x.Open&&!(api_Fd.beq x (api_Fd.mk false false (-1))))||(x.Ready&&(x.Who != -1)))
theorem fds_eq {l:List api_Fd} (hl:l.length≤9223372036854775806):poll_Check l=some (if ckFds l then 0 else 1):=by
 unfold poll_Check ckFds
 rw [dup_loop (step:=poll_Check_s2 l) l api_Fd.Who (fun k=>k != -1) badFd0 [] (if (decide ((l.length:Int) > 16))=true then 1 else 0) hl]
 ·rw [any_congr (q:=badFd l)]
  ·cases (List.range l.length).any (badFd l)<;>cases decide ((l.length:Int) > 16)<;>rfl
  ·intro i hi
   unfold badFd badFd0
   generalize gt l (i:Int)=x
   generalize (List.range i).any (fun j=>(gt l (j:Int)).Who==x.Who)=d
   have e0:(mget ([]:List (Int×Bool)) x.Who).getD false=false:=rfl
   rw [e0]
   have e1:api_Fd.beq x (api_Fd.mk false false (-1))=((x.Open==false)&&((x.Ready==false)&&(x.Who==-1))):=by unfold api_Fd.beq;simp
   rw [e1]
   obtain ⟨o,rd,w⟩:=x
   simp only
   by_cases hw:w=-1
   ·subst hw
    cases o<;>cases rd<;>cases d<;>rfl
   ·have h2:(w==-1)=false:=by simpa using hw
    have h3:(w != -1)=true:=by simpa using hw
    by_cases h4:w < -1
    ·simp [h4]
    ·have h5:decide (w≥0)=true:=by simp;omega
     rw [h2,h3,h5]
     cases o<;>cases rd<;>cases d<;>simp [h4]
 ·intro i M hi
  rw [poll_Check_s2,if_pos (by simpa using hi),if_pos (by omega)]
  unfold badFd0 letO poll_shut
  generalize gt l (i:Int)=x
  cases h1:decide (x.Who < -1) with
  | true=>simp
  | false =>
   cases ho:x.Open<;>cases hr:x.Ready<;>cases hb:api_Fd.beq x (api_Fd.mk false false (-1))<;>simp [hb]
 ·intro M
  rw [poll_Check_s2,if_neg (by simp)]
  cases decide ((l.length:Int) > 16)<;>rfl
theorem rfds_eq {l:List api_Fd}:r09_Check l=some (if ckFds l then 0 else 1):=by
 unfold r09_Check ckFds
 by_cases h:decide ((l.length:Int) > 16)=true
 ·rw [if_pos h,h];rfl
 ·rw [if_neg h]
  rw [Bool.not_eq_true] at h
  have h':=h
  simp only [decide_eq_false_iff_not] at h'
  rw [loop_bad l.length (badFd l) (by omega),h]
  ·cases (List.range l.length).any (badFd l)<;>rfl
  ·intro i hi
   rw [r09_Check_s3,if_pos (by simpa using hi),if_pos (by omega)]
   have e:sub l 0 (i:Int)=l.take i:=by simp [sub]
   have hin:whileO (r09_Check_s4 l (i:Int)) 0=if (decide ((gt l (i:Int)).Who≥0)&&(List.range i).any (fun j=>(gt l (j:Int)).Who==(gt l (i:Int)).Who))=true then inrO (some 1) else nextO (IntKind.i64.wrap ((i:Int)+1)):=by
    rw [whileO_seek (step:=r09_Check_s4 l (i:Int)) (fun y=>(decide ((gt l (i:Int)).Who≥0))&&(y.Who==(gt l (i:Int)).Who)) (l.take i) (fun _=>inrO (some 1)) (nextO (IntKind.i64.wrap ((i:Int)+1))) (by rw [List.length_take];omega),seek_any,take_any _ (by omega)]
    ·cases decide ((gt l (i:Int)).Who≥0)<;>simp
    ·intro j hj
     rw [r09_Check_s4,e,if_pos (by simpa using hj),if_pos (by omega)]
    ·rw [r09_Check_s4,e,if_neg (by simp)]
   unfold badFd
   by_cases h1:(((decide (((gt l (i:Int)).Who) < (-1)))||((!((gt l (i:Int)).Open))&&(((gt l (i:Int)).Ready)||(((gt l (i:Int)).Who) != (-1)))))||(((gt l (i:Int)).Ready)&&(((gt l (i:Int)).Who) != (-1))))=true
   ·rw [if_pos h1,h1];rfl
   ·rw [if_neg h1,if_pos (by omega),hin]
    rw [Bool.not_eq_true] at h1
    rw [h1,Bool.false_or]
  ·rw [r09_Check_s3,if_neg (by simp)]
def ckTen (l:List api_Tenant):Bool:=!((decide ((l.length:Int) < 1))||(decide ((l.length:Int) > 16)))&&!l.any lodge_odd
theorem ten_eq (l:List api_Tenant):lodge_Check l=some (if ckTen l then 0 else 1):=by
 unfold lodge_Check ckTen
 by_cases h:((decide ((l.length:Int) < 1))||(decide ((l.length:Int) > 16)))=true
 ·rw [if_pos h,h];rfl
 ·rw [if_neg h]
  rw [Bool.not_eq_true] at h
  have h':=h
  simp only [Bool.or_eq_false_iff,decide_eq_false_iff_not] at h'
  unfold slices_ContainsFunc_api_Tenant_api_Tenant_odd182 slices_IndexFunc_api_Tenant_api_Tenant_odd182
  rw [whileO_index (step:=slices_IndexFunc_api_Tenant_api_Tenant_odd182_s1 l) lodge_odd l (by omega) (fun v=>rfl),Option.bind_some,Option.bind_some,idxOf_any,h]
  cases l.any lodge_odd<;>rfl
theorem rten_eq (l:List api_Tenant):r14_Check l=some (if ckTen l then 0 else 1):=by
 unfold r14_Check ckTen
 by_cases h:((decide ((l.length:Int) < 1))||(decide ((l.length:Int) > 16)))=true
 ·rw [if_pos h,h];rfl
 ·rw [if_neg h]
  rw [Bool.not_eq_true] at h
  have h':=h
  simp only [Bool.or_eq_false_iff,decide_eq_false_iff_not] at h'
  rw [whileO_seek (step:=r14_Check_s1 l) lodge_odd l (fun _=>some 1) (some 0) (by omega),seek_any,h]
  ·cases l.any lodge_odd<;>rfl
  ·intro i hi
   rw [r14_Check_s1,if_pos (by simpa using hi),if_pos (by omega)]
   have:(((((!(r14_in ((gt l (i:Int)).Weight) 1 16))||(!(r14_in ((gt l (i:Int)).Quota) 0 256)))||(decide (((gt l (i:Int)).Live) < 0)))||(decide (((gt l (i:Int)).Live) > ((gt l (i:Int)).Quota))))||(!(r14_in ((gt l (i:Int)).Tag) 0 1152921504606846976))||(!(r14_in ((gt l (i:Int)).Ran) 0 1099511627776)))=lodge_odd (gt l (i:Int)):=by
    unfold lodge_odd r14_in lodge_within_int lodge_within_int64
    rw [Bool.eq_iff_iff]
    simp only [Bool.or_eq_true,Bool.not_eq_true',Bool.and_eq_false_iff,decide_eq_true_eq,decide_eq_false_iff_not]
    omega
   rw [this]
  ·rw [r14_Check_s1,if_neg (by simp)]
end Go.Proofs.YtmlcinmdkhmjhaaGreat
namespace Go.Proofs.YtmlcinmdkhmjhaaGreat
open Go Go.AM
set_option maxRecDepth 100000
set_option maxHeartbeats 1000000
set_option linter.unusedVariables false
set_option linter.unusedSimpArgs false
theorem many_loop (xs:List Int) (a:Int) (hl:xs.length≤9223372036854775806):∀(m i:Nat),i+m=xs.length→whileO (r17_many_s1 xs a) (((xs.take i).count a:Nat),(i:Int))=some ((xs.count a:Nat):Int)
 | 0,i,h=>by
  have:i=xs.length:=by omega
  subst this
  rw [List.take_length]
  exact whileO_inr (by rw [r17_many_s1,if_neg (by simp)];rfl)
 | m+1,i,h=>by
  have hi:i < xs.length:=by omega
  rw [←many_loop xs a hl m (i+1) (by omega)]
  refine whileO_inl ?_
  have hc:(xs.take i).count a≤i:=Nat.le_trans List.count_le_length (by rw [List.length_take];omega)
  rw [r17_many_s1,if_pos (by simpa using hi),if_pos (by omega),gt_nat hi,List.take_succ_eq_append_getElem hi,List.count_append,List.count_singleton]
  by_cases h1:(xs[i]==a)=true
  ·rw [if_pos h1,w64_nat (by omega),w64_nat (by omega),h1];rfl
  ·rw [if_neg h1,w64_nat (by omega)]
   rw [Bool.not_eq_true] at h1
   rw [h1];rfl
theorem many_eq {xs:List Int} (a:Int) (hl:xs.length≤9223372036854775806):r17_many xs a=some ((xs.count a:Nat):Int):=by
 have:=many_loop xs a hl xs.length 0 (by omega)
 simpa [r17_many] using this
def inFour (x:Int):Bool:=decide (0≤x)&&decide (x≤3)
theorem counted_loop (d:api_Idle) (hl:d.Is.length≤64) (ha:d.Is.all inFour=true):∀(m i:Nat),i+m=d.Is.length →
 whileO (idle_counted_s1 d) ((i:Int),((d.Is.take i).count 0:Nat),((d.Is.take i).count 1:Nat),((d.Is.take i).count 2:Nat),((d.Is.take i).count 3:Nat))=some (⟨(d.Is.count 0:Nat),(d.Is.count 1:Nat),(d.Is.count 2:Nat),(d.Is.count 3:Nat)⟩,true)
 | 0,i,h=>by
  have:i=d.Is.length:=by omega
  subst this
  rw [List.take_length]
  exact whileO_inr (by rw [idle_counted_s1,if_neg (by simp)];rfl)
 | m+1,i,h=>by
  have hi:i < d.Is.length:=by omega
  rw [←counted_loop d hl ha m (i+1) (by omega)]
  refine whileO_inl ?_
  have hx:=List.all_eq_true.1 ha _ (List.getElem_mem hi)
  simp only [inFour,Bool.and_eq_true,decide_eq_true_eq] at hx
  have hc:∀a:Int,(d.Is.take i).count a≤64:=fun a=>Nat.le_trans List.count_le_length (by rw [List.length_take];omega)
  rw [idle_counted_s1,if_pos (by simpa using hi),if_pos (by omega),gt_nat hi,if_neg (by simp;omega),if_pos (by omega),if_pos (by omega),w64_nat (by omega)]
  rw [List.take_succ_eq_append_getElem hi]
  simp only [List.count_append,List.count_singleton]
  generalize d.Is[i]=x at hx ⊢
  have h0:=hc 0;have h1:=hc 1;have h2:=hc 2;have h3:=hc 3
  have hq:x=0∨x=1∨x=2∨x=3:=by omega
  rcases hq with rfl|rfl|rfl|rfl
  ·simp [nextO,w64_nat (show (d.Is.take i).count 0≤9223372036854775806 by omega)]
  ·simp [nextO,w64_nat (show (d.Is.take i).count 1≤9223372036854775806 by omega)]
  ·simp [nextO,w64_nat (show (d.Is.take i).count 2≤9223372036854775806 by omega)]
  ·simp [nextO,w64_nat (show (d.Is.take i).count 3≤9223372036854775806 by omega)]
theorem counted_ok {d:api_Idle} (hl:d.Is.length≤64) (ha:d.Is.all inFour=true):idle_counted d=some (⟨(d.Is.count 0:Nat),(d.Is.count 1:Nat),(d.Is.count 2:Nat),(d.Is.count 3:Nat)⟩,true):=by
 have:=counted_loop d hl ha d.Is.length 0 (by omega)
 simpa [idle_counted] using this
theorem counted_any {d:api_Idle} (hl:d.Is.length≤9223372036854775806):∃a b,idle_counted d=some (a,b)∧(b=true→d.Is.all inFour=true):=by
 have key:∀(m i:Nat) (a b c e:Int),i+m=d.Is.length→(d.Is.take i).all inFour=true→∃x y,whileO (idle_counted_s1 d) ((i:Int),a,b,c,e)=some (x,y)∧(y=true→d.Is.all inFour=true):=by
  intro m
  induction m with
  | zero =>
   intro i a b c e h ht
   have:i=d.Is.length:=by omega
   subst this
   rw [List.take_length] at ht
   exact ⟨_,_,whileO_inr (by rw [idle_counted_s1,if_neg (by simp)];rfl),fun _=>ht⟩
  | succ m ih =>
   intro i a b c e h ht
   have hi:i < d.Is.length:=by omega
   by_cases hb:((decide (d.Is[i] < 0))||(decide (d.Is[i] > 3)))=true
   ·exact ⟨_,_,whileO_inr (by rw [idle_counted_s1,if_pos (by simpa using hi),if_pos (by omega),gt_nat hi,if_pos hb];rfl),fun e=>by cases e⟩
   ·have hb':=hb
    simp only [Bool.or_eq_true,decide_eq_true_eq,not_or] at hb'
    obtain ⟨x,y,h1,h2⟩:=ih (i+1) _ _ _ _ (by omega) (by rw [List.take_succ_eq_append_getElem hi,List.all_append,ht];simp [inFour];omega)
    refine ⟨x,y,?_,h2⟩
    rw [←h1]
    exact whileO_inl (by rw [idle_counted_s1,if_pos (by simpa using hi),if_pos (by omega),gt_nat hi,if_neg hb,if_pos (by omega),if_pos (by omega),w64_nat (by omega)];rfl)
 obtain ⟨x,y,h1,h2⟩:=key d.Is.length 0 0 0 0 0 (by omega) (by simp)
 exact ⟨x,y,h1,h2⟩
def sumR (g:Nat→Nat):Nat→Nat
 | 0=>0
 | n+1=>sumR g n+g n
theorem sumR_add (f g:Nat→Nat):∀n,sumR (fun i=>f i+g i) n=sumR f n+sumR g n
 | 0=>rfl
 | n+1=>by simp only [sumR,sumR_add f g n];omega
theorem sumR_congr {f g:Nat→Nat}:∀{n:Nat},(∀i,i < n→f i=g i)→sumR f n=sumR g n
 | 0,_=>rfl
 | n+1,h=>by simp only [sumR];rw [sumR_congr (n:=n) fun i hi=>h i (by omega),h n (by omega)]
theorem sumR_le {f g:Nat→Nat}:∀{n:Nat},(∀i,i < n→f i≤g i)→sumR f n≤sumR g n
 | 0,_=>Nat.le_refl _
 | n+1,h=>by
  have h1:=sumR_le (n:=n) fun i hi=>h i (by omega)
  have h2:=h n (by omega)
  simp only [sumR];omega
theorem sumR_eq {f g:Nat→Nat}:∀{n:Nat},(∀i,i < n→f i≤g i)→sumR f n=sumR g n→∀i,i < n→f i=g i
 | 0,_,_,i,hi=>by omega
 | n+1,h,e,i,hi=>by
  simp only [sumR] at e
  have h1:=sumR_le (n:=n) fun i hi=>h i (by omega)
  have h2:=h n (by omega)
  by_cases hn:i=n
  ·subst hn;omega
  ·exact sumR_eq (n:=n) (fun i hi=>h i (by omega)) (by omega) i (by omega)
theorem sumR_zero (n:Nat):sumR (fun _=>0) n=0:=by
 induction n with
 | zero=>rfl
 | succ n ih=>simp [sumR,ih]
theorem sumR_one (p:Nat→Bool) (x:Int):∀n:Nat,sumR (fun i=>if p i=true then (if (x==(i:Int))=true then 1 else 0) else 0) n=if (decide (0≤x∧x < (n:Int))&&p x.toNat)=true then 1 else 0
 | 0=>by simp [sumR];omega
 | n+1=>by
  rw [sumR,sumR_one p x n]
  by_cases hx:x=(n:Int)
  ·subst hx
   have:¬((0:Int)≤n∧(n:Int) < n):=by omega
   have h2:(0:Int)≤(n:Int)∧(n:Int) < ((n+1:Nat):Int):=by omega
   simp [this,show (n:Int) < (n:Int)+1 by omega]
  ·have h1:(x==(n:Int))=false:=by simpa using hx
   have h2:(0≤x∧x < ((n+1:Nat):Int))↔(0≤x∧x < (n:Int)):=by omega
   rw [h1]
   simp only [Bool.false_eq_true,if_false,ite_self,Nat.add_zero,h2]
theorem sumR_count (p:Nat→Bool) (n:Nat):∀L:List Int,sumR (fun i=>if p i=true then L.count (i:Int) else 0) n=L.countP (fun x=>decide (0≤x∧x < (n:Int))&&p x.toNat)
 | []=>by simpa using sumR_zero n
 | x::L=>by
  rw [List.countP_cons,←sumR_count p n L,←sumR_one p x n,←sumR_add]
  refine sumR_congr fun i hi=>?_
  rw [List.count_cons]
  cases p i<;>simp
theorem sumR_is (p:Nat→Bool) (xs:List Int) (q:Int→Bool) (h:∀i (hi:i < xs.length),p i=q xs[i]):∀n,n≤xs.length→sumR (fun i=>if p i=true then 1 else 0) n=(xs.take n).countP q
 | 0,_=>by simp [sumR]
 | n+1,hn=>by
  rw [sumR,sumR_is p xs q h n (by omega),List.take_succ_eq_append_getElem (by omega),List.countP_append,h n (by omega)]
  simp [List.countP_cons]
end Go.Proofs.YtmlcinmdkhmjhaaGreat
